/-
  A framework for runs of Go code over abstract data: what it needs, and that it is sound, part 3.
  Conditions: none.
-/
import Derived.Test.YteaddgnjddjllaaEb
import Derived.MapKept
import Derived.WideKeyRuns
import Derived.Laws.IdiomStrings
set_option linter.all false
namespace Go.E
open Go

mutual
def V.ren (ρ : Key → Key) (θ : Nat → Nat) : V → V
  | .sl eb e cs t => .sl eb e cs (θ t)
  | .ptr k q τ => .ptr (ρ k) q τ
  | .sr k q lo n cp eb e => .sr (ρ k) q lo n cp eb e
  | .mp k => .mp (ρ k)
  | .agg τ vs => .agg τ (V.rens ρ θ vs)
  | .fn f vs => .fn f (V.rens ρ θ vs)
  | .tup vs => .tup (V.rens ρ θ vs)
  | .d τ c => .d τ c
  | .ts eb e cs => .ts eb e cs
  | .emp eb e => .emp eb e
  | .nilc => .nilc
  | .cptr τ c => .cptr τ c
  | .top τ => .top τ
  | .any => .any
def V.rens (ρ : Key → Key) (θ : Nat → Nat) : List V → List V
  | [] => []
  | x :: xs => V.ren ρ θ x :: V.rens ρ θ xs
end
def O.ren (ρ : Key → Key) : O → O
  | .box x => .box (x.ren ρ id)
  | .map kτ vτ es => .map kτ vτ (es.map fun c => (c.1, c.2.ren ρ id))
  | .it l pos => .it l pos
  | .dead τ => .dead τ
theorem O.ren_isDead (ρ : Key → Key) (o : O) : (o.ren ρ).isDead = o.isDead := by cases o <;> rfl
theorem V.ren_ty (ρ : Key → Key) (θ : Nat → Nat) (x : V) : (x.ren ρ θ).ty = x.ty := by cases x <;> simp [V.ren, V.ty]
theorem V.ren_plain (ρ : Key → Key) (θ : Nat → Nat) (x : V) : (x.ren ρ θ).plain = x.plain := by cases x <;> simp [V.ren, V.plain]
theorem V.rens_length (ρ : Key → Key) (θ : Nat → Nat) : ∀ xs : List V, (V.rens ρ θ xs).length = xs.length
  | [] => rfl
  | x :: xs => by simp [V.rens, V.rens_length ρ θ xs]
mutual
theorem V.ren_noSl (ρ : Key → Key) (θ : Nat → Nat) : ∀ x : V, (x.ren ρ θ).noSl = x.noSl
  | .agg τ vs => by simp only [V.ren, V.noSl]; exact V.rens_noSl ρ θ vs
  | .fn f vs => by simp only [V.ren, V.noSl]; exact V.rens_noSl ρ θ vs
  | .tup vs => by simp only [V.ren, V.noSl]; exact V.rens_noSl ρ θ vs
  | .sl _ _ _ _ | .ptr _ _ _ | .sr _ _ _ _ _ _ _ | .mp _ | .d _ _ | .ts _ _ _ | .emp _ _ | .nilc | .cptr _ _ | .top _ | .any => by simp [V.ren, V.noSl]
theorem V.rens_noSl (ρ : Key → Key) (θ : Nat → Nat) : ∀ xs : List V, V.noSls (V.rens ρ θ xs) = V.noSls xs
  | [] => rfl
  | x :: xs => by simp only [V.rens, V.noSls, V.ren_noSl ρ θ x, V.rens_noSl ρ θ xs]
end
mutual
theorem V.ren_ren (ρ ρ' : Key → Key) (h : ∀ k, ρ' (ρ k) = k) : ∀ x : V, (x.ren ρ id).ren ρ' id = x
  | .agg τ vs => by simp only [V.ren, V.rens_rens ρ ρ' h vs]
  | .fn f vs => by simp only [V.ren, V.rens_rens ρ ρ' h vs]
  | .tup vs => by simp only [V.ren, V.rens_rens ρ ρ' h vs]
  | .ptr _ _ _ | .sr _ _ _ _ _ _ _ | .mp _ => by simp [V.ren, h]
  | .sl _ _ _ _ | .d _ _ | .ts _ _ _ | .emp _ _ | .nilc | .cptr _ _ | .top _ | .any => by simp [V.ren]
theorem V.rens_rens (ρ ρ' : Key → Key) (h : ∀ k, ρ' (ρ k) = k) : ∀ xs : List V, V.rens ρ' id (V.rens ρ id xs) = xs
  | [] => rfl
  | x :: xs => by simp only [V.rens, V.ren_ren ρ ρ' h x, V.rens_rens ρ ρ' h xs]
end
theorem O.ren_ren (ρ ρ' : Key → Key) (h : ∀ k, ρ' (ρ k) = k) (o : O) : (o.ren ρ).ren ρ' = o := by
  cases o with
  | box x => simp [O.ren, V.ren_ren ρ ρ' h]
  | map kτ vτ es =>
    simp only [O.ren, List.map_map]
    congr 1
    refine (List.map_congr_left (g := id) fun c _ => ?_).trans (List.map_id _)
    simp [V.ren_ren ρ ρ' h]
  | it => rfl
  | dead => rfl

structure PresR (Γ Γ' : G) (ρ : Key → Key) (hm : Option Key) : Prop where
  H : Γ.H.le Γ'.H
  ι : ∀ k x, Γ.ι k = some x → Γ'.ι (ρ k) = some x
  σ : ∀ b sz, Γ.σ b = some sz → Γ'.σ b = some sz
  κ : ∀ k b p sz, hm = some k → Γ.κ b = some (.home k p, sz) → Γ'.κ b = some (.home (ρ k) p, sz) ∧ Γ'.H b = Γ.H b
section
variable {Γ Γ' : G} {ρ : Key → Key} {θ : Nat → Nat}
mutual
theorem RepX.ren {hm : Option Key} (hp : PresR Γ Γ' ρ hm) (hτ : ∀ t x, Γ.τ t = some x → Γ'.τ (θ t) = some x) : ∀ (x : V) {p : List Nat} {vs : List Value}, RepX Γ hm p x vs → RepX Γ' (hm.map ρ) p (x.ren ρ θ) vs
  | .d τ c, _, _, h => by simp only [RepX, V.ren] at h ⊢; exact h.mono hp.H
  | .sl eb e cs t, _, _, h => by
    simp only [RepX, V.ren] at h ⊢
    obtain ⟨a, n, cap, h1, h2, x, L, h3, h4⟩ := h
    exact ⟨a, n, cap, h1, h2.mono hp.H, x, L, hτ t _ h3, h4⟩
  | .ts eb e cs, _, _, h => by
    simp only [RepX, V.ren] at h ⊢
    obtain ⟨a, n, cap, k, h0, h1, h2, h3⟩ := h
    refine ⟨a, n, cap, ρ k, by rw [h0]; rfl, h1, h2.mono hp.H, ?_⟩
    rcases h3 with h3 | ⟨b, l, sz, a1, a2, a3, a4, a5⟩
    · exact .inl h3
    · obtain ⟨e1, e2⟩ := hp.κ k b _ sz h0 a4
      exact .inr ⟨b, l, sz, a1, by rw [e2, a2], a3, e1, a5⟩
  | .emp _ _, _, _, h => by simpa only [RepX, V.ren] using h
  | .nilc, _, _, h => by simpa only [RepX, V.ren] using h
  | .ptr k q τ, _, _, h => by
    simp only [RepX, V.ren] at h ⊢
    obtain ⟨b, τ0, o, h1, h2⟩ := h
    exact ⟨b, τ0, o, hp.ι _ _ h1, h2⟩
  | .cptr τ c, _, _, h => by
    simp only [RepX, V.ren] at h ⊢
    obtain ⟨b, off, l, h1, h2, h3, h4⟩ := h
    obtain ⟨l', a1, a2, a3⟩ := cptr_pres hp.H h2 h3 h4
    exact ⟨b, off, l', h1, a1, a2, a3⟩
  | .sr k q lo n cp eb e, _, _, h => by
    simp only [RepX, V.ren] at h ⊢
    rcases h with h | ⟨b, τ0, o, m, cap, h1, h2, h3, h4, h5, h6, h7, h8, h9⟩
    · exact .inl h
    exact .inr ⟨b, τ0, o, m, cap, hp.ι _ _ h1, h2, h3, h4, h5, h6, h7, h8, fun e => (h9 e).imp id fun ⟨sz, a1, a2⟩ => ⟨sz, hp.σ _ _ a1, a2⟩⟩
  | .mp k, _, _, h => by
    simp only [RepX, V.ren] at h ⊢
    obtain ⟨b, h1, h2⟩ := h
    exact ⟨b, hp.ι _ _ h1, h2⟩
  | .agg τ xs, _, _, h => by
    simp only [RepX, V.ren] at h ⊢
    exact ⟨h.1, h.2.1, by rw [V.rens_length]; exact h.2.2.1, h.2.2.2.1, RepXs.ren hp hτ xs h.2.2.2.2⟩
  | .fn f caps, _, _, h => by
    simp only [RepX, V.ren] at h ⊢
    obtain ⟨cv, h1, h2⟩ := h
    exact ⟨cv, h1, RepCaps.ren ⟨hp.H, hp.ι, hp.σ, fun _ _ _ _ h => by cases h⟩ hτ caps h2⟩
  | .tup _, _, _, h => by simp only [RepX] at h
  | .top _, _, _, h => by simpa only [RepX, V.ren] using h
  | .any, _, _, _ => by simp only [RepX, V.ren]
theorem RepXs.ren {hm : Option Key} (hp : PresR Γ Γ' ρ hm) (hτ : ∀ t x, Γ.τ t = some x → Γ'.τ (θ t) = some x) : ∀ (xs : List V) {p : List Nat} {i : Nat} {τ : Ty} {vs : List Value}, RepXs Γ hm p i τ xs vs → RepXs Γ' (hm.map ρ) p i τ (V.rens ρ θ xs) vs
  | [], _, _, _, _, _ => by simp only [V.rens, RepXs]
  | x :: xs, _, _, _, _, h => by
    simp only [RepXs, V.rens, V.ren_ty] at h ⊢
    obtain ⟨⟨o, f, h1, h2, h3, h4⟩, h5⟩ := h
    exact ⟨⟨o, f, h1, h2, h3, RepX.ren hp hτ x h4⟩, RepXs.ren hp hτ xs h5⟩
theorem RepCaps.ren (hp : PresR Γ Γ' ρ none) (hτ : ∀ t x, Γ.τ t = some x → Γ'.τ (θ t) = some x) : ∀ (xs : List V) {vs : List Value}, RepCaps Γ xs vs → RepCaps Γ' (V.rens ρ θ xs) vs
  | [], _, h => by simpa only [RepCaps, V.rens] using h
  | x :: xs, _, h => by
    simp only [RepCaps, V.rens, V.ren_ty] at h ⊢
    obtain ⟨v, vs', h1, h2, h3, h4⟩ := h
    exact ⟨v, vs', h1, by simpa using RepX.ren hp hτ x h2, h3, RepCaps.ren hp hτ xs h4⟩
end
mutual
theorem RepX.noTok {hm : Option Key} : ∀ (x : V) {p : List Nat} {vs : List Value}, x.noSl = true → RepX Γ hm p x vs → RepX { Γ with τ := fun _ => none } hm p x vs
  | .sl _ _ _ _, _, _, h, _ => by simp [V.noSl] at h
  | .agg τ xs, _, _, hn, h => by
    simp only [RepX] at h ⊢
    exact ⟨h.1, h.2.1, h.2.2.1, h.2.2.2.1, RepXs.noTok xs (by simpa [V.noSl] using hn) h.2.2.2.2⟩
  | .fn f caps, _, _, hn, h => by
    simp only [RepX] at h ⊢
    obtain ⟨cv, h1, h2⟩ := h
    exact ⟨cv, h1, RepCaps.noTok caps (by simpa [V.noSl] using hn) h2⟩
  | .tup _, _, _, _, h => by simp only [RepX] at h
  | .ts _ _ _, _, _, _, h => by simp only [RepX] at h ⊢; exact h
  | .d _ _, _, _, _, h | .emp _ _, _, _, _, h | .nilc, _, _, _, h | .ptr _ _ _, _, _, _, h | .cptr _ _, _, _, _, h | .sr _ _ _ _ _ _ _, _, _, _, h | .mp _, _, _, _, h | .top _, _, _, _, h => by simpa only [RepX] using h
  | .any, _, _, _, _ => by simp only [RepX]
theorem RepXs.noTok {hm : Option Key} : ∀ (xs : List V) {p : List Nat} {i : Nat} {τ : Ty} {vs : List Value}, V.noSls xs = true → RepXs Γ hm p i τ xs vs → RepXs { Γ with τ := fun _ => none } hm p i τ xs vs
  | [], _, _, _, _, _, _ => by simp only [RepXs]
  | x :: xs, _, _, _, _, hn, h => by
    simp only [RepXs] at h ⊢
    simp only [V.noSls, Bool.and_eq_true] at hn
    obtain ⟨⟨o, f, h1, h2, h3, h4⟩, h5⟩ := h
    exact ⟨⟨o, f, h1, h2, h3, RepX.noTok x hn.1 h4⟩, RepXs.noTok xs hn.2 h5⟩
theorem RepCaps.noTok : ∀ (xs : List V) {vs : List Value}, V.noSls xs = true → RepCaps Γ xs vs → RepCaps { Γ with τ := fun _ => none } xs vs
  | [], _, _, h => by simpa only [RepCaps] using h
  | x :: xs, _, hn, h => by
    simp only [RepCaps] at h ⊢
    simp only [V.noSls, Bool.and_eq_true] at hn
    obtain ⟨v, vs', h1, h2, h3, h4⟩ := h
    exact ⟨v, vs', h1, RepX.noTok x hn.1 h2, h3, RepCaps.noTok xs hn.2 h4⟩
end
theorem RepX.renK {hm : Option Key} (hp : PresR Γ Γ' ρ hm) {x : V} (hn : x.noSl = true) {p : List Nat} {vs : List Value} (h : RepX Γ hm p x vs) : RepX Γ' (hm.map ρ) p (x.ren ρ θ) vs := by
  have h1 := RepX.noTok x hn h
  refine RepX.ren (Γ := { Γ with τ := fun _ => none }) (θ := θ) ⟨hp.H, hp.ι, hp.σ, hp.κ⟩ (fun t x h => by cases h) x h1
theorem O.virt_ren {ρ : Key → Key} {o : O} (h : o.virt) : (o.ren ρ).virt := by
  cases o <;> simp only [O.virt, O.ren] at h ⊢
  obtain ⟨e, rfl⟩ := h
  exact ⟨e, rfl⟩
theorem Own.ren {w w' : World} {k : Key} {o : O} (hp : PresR Γ Γ' ρ (some k)) (hb : o.isDead = false → ∀ b τ, Γ.ι k = some (b, τ) → w'.heap[b]? = w.heap[b]? ∧ Γ'.H b = none ∧ Γ'.Z b = none) (hsz : w.heap.size ≤ w'.heap.size)
    (h : Own Γ w k o) : Own Γ' w' (ρ k) (o.ren ρ) := by
  cases o with
  | box x =>
    obtain ⟨b, cells, T, h1, h2, h3, h4, h5, h6, h7, h8⟩ := h
    obtain ⟨e1, e2, e3⟩ := hb rfl _ _ h1
    exact ⟨b, cells, T, by rw [V.ren_ty]; exact hp.ι _ _ h1, e2, e3, by rw [e1, h4], by rw [V.ren_ty]; exact h5, by rw [V.ren_ty]; exact h6.renK hp h8, by rw [V.ren_plain]; exact h7, by rw [V.ren_noSl]; exact h8⟩
  | map kτ vτ es =>
    obtain ⟨b, ms, clock, h1, h2, h3, h4, h5, h6, h7⟩ := h
    obtain ⟨e1, e2, e3⟩ := hb rfl _ _ h1
    refine ⟨b, ms, clock, hp.ι _ _ h1, e2, e3, by rw [e1, h4], by simpa using h5, fun i m c hm hc => ?_, h7⟩
    simp only [List.getElem?_map] at hc
    cases hi : es[i]? with
    | none => simp [hi] at hc
    | some c0 =>
      simp [hi] at hc
      subst hc
      obtain ⟨a1, a2, a3, a4, a5, a6, a7⟩ := h6 i m c0 hm hi
      exact ⟨a1.mono hp.H, a2, by simpa using RepX.renK (hm := none) ⟨hp.H, hp.ι, hp.σ, fun _ _ _ _ h => by cases h⟩ a7 a3, a4, by simp only [V.ren_ty]; exact a5, by simp only [V.ren_plain]; exact a6, by simp only [V.ren_noSl]; exact a7⟩
  | it l pos =>
    obtain ⟨b, adr, v, h1, h2, h3, h4, h5, h6, h7⟩ := h
    obtain ⟨e1, e2, e3⟩ := hb rfl _ _ h1
    refine ⟨b, adr, v, hp.ι _ _ h1, e2, e3, by rw [e1, h4], h5, h6, ?_⟩
    rcases h7 with h7 | ⟨g, cap, g1, g2, g3, g4⟩
    · exact .inl h7
    · obtain ⟨q1, q2⟩ := hp.κ _ g _ _ rfl g3
      exact .inr ⟨g, cap, g1, by rw [q2]; exact g2, q1, g4⟩
  | dead τ =>
    obtain ⟨b, h1, h4⟩ := h
    exact ⟨b, hp.ι _ _ h1, by omega⟩

mutual
def V.detok : V → V
  | .sl eb e cs _ => .d (.slice eb e) (.slice cs)
  | .agg τ vs => .agg τ (V.detoks vs)
  | .fn f vs => .fn f (V.detoks vs)
  | .tup vs => .tup (V.detoks vs)
  | x => x
def V.detoks : List V → List V
  | [] => []
  | x :: xs => V.detok x :: V.detoks xs
end
theorem V.detok_ty (x : V) : x.detok.ty = x.ty := by cases x <;> simp [V.detok, V.ty]
theorem V.detoks_length : ∀ xs : List V, (V.detoks xs).length = xs.length
  | [] => rfl
  | x :: xs => by simp [V.detoks, V.detoks_length xs]
mutual
theorem V.detok_noSl : ∀ x : V, x.detok.noSl = true
  | .agg τ vs => by simp only [V.detok, V.noSl]; exact V.detoks_noSl vs
  | .fn f vs => by simp only [V.detok, V.noSl]; exact V.detoks_noSl vs
  | .tup vs => by simp only [V.detok, V.noSl]; exact V.detoks_noSl vs
  | .sl _ _ _ _ | .ptr _ _ _ | .sr _ _ _ _ _ _ _ | .mp _ | .d _ _ | .ts _ _ _ | .emp _ _ | .nilc | .cptr _ _ | .top _ | .any => by simp [V.detok, V.noSl]
theorem V.detoks_noSl : ∀ xs : List V, V.noSls (V.detoks xs) = true
  | [] => rfl
  | x :: xs => by simp only [V.detoks, V.noSls, V.detok_noSl x, V.detoks_noSl xs, Bool.and_self]
end
mutual
theorem RepX.detok {hm : Option Key} : ∀ (x : V) {p : List Nat} {vs : List Value}, RepX Γ hm p x vs → RepX Γ hm p x.detok vs
  | .sl _ _ _ _, _, _, h => by
    simp only [RepX, V.detok] at h ⊢
    obtain ⟨a, n, cap, rfl, h2, _⟩ := h
    exact h2
  | .agg τ xs, _, _, h => by
    simp only [RepX, V.detok] at h ⊢
    exact ⟨h.1, h.2.1, by rw [V.detoks_length]; exact h.2.2.1, h.2.2.2.1, RepXs.detok xs h.2.2.2.2⟩
  | .fn f caps, _, _, h => by
    simp only [RepX, V.detok] at h ⊢
    obtain ⟨cv, h1, h2⟩ := h
    exact ⟨cv, h1, RepCaps.detok caps h2⟩
  | .tup _, _, _, h => by simp only [RepX] at h
  | .d _ _, _, _, h | .ts _ _ _, _, _, h | .emp _ _, _, _, h | .nilc, _, _, h | .ptr _ _ _, _, _, h | .cptr _ _, _, _, h | .sr _ _ _ _ _ _ _, _, _, h | .mp _, _, _, h | .top _, _, _, h => by simpa only [RepX, V.detok] using h
  | .any, _, _, _ => by simp only [RepX, V.detok]
theorem RepXs.detok {hm : Option Key} : ∀ (xs : List V) {p : List Nat} {i : Nat} {τ : Ty} {vs : List Value}, RepXs Γ hm p i τ xs vs → RepXs Γ hm p i τ (V.detoks xs) vs
  | [], _, _, _, _, _ => by simp only [V.detoks, RepXs]
  | x :: xs, _, _, _, _, h => by
    simp only [RepXs, V.detoks, V.detok_ty] at h ⊢
    obtain ⟨⟨o, f, h1, h2, h3, h4⟩, h5⟩ := h
    exact ⟨⟨o, f, h1, h2, h3, RepX.detok x h4⟩, RepXs.detok xs h5⟩
theorem RepCaps.detok : ∀ (xs : List V) {vs : List Value}, RepCaps Γ xs vs → RepCaps Γ (V.detoks xs) vs
  | [], _, h => by simpa only [RepCaps, V.detoks] using h
  | x :: xs, _, h => by
    simp only [RepCaps, V.detoks, V.detok_ty] at h ⊢
    obtain ⟨v, vs', h1, h2, h3, h4⟩ := h
    exact ⟨v, vs', h1, RepX.detok x h2, h3, RepCaps.detok xs h4⟩
end
theorem RepV.detok {x : V} {v : Value} (h : RepV Γ x v) : RepV Γ x.detok v := by
  cases x <;> (try exact h)
  case sl => obtain ⟨h1, h2⟩ := h; exact ⟨RepX.detok _ h1, h2⟩
  case agg => obtain ⟨h1, h2⟩ := h; exact ⟨RepX.detok _ h1, h2⟩
  case fn => obtain ⟨h1, h2⟩ := h; exact ⟨RepX.detok _ h1, h2⟩
  case tup => obtain ⟨vs, h1, h2⟩ := h; exact ⟨vs, h1, RepCaps.detok _ h2⟩
theorem RepV.ren {x : V} {v : Value} (hp : PresR Γ Γ' ρ none) (hτ : ∀ t x, Γ.τ t = some x → Γ'.τ (θ t) = some x) (h : RepV Γ x v) : RepV Γ' (x.ren ρ θ) v := by
  cases x
  case any => trivial
  case tup vs => obtain ⟨us, h1, h2⟩ := h; exact ⟨us, h1, RepCaps.ren hp hτ _ h2⟩
  all_goals
    obtain ⟨h1, h2⟩ := h
    have := RepX.ren hp hτ _ h1
    exact (repV_plain (by simp [V.ren, V.plain])).2 ⟨this, by simpa [V.ren_ty] using h2⟩
theorem RepV.renK {x : V} {v : Value} (hp : PresR Γ Γ' ρ none) (hn : x.noSl = true) (h : RepV Γ x v) : RepV Γ' (x.ren ρ θ) v := by
  cases x
  case any => trivial
  case tup vs =>
    obtain ⟨us, h1, h2⟩ := h
    refine ⟨us, h1, ?_⟩
    exact RepCaps.ren (Γ := { Γ with τ := fun _ => none }) (θ := θ) ⟨hp.H, hp.ι, hp.σ, hp.κ⟩ (fun t x h => by cases h) _ (RepCaps.noTok _ (by simpa [V.noSl] using hn) h2)
  all_goals
    obtain ⟨h1, h2⟩ := h
    have := RepX.renK (θ := θ) hp hn h1
    exact (repV_plain (by simp [V.ren, V.plain])).2 ⟨this, by simpa [V.ren_ty] using h2⟩
end
end Go.E


namespace Go.E
open Go

structure Cx where
  P : Program
  gl : Nat → Option (Ty × C)

def V.slot (n : Nat) : V → V
  | .ts eb e cs => .sl eb e cs n
  | x => x
def slots : Nat → List V → List V
  | _, [] => []
  | n, x :: xs => x.slot n :: slots (n + 1) xs
def V.tkOf (n : Nat) : V → List (Nat × Option Nat)
  | .ts _ _ cs => [(n, some cs.length)]
  | _ => []
def tksOf : Nat → List V → List (Nat × Option Nat)
  | _, [] => []
  | n, x :: xs => x.tkOf n ++ tksOf (n + 1) xs
def V.slotR (n : Nat) : V → V
  | .tup vs => .tup (slots n vs)
  | x => x.slot n
def V.tkR (n : Nat) : V → List (Nat × Option Nat)
  | .tup vs => tksOf n vs
  | x => x.tkOf n
def numbered : Nat → List V → List (Nat × V)
  | _, [] => []
  | i, x :: xs => (i, x) :: numbered (i + 1) xs
def S.start (xs : List V) (A : Key → Option O) : S := ⟨numbered 0 (slots 1000 xs), [], A, tksOf 1000 xs⟩
def S.fin (v : V) (L : List (Key × O)) (A : Key → Option O) : S := ⟨[], L, A, v.tkR 2000⟩

mutual
def V.ok (f g : Nat → Bool) : V → Bool
  | .ptr (.l k) _ _ | .mp (.l k) | .sr (.l k) _ _ _ _ _ _ => f k
  | .sl _ _ _ t => g t
  | .agg _ vs | .fn _ vs | .tup vs => V.oks f g vs
  | _ => true
def V.oks (f g : Nat → Bool) : List V → Bool
  | [] => true
  | x :: xs => x.ok f g && V.oks f g xs
end
def V.oksM (f g : Nat → Bool) : List (C × V) → Bool
  | [] => true
  | x :: xs => x.2.ok f g && V.oksM f g xs
def O.ok (f g : Nat → Bool) : O → Bool
  | .box x => x.ok f g
  | .map _ _ es => V.oksM f g es
  | .it _ _ | .dead _ => true
def none0 : Nat → Bool := fun _ => false
def AOk (A : Key → Option O) : Prop := ∀ k o, A k = some o → o.ok none0 none0 = true
def DCalls (X : Cx) (f : FuncId) (xs : List V) (A : Key → Option O) (v : V) (L : List (Key × O)) : Prop :=
  ∀ (A' : Key → Option O) (Γ : G) (w : World) (args : Array Value), (∀ k o, A k = some o → A' k = some o) → Γ.gl = X.gl → Conc Γ w (S.start xs A') ∧ AOk A' → xs.length = args.size → (∀ (i : Nat) x u, (slots 1000 xs)[i]? = some x → args[i]? = some u → RepV Γ x u) →
    Calls X.P f args w fun e w' => ∃ u Γ', e = .returned u ∧ GLe Γ Γ' ∧ Conc Γ' w' (S.fin v L A') ∧ RepV Γ' (v.slotR 2000) u

theorem slots_length : ∀ (n : Nat) (xs : List V), (slots n xs).length = xs.length
  | _, [] => rfl
  | n, x :: xs => by simp [slots, slots_length (n + 1) xs]
theorem slots_get : ∀ (n : Nat) (xs : List V) (i : Nat), (slots n xs)[i]? = (xs[i]?).map (V.slot (n + i))
  | _, [], i => by simp [slots]
  | n, x :: xs, 0 => by simp [slots]
  | n, x :: xs, i + 1 => by simp only [slots, List.getElem?_cons_succ, slots_get (n + 1) xs i]; rw [show n + 1 + i = n + (i + 1) by omega]
theorem look_append {α : Type} : ∀ (l m : List (Nat × α)) (n : Nat), look (l ++ m) n = match look l n with | some x => some x | none => look m n
  | [], _, _ => rfl
  | (j, x) :: l, m, n => by
    simp only [List.cons_append, look]
    split
    · rfl
    · exact look_append l m n
theorem tkOf_look (n : Nat) (x : V) (t : Nat) : look (x.tkOf n) t = if n = t then (match x with | .ts _ _ cs => some (some cs.length) | _ => none) else none := by
  cases x <;> simp [V.tkOf, look]
theorem tksOf_look : ∀ (n : Nat) (xs : List V) (t : Nat), look (tksOf n xs) t = if n ≤ t then (match xs[t - n]? with | some (.ts _ _ cs) => some (some cs.length) | _ => none) else none
  | n, [], t => by simp [tksOf, look]
  | n, x :: xs, t => by
    simp only [tksOf, look_append, tkOf_look, tksOf_look (n + 1) xs t]
    by_cases h1 : n = t
    · subst h1
      simp only [if_true, Nat.le_refl, Nat.sub_self, List.getElem?_cons_zero]
      cases x <;> simp
      all_goals (intro h; omega)
    · rw [if_neg h1]
      by_cases h2 : n ≤ t
      · rw [if_pos h2, if_pos (by omega), show t - n = (t - (n + 1)) + 1 by omega, List.getElem?_cons_succ]
      · rw [if_neg h2, if_neg (by omega)]

def V.noTsTop : V → Bool
  | .ts _ _ _ => false
  | _ => true
def argOf (P : Program) (tip : Bool) (s : S) (T : TypeId) (x : V) : V :=
  match x with
  | .sl eb e cs t => if tip = true ∧ s.live t = some cs.length then .ts eb e cs else .d (.slice eb e) (.slice cs)
  | .emp eb e => if tip = true then .ts eb e [] else .d (.slice eb e) (.slice [])
  | .nilc => match ty P T with
    | .slice eb e => if tip = true then .ts eb e [] else .d (.slice eb e) (.slice [])
    | _ => if tip = true then .ts 0 (.opq 0) [] else .nilc
  | .agg τ vs => match closeV (.agg τ vs) with
    | some c => .d τ c
    | none => (V.agg τ vs).detok.ren .g id
  | x => x.detok.ren .g id
def argsOf (P : Program) (tip : Bool) (s : S) : List TypeId → List V → List V
  | T :: Ts, x :: xs => argOf P tip s T x :: argsOf P tip s Ts xs
  | _, _ => []
def argTk (tip : Bool) (s : S) (x : V) : Option (Option Nat) :=
  match x with
  | .sl _ _ cs t => if tip = true ∧ s.live t = some cs.length then some (some t) else none
  | .emp _ _ | .nilc => if tip = true then some none else none
  | _ => none
def passed (tip : Bool) (s : S) : List V → List Nat
  | [] => []
  | x :: xs => (match argTk tip s x with | some (some t) => [t] | _ => []) ++ passed tip s xs
def nodupN : List Nat → Bool
  | [] => true
  | x :: xs => !(xs.contains x) && nodupN xs
theorem argTk_ts {P : Program} {tip : Bool} {s : S} {T : TypeId} {x : V} {eb : Nat} {e : Ty} {cs : List C} (h : argOf P tip s T x = .ts eb e cs) (hx : x.noTsTop = true) :
    (∃ t, x = .sl eb e cs t ∧ argTk tip s x = some (some t) ∧ s.live t = some cs.length) ∨ (cs = [] ∧ argTk tip s x = some none) := by
  cases x <;> simp only [argOf] at h
  case sl eb' e' cs' t =>
    split at h
    · rename_i hc; cases h; exact .inl ⟨t, rfl, by simp [argTk, hc], hc.2⟩
    · cases h
  case emp eb' e' =>
    split at h
    · rename_i hc; cases h; exact .inr ⟨rfl, by simp [argTk, hc]⟩
    · cases h
  case nilc =>
    split at h
    · split at h
      · rename_i hc; cases h; exact .inr ⟨rfl, by simp [argTk, hc]⟩
      · cases h
    · split at h
      · rename_i hc; cases h; exact .inr ⟨rfl, by simp [argTk, hc]⟩
      · cases h
  case agg => split at h <;> simp [V.detok, V.ren] at h
  case ts => simp [V.noTsTop] at hx
  all_goals (simp [V.detok, V.ren] at h)
theorem mem_passed {tip : Bool} {s : S} : ∀ {xs : List V} {i : Nat} {x : V} {t : Nat}, xs[i]? = some x → argTk tip s x = some (some t) → t ∈ passed tip s xs
  | [], _, _, _, h, _ => by simp at h
  | y :: ys, 0, x, t, h, hx => by simp at h; subst h; simp [passed, hx]
  | y :: ys, i + 1, x, t, h, hx => by simp only [passed, List.mem_append]; exact .inr (mem_passed (by simpa using h) hx)
theorem passed_inj {tip : Bool} {s : S} : ∀ {xs : List V} {i j : Nat} {x y : V} {t : Nat}, nodupN (passed tip s xs) = true → xs[i]? = some x → xs[j]? = some y → argTk tip s x = some (some t) → argTk tip s y = some (some t) → i = j
  | [], _, _, _, _, _, _, h, _, _, _ => by simp at h
  | z :: zs, i, j, x, y, t, hn, hi, hj, hx, hy => by
    have key : ∀ {k : Nat} {u : V}, zs[k]? = some u → argTk tip s u = some (some t) → argTk tip s z = some (some t) → False := by
      intro k u hk hu hz
      have := mem_passed hk hu
      simp [passed, hz, nodupN] at hn
      exact hn.1 this
    cases i with
    | zero =>
      simp at hi; subst hi
      cases j with
      | zero => rfl
      | succ j => exact (key (by simpa using hj) hy hx).elim
    | succ i =>
      cases j with
      | zero => simp at hj; subst hj; exact (key (by simpa using hi) hx hy).elim
      | succ j =>
        have hn' : nodupN (passed tip s zs) = true := by
          simp only [passed] at hn
          split at hn
          · simp [nodupN] at hn; exact hn.2
          · simpa using hn
        have := passed_inj (i := i) (j := j) hn' (by simpa using hi) (by simpa using hj) hx hy
        omega
theorem argsOf_get {P : Program} {tip : Bool} {s : S} : ∀ {Ts : List TypeId} {xs : List V} {i : Nat} {z : V}, (argsOf P tip s Ts xs)[i]? = some z → ∃ (T : TypeId) (x : V), Ts[i]? = some T ∧ xs[i]? = some x ∧ z = argOf P tip s T x
  | [], _, _, _, h => by simp [argsOf] at h
  | _ :: _, [], _, _, h => by simp [argsOf] at h
  | T :: Ts, x :: xs, 0, z, h => by simp [argsOf] at h; exact ⟨T, x, rfl, rfl, h.symm⟩
  | T :: Ts, x :: xs, i + 1, z, h => by
    simp only [argsOf, List.getElem?_cons_succ] at h
    obtain ⟨T', x', h1, h2, h3⟩ := argsOf_get h
    exact ⟨T', x', by simpa using h1, by simpa using h2, h3⟩
theorem argsOf_length {P : Program} {tip : Bool} {s : S} : ∀ {Ts : List TypeId} {xs : List V}, Ts.length = xs.length → (argsOf P tip s Ts xs).length = xs.length
  | [], [], _ => rfl
  | T :: Ts, x :: xs, h => by simp [argsOf, argsOf_length (Ts := Ts) (xs := xs) (by simpa using h)]
  | [], _ :: _, h => by simp at h
  | _ :: _, [], h => by simp at h

def argIx (tip : Bool) (s : S) (t : Nat) : Nat → List V → Option Nat
  | _, [] => none
  | i, x :: xs => if argTk tip s x = some (some t) then some i else argIx tip s t (i + 1) xs
theorem argIx_some {tip : Bool} {s : S} {t : Nat} : ∀ {xs : List V} {i j : Nat}, argIx tip s t i xs = some j → ∃ (k : Nat) (x : V), j = i + k ∧ xs[k]? = some x ∧ argTk tip s x = some (some t)
  | [], _, _, h => by simp [argIx] at h
  | x :: xs, i, j, h => by
    simp only [argIx] at h
    split at h
    · rename_i hx; cases h; exact ⟨0, x, rfl, rfl, hx⟩
    · obtain ⟨k, y, h1, h2, h3⟩ := argIx_some h
      exact ⟨k + 1, y, by omega, by simpa using h2, h3⟩
theorem argIx_none {tip : Bool} {s : S} {t : Nat} : ∀ {xs : List V} {i : Nat}, argIx tip s t i xs = none → t ∉ passed tip s xs
  | [], _, _ => by simp [passed]
  | x :: xs, i, h => by
    simp only [argIx] at h
    split at h
    · cases h
    · rename_i hx
      have := argIx_none h
      simp only [passed, List.mem_append, not_or]
      refine ⟨?_, this⟩
      cases ha : argTk tip s x with
      | none => simp
      | some o => cases o with
        | none => simp
        | some u => simp; intro e; subst e; exact hx ha
end Go.E


namespace Go.E
open Go

def G.call (Γ : G) (w : World) (tip : Bool) (s : S) (ys : List V) : G :=
  { H := Γ.H
    Z := fun b => match Γ.Z b with
      | some o => some o
      | none => match Γ.κ b with
        | some (.tok t, _) => match argIx tip s t 0 ys with
          | some _ => none
          | none => w.heap[b]?
        | _ => none
    ι := fun k => match k with
      | .l _ => none
      | .g k => Γ.ι k
    τ := fun m => if 1000 ≤ m then (match ys[m - 1000]? with
      | some y => (match argTk tip s y with
        | some (some t) => Γ.τ t
        | some none => some (none, 0)
        | none => none)
      | none => none) else none
    κ := fun b => match Γ.κ b with
      | some (.home k p, sz) => some (.home (.g k) p, sz)
      | some (.tok t, sz) => match argIx tip s t 0 ys with
        | some i => some (.tok (1000 + i), sz)
        | none => none
      | none => none
    gl := Γ.gl
    oo := Γ.oo
    σ := Γ.σ }
def S.up (s : S) : Key → Option O := fun k => (s.obj k).map (O.ren .g)

section
variable {P : Program} {Γ : G} {w : World} {s : S} {tip : Bool} {ys : List V} {Ts : List TypeId}
theorem call_Z (Γ : G) (w : World) (tip : Bool) (s : S) (ys : List V) {b : Nat} (hz : Γ.Z b = none) (h : ∀ t sz, Γ.κ b = some (.tok t, sz) → argIx tip s t 0 ys ≠ none) : (Γ.call w tip s ys).Z b = none := by
  simp only [G.call, hz]
  cases hk : Γ.κ b with
  | none => rfl
  | some x =>
    obtain ⟨o, sz⟩ := x
    cases o with
    | home => rfl
    | tok t =>
      simp only
      cases ha : argIx tip s t 0 ys with
      | some _ => rfl
      | none => exact absurd ha (h t sz hk)
theorem call_presR (Γ : G) (w : World) (tip : Bool) (s : S) (ys : List V) (hm : Option Key) : PresR Γ (Γ.call w tip s ys) .g hm :=
  ⟨Hp.le_refl _, fun k x h => h, fun _ _ h => h, fun k b p sz _ h => ⟨by simp [G.call, h], rfl⟩⟩

theorem argTk_spec {y : V} {u : Value} (c : Conc Γ w s) (hr : RepV Γ y u) {m : Option Nat} (h : argTk tip s y = some m) :
    ∀ T, ∃ eb e cs, argOf P tip s T y = .ts eb e cs := by
  intro T
  cases y <;> simp only [argTk, reduceCtorEq] at h
  case sl eb e cs t =>
    split at h
    · rename_i hc; exact ⟨eb, e, cs, by simp [argOf, hc]⟩
    · cases h
  case emp eb e =>
    split at h
    · rename_i hc; exact ⟨eb, e, [], by simp [argOf, hc]⟩
    · cases h
  case nilc =>
    split at h
    · rename_i hc
      simp only [argOf, hc, if_true]
      split
      · exact ⟨_, _, _, rfl⟩
      · exact ⟨_, _, _, rfl⟩
    · cases h

structure Args (P : Program) (Γ : G) (tip : Bool) (s : S) (Ts : List TypeId) (ys : List V) (us : List Value) : Prop where
  len : Ts.length = ys.length
  len2 : ys.length = us.length
  rep : ∀ (i : Nat) (y : V) (u : Value), ys[i]? = some y → us[i]? = some u → RepV Γ y u
  nd : nodupN (passed tip s ys) = true

theorem Args.ix {us : List Value} (a : Args P Γ tip s Ts ys us) {t i : Nat} {y : V} (hy : ys[i]? = some y) (ht : argTk tip s y = some (some t)) : argIx tip s t 0 ys = some i := by
  cases h : argIx tip s t 0 ys with
  | none => exact absurd (mem_passed hy ht) (argIx_none h)
  | some j =>
    obtain ⟨k, x, h1, h2, h3⟩ := argIx_some h
    have := passed_inj a.nd hy h2 ht h3
    rw [h1, this]; simp

theorem Conc.call (c : Conc Γ w s) {us : List Value} (a : Args P Γ tip s Ts ys us) : Conc (Γ.call w tip s ys) w (S.start (argsOf P tip s Ts ys) s.up) := by
  have hobj : ∀ k o, (S.start (argsOf P tip s Ts ys) s.up).obj k = some o → ∃ k' o', k = .g k' ∧ s.obj k' = some o' ∧ o = o'.ren .g := by
    intro k o h
    cases k with
    | l n => simp [S.start, S.obj, objOf, lookK] at h
    | g k =>
      have h : s.up k = some o := by simpa [S.start, S.obj, objOf, lookK] using h
      simp only [S.up] at h
      cases ho : s.obj k with
      | none => simp [ho] at h
      | some o' => simp [ho] at h; exact ⟨k, o', rfl, ho, h.symm⟩
  have hdead : ∀ k, s.deadK k = true → (S.start (argsOf P tip s Ts ys) s.up).deadK (.g k) = true := by
    intro k h
    cases ho : s.obj k with
    | none => simp [S.deadK, deadO, ho] at h
    | some o =>
      have e : (S.start (argsOf P tip s Ts ys) s.up).obj (.g k) = some (o.ren .g) := by simp [S.start, S.obj, objOf, lookK, S.up] at ho ⊢; exact ⟨o, ho, rfl⟩
      rw [deadK_obj e, O.ren_isDead]; rw [deadK_obj ho] at h; exact h
  refine ⟨c.hH, fun b o h => ?_, fun b o sz h => ?_, fun k o h => ?_, fun k h => ?_, fun k k' b τ τ' h1 h2 => ?_, fun m L h => ?_, fun m h => ?_, c.hgl, c.hoo, c.hσ⟩
  · simp only [G.call] at h
    cases hz : Γ.Z b with
    | some o' => simp [hz] at h; subst h; exact c.hZ b _ hz
    | none =>
      simp only [hz] at h
      cases hk : Γ.κ b with
      | none => simp [hk] at h
      | some x =>
        obtain ⟨t, sz⟩ := x
        cases t with
        | home => simp [hk] at h
        | tok t =>
          simp only [hk] at h
          split at h
          · cases h
          · exact h
  · cases hk : Γ.κ b with
    | none => simp [G.call, hk] at h
    | some x =>
      obtain ⟨o', sz'⟩ := x
      obtain ⟨a1, a2, arr, T, a3, a4, a5⟩ := c.hκ b o' sz' hk
      have hT : TipT o T := by
        cases o' with
        | home _ p => simp [G.call, hk] at h; rw [← h.1]; cases p <;> exact a5
        | tok t =>
          simp only [G.call, hk] at h
          cases hi : argIx tip s t 0 ys with
          | none => simp [hi] at h
          | some i => simp [hi] at h; rw [← h.1]; trivial
      have hsz : sz' = sz ∧ ∀ t, o' = .tok t → argIx tip s t 0 ys ≠ none := by
        cases o' with
        | home => simp [G.call, hk] at h; exact ⟨h.2, fun t e => by cases e⟩
        | tok t =>
          simp only [G.call, hk] at h
          cases hi : argIx tip s t 0 ys with
          | none => simp [hi] at h
          | some i => simp [hi] at h; exact ⟨h.2, fun t' e => by cases e; rw [hi]; simp⟩
      obtain ⟨rfl, hix⟩ := hsz
      exact ⟨call_Z Γ w tip s ys a1 (fun t sz h => by rw [hk] at h; cases h; exact hix t rfl), a2, arr, T, a3, a4, hT⟩
  · obtain ⟨k', o', rfl, ho, rfl⟩ := hobj k o h
    refine (c.obj k' o' ho).imp (fun h => ⟨h.1, O.virt_ren h.2⟩) fun hown => hown.ren (call_presR Γ w tip s ys _) (fun hd b τ hb => ?_) (Nat.le_refl _)
    obtain ⟨a1, a2, _⟩ := c.ιlive hb ho hd
    refine ⟨rfl, a1, call_Z Γ w tip s ys a2 fun t sz hk => ?_⟩
    exact absurd a1 (c.hκ b _ _ hk).2.1
  · cases k with
    | l n => simp [G.call] at h
    | g k =>
      have h' : Γ.ι k ≠ none := h
      have := c.dom k h'
      cases ho : s.obj k with
      | none => exact absurd ho this
      | some o =>
        have : (S.start (argsOf P tip s Ts ys) s.up).obj (.g k) = s.up k := by simp [S.start, S.obj, objOf, lookK]
        rw [this, S.up, ho]; simp
  · cases k with
    | l n => simp [G.call] at h1
    | g k => cases k' with
      | l n => simp [G.call] at h2
      | g k' => exact (c.inj k k' b τ τ' h1 h2).imp (congrArg Key.g) (And.imp (Or.imp (hdead k) (hdead k')) id)
  · -- live tokens are those of arguments
    simp only [S.start, S.live, liveT, tksOf_look] at h
    by_cases hm : 1000 ≤ m
    · rw [if_pos hm] at h
      cases hx : (argsOf P tip s Ts ys)[m - 1000]? with
      | none => simp [hx] at h
      | some z =>
        obtain ⟨T, y, _, hy, hz⟩ := argsOf_get hx
        have hlt : m - 1000 < us.length := by rw [← a.len2]; exact (List.getElem?_eq_some_iff.1 hy).1
        have hr := a.rep _ y _ hy (List.getElem?_eq_getElem hlt)
        have hnt : y.noTsTop = true := by
          cases y <;> (try rfl)
          obtain ⟨h1, _⟩ := hr
          simp only [RepX] at h1
          obtain ⟨_, _, _, _, h0, _⟩ := h1
          cases h0
        cases z <;> simp [hx] at h
        rename_i eb e cs
        subst h
        rcases argTk_ts hz.symm hnt with ⟨t, rfl, h2, h3⟩ | ⟨rfl, h2⟩
        · obtain ⟨x, h4, h5⟩ := c.tok t _ h3
          refine ⟨x, by simp [G.call, hm, hy, h2, h4], fun b pos sz hxx => ?_⟩
          obtain ⟨a1, a2⟩ := h5 b pos sz hxx
          refine ⟨a1, ?_⟩
          simp only [G.call, a2, a.ix hy h2]
          rw [show 1000 + (m - 1000) = m by omega]
        · exact ⟨none, by simp [G.call, hm, hy, h2], fun b pos sz h => by cases h⟩
    · rw [if_neg hm] at h; cases h
  · simp only [G.call] at h
    by_cases hm : 1000 ≤ m
    · rw [if_pos hm] at h
      cases hy : ys[m - 1000]? with
      | none => simp [hy] at h
      | some y =>
        simp only [hy] at h
        cases ht : argTk tip s y with
        | none => simp [ht] at h
        | some o =>
          have hlt : m - 1000 < us.length := by rw [← a.len2]; exact (List.getElem?_eq_some_iff.1 hy).1
          have hr := a.rep _ y _ hy (List.getElem?_eq_getElem hlt)
          have hlT : m - 1000 < Ts.length := by rw [a.len]; exact (List.getElem?_eq_some_iff.1 hy).1
          obtain ⟨eb, e, cs, hget⟩ : ∃ eb e cs, (argsOf P tip s Ts ys)[m - 1000]? = some (.ts eb e cs) := by
            have hl : m - 1000 < (argsOf P tip s Ts ys).length := by rw [argsOf_length a.len]; exact (List.getElem?_eq_some_iff.1 hy).1
            cases hz : (argsOf P tip s Ts ys)[m - 1000]? with
            | none => rw [List.getElem?_eq_none_iff] at hz; omega
            | some z =>
              obtain ⟨T, y', _, hy', hz'⟩ := argsOf_get hz
              rw [hy] at hy'; cases hy'
              obtain ⟨eb, e, cs, h2⟩ := argTk_spec (P := P) c hr ht T
              exact ⟨eb, e, cs, by rw [hz', h2]⟩
          simp [S.start, S.known, tksOf_look, hm, hget]
    · rw [if_neg hm] at h; exact absurd rfl h

theorem argOf_rep (c : Conc Γ w s) {us : List Value} (a : Args P Γ tip s Ts ys us) {i : Nat} {T : TypeId} {y : V} {u : Value} (hy : ys[i]? = some y) (hr : RepV Γ y u) :
    RepV (Γ.call w tip s ys) ((argOf P tip s T y).slot (1000 + i)) u := by
  have pr := call_presR Γ w tip s ys none
  have hd : ∀ {eb : Nat} {e : Ty} {cs : List C} {vs : List Value}, RepC Γ.H (.slice eb e) vs (.slice cs) → RepC (Γ.call w tip s ys).H (.slice eb e) vs (.slice cs) := fun h => h
  have gen : RepV (Γ.call w tip s ys) (y.detok.ren .g id) u := RepV.renK pr (V.detok_noSl y) hr.detok
  cases y
  case sl eb e cs t =>
    obtain ⟨h1, h2⟩ := (repV_one rfl rfl).1 hr
    simp only [RepX] at h1
    obtain ⟨aa, n, cap, hv, hrc, htk⟩ := h1
    simp at hv; subst hv
    by_cases hc : tip = true ∧ s.live t = some cs.length
    · have ha : argTk tip s (.sl eb e cs t) = some (some t) := by simp [argTk, hc]
      simp only [argOf, if_pos hc, V.slot]
      refine (repV_one rfl rfl).2 ⟨?_, rfl⟩
      simp only [RepX]
      obtain ⟨x, L, q1, q2, q3⟩ := htk
      exact ⟨aa, n, cap, rfl, hrc, x, L, by simp [G.call, hy, ha, q1], q2, q3⟩
    · simp only [argOf, if_neg hc, V.slot]
      exact repV_mk_slice hrc
  case emp eb e =>
    obtain ⟨h1, h2⟩ := (repV_one rfl rfl).1 hr
    simp only [RepX] at h1
    obtain ⟨aa, hv⟩ := h1
    simp at hv; subst hv
    have hrc : RepC (Γ.call w tip s ys).H (.slice eb e) [.slice aa 0 0] (.slice []) := repC_mk_slice rfl (Nat.le_refl _) (Nat.zero_le _) (by rw [Nat.zero_mul]; exact Nat.zero_le _) (.inl rfl)
    by_cases hc : tip = true
    · have ha : argTk tip s (.emp eb e) = some none := by simp [argTk, hc]
      simp only [argOf, if_pos hc, V.slot]
      refine (repV_one rfl rfl).2 ⟨?_, rfl⟩
      simp only [RepX]
      exact ⟨aa, 0, 0, rfl, hrc, none, 0, by simp [G.call, hy, ha], Nat.le_refl _, fun _ => rfl⟩
    · simp only [argOf, if_neg hc, V.slot]
      exact repV_mk_slice hrc
  case nilc =>
    have hts : ∀ (eb : Nat) (e : Ty), tip = true → RepV (Γ.call w tip s ys) (V.slot (1000 + i) (.ts eb e [])) (.slice none 0 0) := by
      intro eb e hc
      have ha : argTk tip s .nilc = some none := by simp [argTk, hc]
      simp only [V.slot]
      refine (repV_one rfl rfl).2 ⟨?_, rfl⟩
      simp only [RepX]
      exact ⟨none, 0, 0, rfl, repC_mk_slice rfl (Nat.le_refl _) (Nat.zero_le _) (by rw [Nat.zero_mul]; exact Nat.zero_le _) (.inl rfl), none, 0, by simp [G.call, hy, ha], Nat.le_refl _, fun _ => rfl⟩
    rw [repV_nilc hr]
    simp only [argOf]
    split
    · split
      · rename_i hc; exact hts _ _ hc
      · simp only [V.slot]
        exact repV_mk_slice (repC_mk_slice rfl (Nat.le_refl _) (Nat.zero_le _) (by rw [Nat.zero_mul]; exact Nat.zero_le _) (.inl rfl))
    · split
      · rename_i hc; exact hts _ _ hc
      · rw [← repV_nilc hr]; exact gen
  case agg τ vs =>
    simp only [argOf]
    split
    · rename_i cc hcc
      obtain ⟨h1, h2⟩ := hr
      simp only [V.slot]
      exact repV_d.2 ⟨closeV_rep _ h1 hcc, h2⟩
    · exact gen
  case ts =>
    obtain ⟨h1, _⟩ := hr
    simp only [RepX] at h1
    obtain ⟨_, _, _, _, h0, _⟩ := h1
    cases h0
  all_goals exact gen
end
end Go.E


namespace Go.E
open Go

def rk (d : Nat) (j : Nat) : Nat := 1000 * (d + 1) + j
def rkInv (d : Nat) (n : Nat) : Option Nat := if 1000 * (d + 1) ≤ n then some (n - 1000 * (d + 1)) else none
theorem rkInv_rk (d j : Nat) : rkInv d (rk d j) = some j := by simp [rkInv, rk]
theorem rk_rkInv {d n j : Nat} (h : rkInv d n = some j) : rk d j = n := by
  unfold rkInv at h
  split at h
  · have := Option.some.inj h; unfold rk; omega
  · cases h
def dn (d : Nat) : Key → Key
  | .g k => k
  | .l j => .l (rk d j)
def dnL (d : Nat) : List (Key × O) → List (Key × O)
  | [] => []
  | (k, o) :: l => (dn d k, o.ren (dn d)) :: dnL d l
def dnT (d : Nat) : List (Nat × Option Nat) → List (Nat × Option Nat)
  | [] => []
  | (m, x) :: l => (rk d m, x) :: dnT d l
def deadN : List Nat → List (Nat × Option Nat)
  | [] => []
  | t :: l => (t, none) :: deadN l
theorem look_deadN : ∀ (l : List Nat) (t : Nat), look (deadN l) t = if t ∈ l then some none else none
  | [], t => by simp [deadN, look]
  | u :: l, t => by
    simp only [deadN, look, look_deadN l t, List.mem_cons]
    by_cases h : u = t
    · subst h; simp
    · have h' : t ≠ u := fun e => h e.symm
      simp [h, h']
theorem look_dnT (d : Nat) : ∀ (l : List (Nat × Option Nat)) (t : Nat), look (dnT d l) t = match rkInv d t with | some m => look l m | none => none
  | [], t => by simp only [dnT, look]; split <;> rfl
  | (m, x) :: l, t => by
    simp only [dnT, look, look_dnT d l t]
    cases h : rkInv d t with
    | none =>
      have : rk d m ≠ t := by intro e; subst e; rw [rkInv_rk] at h; cases h
      simp [this]
    | some j =>
      have ht := rk_rkInv h
      by_cases hm : m = j
      · subst hm; simp [ht]
      · have : rk d m ≠ t := by intro e; apply hm; have : rkInv d (rk d m) = some j := by rw [e]; exact h
                                rw [rkInv_rk] at this; exact Option.some.inj this
        simp [this, hm]
def upL (d : Nat) (L : List (Key × O)) (k : Key) : Option O :=
  match lookK L (.g k) with
  | some o => some o
  | none => match k with
    | .l n => match rkInv d n with
      | some j => lookK L (.l j)
      | none => none
    | .g _ => none
def bk (d : Nat) : Option (Tip × Nat) → Option (Tip × Nat)
  | some (.home k p, sz) => some (.home (dn d k) p, sz)
  | some (.tok m, sz) => some (.tok (rk d m), sz)
  | none => none
def G.back (Γ Γ' : G) (tip : Bool) (s : S) (ys : List V) (d : Nat) (v : V) (L : List (Key × O)) : G :=
  { H := Γ'.H
    Z := Γ.Z
    ι := fun k => match k with
      | .l n => match rkInv d n with
        | some j => match lookK L (.l j) with
          | some _ => Γ'.ι (.l j)
          | none => Γ.ι (.l n)
        | none => Γ.ι (.l n)
      | .g k => Γ.ι (.g k)
    τ := fun t => match rkInv d t with
      | some m => match look (v.tkR 2000) m with
        | some _ => Γ'.τ m
        | none => Γ.τ t
      | none => Γ.τ t
    κ := fun b => match Γ.κ b with
      | some (.tok u, sz) => match argIx tip s u 0 ys with
        | some _ => bk d (Γ'.κ b)
        | none => some (.tok u, sz)
      | _ => bk d (Γ'.κ b)
    gl := Γ.gl
    oo := Γ.oo
    σ := Γ'.σ }
def S.back (s : S) (tip : Bool) (ys : List V) (d : Nat) (v : V) (L : List (Key × O)) : S :=
  { s with loc := dnL d L ++ s.loc, tk := dnT d (v.tkR 2000) ++ (deadN (passed tip s ys) ++ s.tk) }
theorem lookK_append {α : Type} : ∀ (l m : List (Key × α)) (n : Key), lookK (l ++ m) n = match lookK l n with | some x => some x | none => lookK m n
  | [], _, _ => rfl
  | (j, x) :: l, m, n => by
    simp only [List.cons_append, lookK]
    split
    · rfl
    · exact lookK_append l m n
theorem look_dnL_some (d : Nat) : ∀ {L : List (Key × O)} {k : Key} {o : O}, lookK (dnL d L) k = some o → (∃ j o', dn d j = k ∧ lookK L j ≠ none ∧ o = O.ren (dn d) o')
  | [], _, _, h => by simp [dnL, lookK] at h
  | (j, o') :: L, k, o, h => by
    simp only [dnL, lookK] at h
    split at h
    · rename_i e; cases h; exact ⟨j, o', e, by simp [lookK], rfl⟩
    · obtain ⟨j2, o2, a1, a2, a3⟩ := look_dnL_some d h
      refine ⟨j2, o2, a1, ?_, a3⟩
      simp only [lookK]; split <;> simp [a2]
theorem look_dnL (d : Nat) {s : S} : ∀ {L : List (Key × O)} {k : Key}, (∀ k o, lookK L (.g k) = some o → s.obj k ≠ none) → (∀ j o, lookK L (.l j) = some o → s.obj (.l (rk d j)) = none) →
    (∀ j o, lookK L j = some o → dn d j = k → lookK (dnL d L) k = some (o.ren (dn d)))
  | [], k, _, _, j, o, h, _ => by simp [lookK] at h
  | (i, oi) :: L, k, hg, hl, j, o, h, hj => by
    simp only [lookK] at h
    simp only [dnL, lookK]
    by_cases hij : i = j
    · subst hij; simp at h; subst h; simp [hj]
    · rw [if_neg hij] at h
      have hne : dn d i ≠ k := by
        intro e
        have hi0 : ∃ oi', lookK ((i, oi) :: L) i = some oi' := ⟨oi, by simp [lookK]⟩
        obtain ⟨oi', hi1⟩ := hi0
        have hj1 : lookK ((i, oi) :: L) j = some o := by simp only [lookK]; rw [if_neg hij]; exact h
        cases i with
        | g ki =>
          cases j with
          | g kj => simp only [dn] at e hj; subst e; subst hj; exact hij rfl
          | l nj =>
            simp only [dn] at e hj
            have h1 := hg ki _ hi1
            have h2 := hl nj _ hj1
            rw [← e] at hj; rw [hj] at h2; exact h1 h2
        | l ni =>
          cases j with
          | g kj =>
            simp only [dn] at e hj
            have h1 := hg kj _ hj1
            have h2 := hl ni _ hi1
            rw [← hj] at e; rw [e] at h2; exact h1 h2
          | l nj =>
            simp only [dn] at e hj
            rw [← hj] at e
            simp [rk] at e
            exact hij (by rw [e])
      rw [if_neg hne]
      exact look_dnL d (L := L) (fun k0 o0 h0 => by
        by_cases e : i = .g k0
        · subst e; exact hg k0 oi (by simp [lookK])
        · exact hg k0 o0 (by simp [lookK, e, h0])) (fun j0 o0 h0 => by
        by_cases e : i = .l j0
        · subst e; exact hl j0 oi (by simp [lookK])
        · exact hl j0 o0 (by simp [lookK, e, h0])) j o h hj

section
variable {P : Program} {Γ Γ' : G} {w w' : World} {s : S} {tip : Bool} {ys : List V} {Ts : List TypeId} {v : V} {L : List (Key × O)} {d : Nat}
theorem Conc.back (c : Conc Γ w s) {us : List Value} (a : Args P Γ tip s Ts ys us) (gle : GLe (Γ.call w tip s ys) Γ') (c' : Conc Γ' w' (S.fin v L s.up))
    (hg : ∀ k o, lookK L (.g k) = some o → s.obj k ≠ none) (hl : ∀ j o, lookK L (.l j) = some o → s.obj (.l (rk d j)) = none) (ht : ∀ m x, look (v.tkR 2000) m = some x → s.known (rk d m) = false)
    {u : Value} (hv : RepV Γ' (v.slotR 2000) u) : Post Γ w (s.back tip ys d v L) ((v.slotR 2000).ren (dn d) (rk d)) u w' := by
  -- facts on the ghosts
  have hZu : ∀ b t sz, Γ.κ b = some (.tok t, sz) → argIx tip s t 0 ys = none → (Γ.call w tip s ys).Z b ≠ none := by
    intro b t sz hk hi
    obtain ⟨a1, _, arr, T, a3, _⟩ := c.hκ b _ _ hk
    simp only [G.call, a1, hk, hi, a3]; simp
  have hZ0 : ∀ b, Γ.Z b ≠ none → (Γ.call w tip s ys).Z b ≠ none := by
    intro b h
    cases hz : Γ.Z b with
    | none => exact absurd hz h
    | some o => simp [G.call, hz]
  have hιg : ∀ k x, Γ.ι k = some x → Γ'.ι (.g k) = some x := fun k x h => gle.g k x h
  have hιnew : ∀ j, lookK L (.l j) ≠ none → Γ.ι (.l (rk d j)) = none := by
    intro j h
    cases ho : lookK L (.l j) with
    | none => exact absurd ho h
    | some o => exact c.ι_none (hl j o ho)
  have hfin : ∀ k, (S.fin v L s.up).obj k = match lookK L k with | some o => some o | none => match k with | .g k => s.up k | .l _ => none := fun k => rfl
  have hκn : ∀ b x, Γ'.κ b = some x → (Γ.back Γ' tip s ys d v L).κ b = bk d (some x) := by
    intro b x h
    have hz := (c'.hκ b x.1 x.2 (by rw [h])).1
    rw [gle.Z] at hz
    simp only [G.back]
    cases hk : Γ.κ b with
    | none => simp [h]
    | some y =>
      obtain ⟨o, sz⟩ := y
      cases o with
      | home => simp [h]
      | tok t =>
        simp only
        cases hi : argIx tip s t 0 ys with
        | some i => simp [h]
        | none => exact absurd hz (hZu b t sz hk hi)
  have hτn : ∀ m x, Γ'.τ m = some x → (Γ.back Γ' tip s ys d v L).τ (rk d m) = some x := by
    intro m x h
    have hk := c'.tdom m (by rw [h]; simp)
    have hk' : (look (v.tkR 2000) m).isSome = true := hk
    obtain ⟨y, hy⟩ := Option.isSome_iff_exists.1 hk'
    simp [G.back, rkInv_rk, hy, h]
  have hιn : ∀ k x, Γ'.ι k = some x → (Γ.back Γ' tip s ys d v L).ι (dn d k) = some x := by
    intro k x h
    cases k with
    | l j =>
      have hd := c'.dom (.l j) (by rw [h]; simp)
      rw [hfin] at hd
      cases ho : lookK L (.l j) with
      | none => simp [ho] at hd
      | some o => simp [G.back, dn, rkInv_rk, ho, h]
    | g k =>
      have hd := c'.dom (.g k) (by rw [h]; simp)
      rw [hfin] at hd
      have hsk : s.obj k ≠ none := by
        cases ho : lookK L (.g k) with
        | none =>
          simp only [ho, S.up] at hd
          intro e; rw [e] at hd; simp at hd
        | some o => exact hg k o ho
      cases hso : s.obj k with
      | none => exact absurd hso hsk
      | some o =>
        rcases c.obj k o hso with hn | hown
        · rw [gle.gn k hn.1] at h; cases h
        obtain ⟨b, τ, e1, _⟩ := hown.block
        have e2 := hιg k _ e1
        rw [h] at e2; cases e2
        simp only [dn]
        cases k with
        | g k => exact e1
        | l n =>
          simp only [G.back]
          split
          · rename_i j hj
            split
            · rename_i o' ho'
              have := hl j o' ho'
              rw [rk_rkInv hj] at this
              exact absurd this hsk
            · exact e1
          · exact e1
  have pr : ∀ hm, PresR Γ' (Γ.back Γ' tip s ys d v L) (dn d) hm := fun hm =>
    ⟨Hp.le_refl _, hιn, fun _ _ h => h, fun k b p sz _ h => ⟨by rw [hκn b _ h]; rfl, rfl⟩⟩
  have hp : Pres Γ (Γ.back Γ' tip s ys d v L) := by
    refine ⟨gle.H, fun k x h => ?_, fun t x M h => ⟨x, M, ?_, Nat.le_refl _, fun _ => rfl⟩, fun b sz h => gle.σ b sz h⟩
    · cases k with
      | g k => exact h
      | l n =>
        simp only [G.back]
        split
        · rename_i j hj
          split
          · rename_i o ho
            have := hιnew j (by rw [ho]; simp)
            rw [rk_rkInv hj, h] at this; cases this
          · exact h
        · exact h
    · simp only [G.back]
      split
      · rename_i m hm
        split
        · rename_i y hy
          have := ht m y hy
          rw [rk_rkInv hm] at this
          have hk := c.tdom t (by rw [h]; simp)
          rw [this] at hk; cases hk
        · exact h
      · exact h
  have hobj' : ∀ k, (s.back tip ys d v L).obj k = match lookK (dnL d L) k with | some o => some o | none => s.obj k := by
    intro k
    unfold S.obj objOf S.back
    simp only [lookK_append]
    cases lookK (dnL d L) k <;> rfl
  have hZn : ∀ b, Γ'.Z b = none → Γ.Z b = none := by
    intro b h
    rw [gle.Z] at h
    cases hz : Γ.Z b with
    | none => rfl
    | some o => have := hZ0 b (by rw [hz]; simp); rw [h] at this; exact absurd rfl this
  have hιback : ∀ k, (S.fin v L s.up).obj k ≠ none → Γ'.ι k = none → (Γ.back Γ' tip s ys d v L).ι (dn d k) = none := by
    intro k h hn
    have hι0 : ∀ k', k = .g k' → Γ.ι k' = none := by
      intro k' e
      subst e
      cases hx : Γ.ι k' with
      | none => rfl
      | some x => rw [hιg k' x hx] at hn; cases hn
    rw [hfin] at h
    cases k with
    | l j =>
      cases ho : lookK L (.l j) with
      | none => simp [ho] at h
      | some o => simp [G.back, dn, rkInv_rk, ho, hn]
    | g k =>
      have hsk : s.obj k ≠ none := by
        cases ho : lookK L (.g k) with
        | none =>
          simp only [ho, S.up] at h
          intro e; rw [e] at h; simp at h
        | some o => exact hg k o ho
      have h0 := hι0 k rfl
      cases k with
      | g k => exact h0
      | l n =>
        show (match rkInv d n with
          | some j => match lookK L (.l j) with
            | some _ => Γ'.ι (.l j)
            | none => Γ.ι (.l n)
          | none => Γ.ι (.l n)) = none
        split
        · rename_i j hj
          split
          · rename_i o' ho'
            exact absurd (rk_rkInv hj ▸ hl j o' ho') hsk
          · exact h0
        · exact h0
  have down : ∀ k o, (S.fin v L s.up).obj k = some o → ((Γ.back Γ' tip s ys d v L).ι (dn d k) = none ∧ (o.ren (dn d)).virt) ∨ Own (Γ.back Γ' tip s ys d v L) w' (dn d k) (o.ren (dn d)) := by
    intro k o h
    refine (c'.obj k o h).imp (fun h1 => ⟨hιback k (by rw [h]; simp) h1.1, O.virt_ren h1.2⟩) fun hown => hown.ren (pr _) (fun hd b τ hb => ?_) (Nat.le_refl _)
    obtain ⟨a1, a2, _⟩ := c'.ιlive hb h hd
    exact ⟨rfl, a1, hZn b a2⟩
  have hdead : ∀ k, (S.fin v L s.up).deadK k = true → (s.back tip ys d v L).deadK (dn d k) = true := by
    intro k h
    unfold S.deadK at h ⊢
    rw [hfin] at h
    rw [hobj']
    cases ho : lookK L k with
    | some o =>
      rw [ho] at h
      rw [look_dnL d hg hl k o ho rfl]
      show (o.ren _).isDead = true
      rw [O.ren_isDead]; exact h
    | none =>
      rw [ho] at h
      cases k with
      | l n => cases h
      | g k =>
        simp only [dn]
        cases hs : s.obj k with
        | none => simp [S.up, hs, deadO] at h
        | some o =>
          have : lookK (dnL d L) k = none := by
            cases hk : lookK (dnL d L) k with
            | none => rfl
            | some o1 =>
              obtain ⟨j, _, e1, e2, _⟩ := look_dnL_some d hk
              cases j with
              | g j => simp only [dn] at e1; subst e1; exact absurd ho e2
              | l j =>
                cases hj : lookK L (.l j) with
                | none => exact absurd hj e2
                | some oj =>
                  have := hl j oj hj
                  simp only [dn] at e1
                  rw [e1, hs] at this; cases this
          rw [this]
          simp only [S.up, hs, Option.map_some, deadO] at h ⊢
          rw [O.ren_isDead] at h; exact h
  refine ⟨Γ.back Γ' tip s ys d v L, ⟨gle.H, rfl, fun b h => gle.ZH b (hZ0 b h), fun _ _ h => h, rfl, rfl, fun b sz h => gle.σ b sz h, fun _ h => h⟩, hp, ?_, hv.ren (pr none) hτn⟩
  refine ⟨c'.hH, fun b o h => ?_, fun b o sz h => ?_, fun k o h => ?_, fun k h => ?_, fun k k' b τ τ' h1 h2 => ?_, fun t M h => ?_, fun t h => ?_, fun g τ cc h => ?_, by rw [c'.hoo, gle.oo]; rfl, c'.hσ⟩
  · exact c'.hZ b o (by rw [gle.Z]; simp [G.call, show Γ.Z b = some o from h])
  · -- rooms
    have other : ∀ x, Γ'.κ b = some x → x.2 = sz → Γ.Z b = none ∧ Γ'.H b ≠ none ∧ ∃ arr T, w'.heap[b]? = some (.cells arr T (0, 0)) ∧ arr.size = sz ∧ TipT x.1 T := by
      intro x hx e
      obtain ⟨a1, a2, a3⟩ := c'.hκ b x.1 x.2 hx
      rw [e] at a3
      exact ⟨hZn b a1, a2, a3⟩
    have bkc : ∀ {x}, bk d (Γ'.κ b) = some x → x.2 = sz → Γ.Z b = none ∧ Γ'.H b ≠ none ∧ ∃ arr T, w'.heap[b]? = some (.cells arr T (0, 0)) ∧ arr.size = sz ∧ TipT x.1 T := by
      intro x hx e
      cases hk' : Γ'.κ b with
      | none => rw [hk'] at hx; simp [bk] at hx
      | some y =>
        have hz : y.2 = sz := by
          obtain ⟨o', sz'⟩ := y
          rw [hk'] at hx
          cases o' <;> simp [bk] at hx <;> subst hx <;> exact e
        obtain ⟨q1, q2, arr, T, q3, q4, q5⟩ := other y hk' hz
        refine ⟨q1, q2, arr, T, q3, q4, ?_⟩
        obtain ⟨o', sz'⟩ := y
        rw [hk'] at hx
        cases o' with
        | home _ p => simp [bk] at hx; subst hx; cases p <;> exact q5
        | tok => simp [bk] at hx; subst hx; trivial
    simp only [G.back] at h
    cases hk : Γ.κ b with
    | none => simp only [hk] at h; exact bkc h rfl
    | some y =>
      obtain ⟨o0, sz0⟩ := y
      cases o0 with
      | home => simp only [hk] at h; exact bkc h rfl
      | tok t =>
        simp only [hk] at h
        cases hi : argIx tip s t 0 ys with
        | some i => simp only [hi] at h; exact bkc h rfl
        | none =>
          simp [hi] at h
          obtain ⟨rfl, rfl⟩ := h
          obtain ⟨a1, a2, arr, T, a3, a4⟩ := c.hκ b _ _ hk
          have hz := hZu b t sz0 hk hi
          have hH : Γ'.H b = Γ.H b := gle.ZH b hz
          have hw : w'.heap[b]? = w.heap[b]? := by
            have : Γ'.Z b = w.heap[b]? := by rw [gle.Z]; simp [G.call, a1, hk, hi]
            rw [a3] at this ⊢
            exact c'.hZ b _ this
          exact ⟨a1, by show Γ'.H b ≠ none; rw [hH]; exact a2, arr, T, by rw [hw]; exact a3, a4⟩
  · -- objects
    rw [hobj'] at h
    cases hk : lookK (dnL d L) k with
    | some o1 =>
      rw [hk] at h; cases h
      obtain ⟨j, _, e1, e2, _⟩ := look_dnL_some d hk
      cases hj : lookK L j with
      | none => exact absurd hj e2
      | some oj =>
        have := look_dnL d hg hl j oj hj e1
        rw [hk] at this; cases this
        rw [← e1]
        exact down j oj (by rw [hfin, hj])
    | none =>
      rw [hk] at h
      have hLg : lookK L (.g k) = none := by
        cases ho : lookK L (.g k) with
        | none => rfl
        | some o0 =>
          have this : lookK (dnL d L) k = _ := look_dnL d hg hl (.g k) o0 ho rfl
          rw [hk] at this; cases this
      have := down (.g k) (o.ren .g) (by rw [hfin, hLg]; simp only [S.up, h]; rfl)
      rwa [O.ren_ren .g (dn d) (fun _ => rfl)] at this
  · -- every handle's object is there
    rw [hobj']
    cases hk : lookK (dnL d L) k with
    | some o => simp
    | none =>
      simp only
      cases k with
      | g k => exact c.dom _ h
      | l n =>
        simp only [G.back] at h
        split at h
        · rename_i j hj
          split at h
          · rename_i o ho
            have := look_dnL d hg hl (.l j) o ho (by simp only [dn]; rw [rk_rkInv hj])
            rw [hk] at this; cases this
          · exact c.dom _ h
        · exact c.dom _ h
  · -- blocks stay apart
    have key : ∀ k b τ, (Γ.back Γ' tip s ys d v L).ι k = some (b, τ) → (Γ.ι k = some (b, τ) ∧ Γ'.ι (.g k) = some (b, τ)) ∨ ∃ j, k = .l (rk d j) ∧ Γ'.ι (.l j) = some (b, τ) := by
      intro k b τ h
      cases k with
      | g k => exact .inl ⟨h, hιg _ _ h⟩
      | l n =>
        simp only [G.back] at h
        split at h
        · rename_i j hj
          split at h
          · exact .inr ⟨j, by rw [rk_rkInv hj], h⟩
          · exact .inl ⟨h, hιg _ _ h⟩
        · exact .inl ⟨h, hιg _ _ h⟩
    rcases key k b τ h1 with ⟨e1, e2⟩ | ⟨j, e1, e2⟩ <;> rcases key k' b τ' h2 with ⟨f1, f2⟩ | ⟨j', f1, f2⟩
    · exact (c'.inj _ _ _ _ _ e2 f2).imp (fun e => by cases e; rfl) (And.imp (Or.imp (hdead _) (hdead _)) id)
    · subst f1; exact (c'.inj _ _ _ _ _ e2 f2).imp (fun e => by cases e) (And.imp (Or.imp (hdead _) (hdead _)) id)
    · subst e1; exact (c'.inj _ _ _ _ _ e2 f2).imp (fun e => by cases e) (And.imp (Or.imp (hdead _) (hdead _)) id)
    · subst e1; subst f1; exact (c'.inj _ _ _ _ _ e2 f2).imp (fun e => by cases e; rfl) (And.imp (Or.imp (hdead _) (hdead _)) id)
  · -- live tokens
    simp only [S.back, S.live, liveT, look_append, look_dnT] at h
    cases hr : rkInv d t with
    | some m =>
      simp only [hr] at h
      cases hm : look (v.tkR 2000) m with
      | some y =>
        simp only [hm] at h
        cases y with
        | none => simp at h
        | some M' =>
          simp at h; subst h
          obtain ⟨x, a1, a2⟩ := c'.tok m M' (by unfold S.live liveT; rw [show (S.fin v L s.up).tk = v.tkR 2000 from rfl, hm])
          refine ⟨x, by simp [G.back, hr, hm, a1], fun b pos sz hx => ?_⟩
          obtain ⟨a3, a4⟩ := a2 b pos sz hx
          refine ⟨a3, ?_⟩
          rw [hκn b _ a4]
          simp only [bk, rk_rkInv hr]
      | none =>
        simp only [hm] at h
        rw [look_deadN] at h
        by_cases hp' : t ∈ passed tip s ys
        · simp [hp'] at h
        · simp only [hp', if_false] at h
          obtain ⟨x, a1, a2⟩ := c.tok t M h
          refine ⟨x, by simp [G.back, hr, hm, a1], fun b pos sz hx => ?_⟩
          obtain ⟨⟨l, a3, a5⟩, a4⟩ := a2 b pos sz hx
          have hi : argIx tip s t 0 ys = none := by
            cases hi : argIx tip s t 0 ys with
            | none => rfl
            | some i => obtain ⟨k, y, _, h2, h3⟩ := argIx_some hi; exact absurd (mem_passed h2 h3) hp'
          have hH : Γ'.H b = Γ.H b := gle.ZH b (hZu b t sz a4 hi)
          exact ⟨⟨l, by show Γ'.H b = some l; rw [hH]; exact a3, a5⟩, by simp [G.back, a4, hi]⟩
    | none =>
      simp only [hr] at h
      rw [look_deadN] at h
      by_cases hp' : t ∈ passed tip s ys
      · simp [hp'] at h
      · simp only [hp', if_false] at h
        obtain ⟨x, a1, a2⟩ := c.tok t M h
        refine ⟨x, by simp [G.back, hr, a1], fun b pos sz hx => ?_⟩
        obtain ⟨⟨l, a3, a5⟩, a4⟩ := a2 b pos sz hx
        have hi : argIx tip s t 0 ys = none := by
          cases hi : argIx tip s t 0 ys with
          | none => rfl
          | some i => obtain ⟨k, y, _, h2, h3⟩ := argIx_some hi; exact absurd (mem_passed h2 h3) hp'
        have hH : Γ'.H b = Γ.H b := gle.ZH b (hZu b t sz a4 hi)
        exact ⟨⟨l, by show Γ'.H b = some l; rw [hH]; exact a3, a5⟩, by simp [G.back, a4, hi]⟩
  · -- known tokens
    simp only [S.back, S.known, look_append, look_dnT]
    have old : Γ.τ t ≠ none → (look s.tk t).isSome = true := fun h => c.tdom t h
    have oldk : Γ.τ t ≠ none → (match look (deadN (passed tip s ys)) t with | some x => some x | none => look s.tk t).isSome = true := by
      intro h
      cases hd : look (deadN (passed tip s ys)) t with
      | some y => rfl
      | none => exact old h
    simp only [G.back] at h
    cases hr : rkInv d t with
    | some m =>
      simp only [hr] at h
      simp only
      cases hm : look (v.tkR 2000) m with
      | some y => rfl
      | none => simp only [hm] at h; have := oldk h; revert this; cases look (deadN (passed tip s ys)) t <;> simp
    | none => simp only [hr] at h; have := oldk h; revert this; cases look (deadN (passed tip s ys)) t <;> simp
  · have h' : (Γ.call w tip s ys).gl g = some (τ, cc) := h
    rw [← gle.gl] at h'
    exact c'.hgl g τ cc h'
end
end Go.E


namespace Go.E
open Go

def callable (P : Program) (f : FuncId) : Bool :=
  match P.funcs[f]? with
  | some fn => fn.name != "runtime.NumGoroutine" && fn.body.isSome
  | none => false


section
variable {P : Program} {Γ : G} {w : World} {s : S}
theorem run_callFunc {f : FuncId} (h : callable P f = true) (args : Array Value) (w : World) : (callFunc f args).run P w = .ok (.enter f args) w := by
  unfold callable at h
  cases hf : P.funcs[f]? with
  | none => simp [hf] at h
  | some fn =>
    simp [hf] at h
    obtain ⟨h1, h2⟩ := h
    cases hb : fn.body with
    | none => simp [hb] at h2
    | some b => simp [callFunc, hf, h1, hb]


theorem repV_of_caps {x : V} {v : Value} (h1 : RepX Γ none [] x v.cells.toList) (h2 : isAggV v = x.ty.isAgg) : RepV Γ x v := by
  cases x <;> first | exact ⟨h1, h2⟩ | trivial | (simp only [RepX] at h1)
theorem caps_rep : ∀ {xs : List V} {vs : List Value}, RepCaps Γ xs vs → xs.length = vs.length ∧ ∀ (i : Nat) x v, xs[i]? = some x → vs[i]? = some v → RepV Γ x v
  | [], vs, h => by simp only [RepCaps] at h; subst h; simp
  | x :: xs, vs, h => by
    simp only [RepCaps] at h
    obtain ⟨v, vs', rfl, h2, h3, h4⟩ := h
    obtain ⟨e1, e2⟩ := caps_rep h4
    refine ⟨by simp [e1], fun i y u hy hu => ?_⟩
    cases i with
    | zero => simp at hy hu; subst hy; subst hu; exact repV_of_caps h2 h3
    | succ i => exact e2 i y u (by simpa using hy) (by simpa using hu)
theorem repV_fn {f : FuncId} {caps : List V} {v : Value} (h : RepV Γ (.fn f caps) v) : ∃ cv : Array Value, v = .func (.func f) #[] cv ∧ caps.length = cv.toList.length ∧ ∀ (i : Nat) x u, caps[i]? = some x → cv.toList[i]? = some u → RepV Γ x u := by
  obtain ⟨h1, _⟩ := (repV_one rfl rfl).1 h
  simp only [RepX] at h1
  obtain ⟨cv, hv, hc⟩ := h1
  simp at hv
  obtain ⟨e1, e2⟩ := caps_rep hc
  exact ⟨cv, hv, e1, e2⟩

def callArgs (as : List V) (caps : List V) : List V := as ++ caps
def callTs (ts : List TypeId) (caps : List V) : List TypeId := ts ++ List.replicate caps.length 0

mutual
theorem V.ok_up : ∀ (x : V), x.noSl = true → (x.ren .g id).ok none0 none0 = true
  | .sl _ _ _ _, h => by simp [V.noSl] at h
  | .agg _ vs, h | .fn _ vs, h | .tup vs, h => by simp only [V.ren, V.ok]; exact V.oks_up vs (by simpa [V.noSl] using h)
  | .ptr _ _ _, _ | .mp _, _ | .sr _ _ _ _ _ _ _, _ | .d _ _, _ | .ts _ _ _, _ | .emp _ _, _ | .nilc, _ | .cptr _ _, _ | .top _, _ | .any, _ => by simp [V.ren, V.ok]
theorem V.oks_up : ∀ (xs : List V), V.noSls xs = true → V.oks none0 none0 (V.rens .g id xs) = true
  | [], _ => rfl
  | x :: xs, h => by
    simp only [V.noSls, Bool.and_eq_true] at h
    simp only [V.rens, V.oks, Bool.and_eq_true]
    exact ⟨V.ok_up x h.1, V.oks_up xs h.2⟩
end
theorem oksM_up : ∀ (es : List (C × V)), (∀ (i : Nat) (c : C × V), es[i]? = some c → c.2.noSl = true) → V.oksM none0 none0 (es.map fun c => (c.1, c.2.ren .g id)) = true
  | [], _ => rfl
  | x :: xs, h => by
    simp only [List.map_cons, V.oksM, Bool.and_eq_true]
    exact ⟨V.ok_up _ (h 0 x rfl), oksM_up xs fun i c hc => h (i + 1) c (by simpa using hc)⟩
theorem Conc.aok_up (c : Conc Γ w s) : AOk s.up := by
  intro k o h
  unfold S.up at h
  cases ho : s.obj k with
  | none => simp [ho] at h
  | some o0 =>
    simp only [ho, Option.map_some, Option.some.injEq] at h
    subst h
    rcases c.obj k o0 ho with ⟨_, hv⟩ | hown
    · cases o0 with
      | box x => obtain ⟨e, rfl⟩ := hv; rfl
      | dead => rfl
      | _ => exact hv.elim
    · cases o0 with
      | box x =>
        obtain ⟨b, cells, T, _, _, _, _, _, _, _, h8⟩ := hown
        exact V.ok_up x h8
      | map kτ vτ es =>
        obtain ⟨b, ms, clock, _, _, _, _, h5, h6, _⟩ := hown
        refine oksM_up es fun i cc hcc => ?_
        have hlt : i < ms.size := by rw [h5]; exact (List.getElem?_eq_some_iff.1 hcc).1
        exact (h6 i ms[i] cc (Array.getElem?_eq_getElem hlt) hcc).2.2.2.2.2.2
      | it => rfl
      | dead => rfl
theorem do_call {X : Cx} (hX : X.P = P) (hgl : Γ.gl = X.gl) (c : Conc Γ w s) {o : Oper} {a : Act} {fo : Operand} {f : FuncId} {caps : List V} {as : Array Operand} {ts : Array TypeId} {ρa : Operand → V} {tip : Bool} {A : Key → Option O} {v : V} {L : List (Key × O)} {d : Nat}
    (ho : o.op = .call { callee := .value fo, args := as, argTypes := ts }) (hcal : callable P f = true) (hts : ts.toList.length = as.toList.length)
    (hf : RepV Γ (.fn f caps) (a.eval fo)) (hr : ∀ y ∈ as.toList, RepV Γ (ρa y) (a.eval y)) (hnd : nodupN (passed tip s (callArgs (as.toList.map ρa) caps)) = true)
    (D : DCalls X f (argsOf P tip s (callTs ts.toList caps) (callArgs (as.toList.map ρa) caps)) A v L) (hA : ∀ k o, A k = some o → s.up k = some o)
    (hg : ∀ k o, lookK L (.g k) = some o → s.obj k ≠ none) (hl : ∀ j o, lookK L (.l j) = some o → s.obj (.l (rk d j)) = none) (ht : ∀ m x, look (v.tkR 2000) m = some x → s.known (rk d m) = false) :
    Does P o a w (Post Γ w (s.back tip (callArgs (as.toList.map ρa) caps) d v L) ((v.slotR 2000).ren (dn d) (rk d))) := by
  subst hX
  obtain ⟨cv, hfv, hcl, hcr⟩ := repV_fn hf
  have run : (execOp a.eval o).run X.P w = .ok (.enter f (as.map a.eval ++ cv)) w := by
    unfold execOp
    simp [ho, resolve, hfv, Deferred.ofValue, invoke, run_callFunc hcal]
  have ha : Args X.P Γ tip s (callTs ts.toList caps) (callArgs (as.toList.map ρa) caps) (as.map a.eval ++ cv).toList := by
    refine ⟨by simp [callTs, callArgs] at hts ⊢; omega, by simp [callArgs] at hcl ⊢; omega, fun i y u hy hu => ?_, hnd⟩
    simp only [callArgs] at hy
    simp only [Array.toList_append, Array.toList_map] at hu
    by_cases hi : i < as.toList.length
    · rw [List.getElem?_append_left (by simpa using hi)] at hy
      rw [List.getElem?_append_left (by simpa using hi)] at hu
      simp only [List.getElem?_map] at hy hu
      cases he : as.toList[i]? with
      | none => simp [he] at hy
      | some z =>
        simp [he] at hy hu
        subst hy; subst hu
        exact hr z (List.mem_of_getElem? he)
    · rw [List.getElem?_append_right (by simpa using hi)] at hy
      rw [List.getElem?_append_right (by simpa using hi)] at hu
      simp only [List.length_map] at hy hu
      exact hcr _ y u hy hu
  refine Does.enter run ?_
  have cc := c.call ha
  refine (D s.up (Γ.call w tip s _) w (as.map a.eval ++ cv) hA hgl ⟨cc, c.aok_up⟩ ?_ fun i x u hx hu => ?_).mono ?_
  · rw [argsOf_length ha.len, ha.len2]; simp
  · rw [slots_get] at hx
    cases hz : (argsOf X.P tip s (callTs ts.toList caps) (callArgs (as.toList.map ρa) caps))[i]? with
    | none => simp [hz] at hx
    | some z =>
      simp [hz] at hx
      subst hx
      obtain ⟨T, y, _, hy, rfl⟩ := argsOf_get hz
      have hu' : (as.map a.eval ++ cv).toList[i]? = some u := by rw [Array.getElem?_toList]; exact hu
      exact argOf_rep c ha hy (ha.rep i y u hy hu')
  · rintro e w' ⟨u, Γ', rfl, gle, c', hv⟩
    exact ⟨u, rfl, c.back ha gle c' hg hl ht hv⟩
end
end Go.E


namespace Go.E
open Go

noncomputable def lookM {α : Type} : List (C × α) → C → Option α
  | [], _ => none
  | (k, v) :: es, c => if C.eqb c k = true then some v else lookM es c
noncomputable def putM {α : Type} : List (C × α) → C → α → List (C × α)
  | [], c, v => [(c, v)]
  | (k, u) :: es, c, v => if C.eqb c k = true then (k, v) :: es else (k, u) :: putM es c v
noncomputable def findIx {α : Type} : List (C × α) → C → Nat → Option Nat
  | [], _, _ => none
  | (k, _) :: es, c, i => if C.eqb c k = true then some i else findIx es c (i + 1)
def mapT (P : Program) (T : TypeId) : Option (TypeId × TypeId) := match P.underlying T with
  | some (.map k e) => some (k, e)
  | _ => none

section
variable {P : Program}
theorem run_checkKey_rep (hP : allOk P = true) (em : Bool) : ∀ (f d : Nat) (T : TypeId), eqOkF P f T = true → f ≤ d → ∀ (H : Hp) (a : Value) (c : C) (w : World), RepC H (tyF P f T) a.cells.toList c → isAggV a = (tyF P f T).isAgg → (Instr.checkKey em d T a).run P w = .ok () w
  | 0, _, _, h, _ => by simp [eqOkF] at h
  | f + 1, 0, _, _, hd => by omega
  | f + 1, d + 1, T, h, hd => by
    intro H a c w ra ha
    simp only [eqOkF, Bool.and_eq_true, decide_eq_true_eq] at h
    obtain ⟨hT, h⟩ := h
    have ho := okT_of hP hT
    unfold okT at ho
    unfold tyF at ra ha
    rw [if_pos hT] at ra ha
    cases hu : P.underlying T with
    | none => simp [hu] at h
    | some kd =>
      cases kd <;> simp only [hu, Bool.false_eq_true] at h ra ha ho
      case bool => simp [Instr.checkKey, run_underlying hu]
      case int k => simp [Instr.checkKey, run_underlying hu]
      case string => simp [Instr.checkKey, run_underlying hu]
      case array n E =>
        simp [Ty.isAgg] at ha
        cases a <;> simp [isAggV] at ha
        rename_i xs
        simp only [Value.cells] at ra
        simp at ho
        obtain ⟨i, hi⟩ : ∃ i, P.info? E = some i := by
          cases hi : P.info? E with
          | none => simp [Tables.info?, ho.2] at hi
          | some i => exact ⟨i, rfl⟩
        rw [Instr.checkKey]
        simp only [Sem.run_bind, run_underlying hu, Result.andThen_ok]
        simp only [Std.Legacy.Range.forIn_eq_forIn_range', Std.Legacy.Range.size, Nat.sub_zero, Nat.add_one_sub_one, Nat.div_one]
        have each : ∀ j ∈ List.range' 0 n, j < n := fun j hj => by simp [List.mem_range'] at hj; omega
        generalize List.range' 0 n = is at each
        induction is with
        | nil => simp
        | cons j is ih =>
          obtain ⟨g, rfl, hE, hk⟩ := eqOkF_known h
          have hin := each j (by simp)
          have hch : (Ty.arr n (tyF P (g + 1) E)).child j = some (j * (tyF P (g + 1) E).size, tyF P (g + 1) E) := by simp only [Ty.child]; rw [if_pos hin]
          obtain ⟨_, b1, r1⟩ := ra.get hch
          obtain ⟨u, p1, p2, p3⟩ := run_part (f := g) hP hE rfl hk (by simpa using b1) ra.one w
          have q := run_checkKey_rep hP em (g + 1) d E h (by omega) H u _ w (p2 ▸ r1) p3
          rw [tyF_size hP] at p1
          have hsz : (sizeOf E).run P w = .ok (P.cellsOf E) w := by
            have := run_sizeF (f := g + 1) hP (w := w) hE
            rwa [tyF_size hP] at this
          simp only [List.forIn_cons, Sem.run_bind, hsz, Result.andThen_ok, p1, q, Sem.run_pure]
          exact ih (fun y hy => each y (by simp [hy]))
      case struct fs =>
        simp [Ty.isAgg] at ha
        cases a <;> simp [isAggV] at ha
        rename_i xs
        simp only [Value.cells] at ra
        simp only [RepC] at ra
        obtain ⟨cs, rfl, _, o1, f1⟩ := ra
        simp only [Bool.and_eq_true, Bool.not_eq_true', List.all_eq_true, bne_iff_ne, ne_eq] at h
        rw [Instr.checkKey]
        simp only [Sem.run_bind, run_underlying hu, Result.andThen_ok]
        rw [← Array.forIn_toList]
        have hall := h.2
        generalize fs.toList = L at f1 hall
        induction L generalizing cs with
        | nil => simp
        | cons g L ih =>
          simp only [List.map_cons, RepFs] at f1
          obtain ⟨c, cs, rfl, b1, r1, f1⟩ := f1
          obtain ⟨hn, hok⟩ := hall g (by simp)
          obtain ⟨f', rfl, hE, hk⟩ := eqOkF_known hok
          obtain ⟨u, p1, p2, p3⟩ := run_part (f := f') hP hE rfl hk (by simpa using b1) o1 w
          have q := run_checkKey_rep hP em (f' + 1) d g.type hok (by omega) H u _ w (p2 ▸ r1) p3
          simp only [List.forIn_cons, Sem.run_bind, hn, ne_eq, not_false_eq_true, if_true, Result.andThen_ok, p1, q, Sem.run_pure]
          exact ih cs f1 (fun y hy => hall y (by simp [hy]))

def RepM (H : Hp) (kτ : Ty) {α : Type} : List MapEntry → List (C × α) → Prop
  | [], [] => True
  | m :: ms, c :: cs => RepC H kτ m.key.cells.toList c.1 ∧ isAggV m.key = kτ.isAgg ∧ RepM H kτ ms cs
  | _, _ => False
theorem run_findAsking_rep (hP : allOk P = true) {kt : TypeId} (hok : eqOk P kt = true) {H : Hp} {k : Value} {c : C} (rk : RepC H (ty P kt) k.cells.toList c) (hk : isAggV k = (ty P kt).isAgg) (w : World) {α : Type} :
    ∀ (ms : List MapEntry) (cs : List (C × α)) (i : Nat), RepM H (ty P kt) ms cs → (Instr.findAsking kt k ms i).run P w = .ok ((findIx cs c i).bind fun j => (ms[j - i]?).map fun m => (j, m.val)) w
  | [], [], i, _ => by simp [Instr.findAsking, findIx]
  | m :: ms, (c1, v1) :: cs, i, h => by
    simp only [RepM] at h
    have he := run_equal_rep hP hok w rk hk h.1 h.2.1
    have ih := run_findAsking_rep hP hok rk hk w ms cs (i + 1) h.2.2
    simp only [Instr.findAsking, Sem.run_bind, he, Result.andThen_ok, findIx]
    cases hc : C.eqb c c1 with
    | true => simp
    | false =>
      simp only [Bool.false_eq_true, if_false, ih]
      cases hf : findIx cs c (i + 1) with
      | none => rfl
      | some j =>
        have hj : i + 1 ≤ j := by
          have : ∀ (cs : List (C × α)) (i j : Nat), findIx cs c i = some j → i ≤ j := by
            intro cs
            induction cs with
            | nil => intro i j h; simp [findIx] at h
            | cons x cs ih =>
              intro i j h
              obtain ⟨a, b⟩ := x
              simp only [findIx] at h
              split at h
              · cases h; exact Nat.le_refl _
              · have := ih _ _ h; omega
          exact this cs _ _ hf
        simp only [Option.bind_some]
        rw [show j - i = (j - (i + 1)) + 1 by omega, List.getElem?_cons_succ]
  | [], _ :: _, _, h => by simp [RepM] at h
  | _ :: _, [], _, h => by simp [RepM] at h
theorem sameNow_rep (hP : allOk P = true) {kt : TypeId} (hok : eqOk P kt = true) {H : Hp} {d : TypeDesc} (hd : P.underlying kt = some d) {k k' : Value} {c c' : C} (rk : RepC H (ty P kt) k.cells.toList c) (hk : isAggV k = (ty P kt).isAgg)
    (rk' : RepC H (ty P kt) k'.cells.toList c') (hk' : isAggV k' = (ty P kt).isAgg) : Instr.sameNow d k k' = none ∨ Instr.sameNow d k k' = some (C.eqb c c') := by
  unfold eqOk at hok
  simp only [Bool.and_eq_true] at hok
  have h := hok.1
  simp only [eqOkF, Bool.and_eq_true, decide_eq_true_eq] at h
  obtain ⟨hT, h⟩ := h
  unfold ty tyF at rk hk rk' hk'
  rw [if_pos hT] at rk hk rk' hk'
  cases d <;> simp only [hd, Bool.false_eq_true] at h rk hk rk' hk'
  case bool =>
    rw [cells_of_plain (by simpa [Ty.isAgg] using hk)] at rk
    rw [cells_of_plain (by simpa [Ty.isAgg] using hk')] at rk'
    simp only [RepC] at rk rk'
    obtain ⟨x, rfl, e1⟩ := rk
    obtain ⟨y, rfl, e2⟩ := rk'
    simp at e1 e2; subst e1; subst e2
    right; simp [Instr.sameNow, C.eqb_bool]
  case int kk =>
    rw [cells_of_plain (by simpa [Ty.isAgg] using hk)] at rk
    rw [cells_of_plain (by simpa [Ty.isAgg] using hk')] at rk'
    simp only [RepC] at rk rk'
    obtain ⟨x, rfl, e1, _⟩ := rk
    obtain ⟨y, rfl, e2, _⟩ := rk'
    simp at e1 e2; subst e1; subst e2
    right; simp [Instr.sameNow, C.eqb_int]
  case string =>
    rw [cells_of_plain (by simpa [Ty.isAgg] using hk)] at rk
    rw [cells_of_plain (by simpa [Ty.isAgg] using hk')] at rk'
    simp only [RepC] at rk rk'
    obtain ⟨x, rfl, e1, _⟩ := rk
    obtain ⟨y, rfl, e2, _⟩ := rk'
    simp at e1 e2; subst e1; subst e2
    right; simp [Instr.sameNow, C.eqb_str, beq_toListBytes, ByteArray.toList_eq]
  all_goals (left; rfl)
theorem findNow_rep (hP : allOk P = true) {kt : TypeId} (hok : eqOk P kt = true) {H : Hp} {d : TypeDesc} (hd : P.underlying kt = some d) {k : Value} {c : C} (rk : RepC H (ty P kt) k.cells.toList c) (hk : isAggV k = (ty P kt).isAgg) {α : Type} :
    ∀ (ms : List MapEntry) (cs : List (C × α)) (i : Nat), RepM H (ty P kt) ms cs → Instr.findNow d k ms i = none ∨ Instr.findNow d k ms i = some ((findIx cs c i).bind fun j => (ms[j - i]?).map fun m => (j, m.val))
  | [], [], i, _ => by right; simp [Instr.findNow, findIx]
  | m :: ms, (c1, v1) :: cs, i, h => by
    simp only [RepM] at h
    simp only [Instr.findNow]
    rcases sameNow_rep hP hok hd rk hk h.1 h.2.1 with he | he
    · rw [he]; exact .inl rfl
    · rw [he]
      simp only [findIx]
      cases hc : C.eqb c c1 with
      | true => right; simp
      | false =>
        simp only [Bool.false_eq_true, if_false]
        rcases findNow_rep hP hok hd rk hk ms cs (i + 1) h.2.2 with ih | ih
        · exact .inl ih
        · right
          rw [ih]
          cases hf : findIx cs c (i + 1) with
          | none => rfl
          | some j =>
            have hj : i + 1 ≤ j := by
              have : ∀ (cs : List (C × α)) (i j : Nat), findIx cs c i = some j → i ≤ j := by
                intro cs
                induction cs with
                | nil => intro i j h; simp [findIx] at h
                | cons x cs ih =>
                  intro i j h
                  obtain ⟨a, b⟩ := x
                  simp only [findIx] at h
                  split at h
                  · cases h; exact Nat.le_refl _
                  · have := ih _ _ h; omega
              exact this cs _ _ hf
            simp only [Option.bind_some]
            rw [show j - i = (j - (i + 1)) + 1 by omega, List.getElem?_cons_succ]
  | [], _ :: _, _, h => by simp [RepM] at h
  | _ :: _, [], _, h => by simp [RepM] at h
theorem run_findKey_rep (hP : allOk P = true) {kt : TypeId} (hok : eqOk P kt = true) {H : Hp} {k : Value} {c : C} (rk : RepC H (ty P kt) k.cells.toList c) (hk : isAggV k = (ty P kt).isAgg) (w : World) {α : Type} {ms : List MapEntry} {cs : List (C × α)} (h : RepM H (ty P kt) ms cs) :
    (Instr.findKey kt k ms).run P w = .ok ((findIx cs c 0).bind fun j => (ms[j]?).map fun m => (j, m.val)) w := by
  obtain ⟨d, hd⟩ : ∃ d, P.underlying kt = some d := by
    cases hu : P.underlying kt with
    | some d => exact ⟨d, rfl⟩
    | none => unfold eqOk at hok; simp [eqOkF, hu] at hok
  simp only [Instr.findKey, Sem.run_bind, run_underlying hd, Result.andThen_ok]
  rcases findNow_rep hP hok hd rk hk ms cs 0 h with e | e
  · rw [e]
    simp only
    exact run_findAsking_rep hP hok rk hk w ms cs 0 h
  · rw [e]
    simp only [Sem.run_pure, Nat.sub_zero]
end
end Go.E


namespace Go.E
open Go

def Ty.flat : Ty → Bool
  | .int _ | .bool | .str => true
  | .arr _ e => e.flat
  | _ => false
def scalarV : Value → Bool
  | .int _ _ | .bool _ | .string _ => true
  | _ => false
theorem repC_inj {H H' : Hp} : ∀ {τ : Ty} {vs vs' : List Value} {c : C}, τ.flat = true → RepC H τ vs c → RepC H' τ vs' c → vs = vs'
  | .int k, vs, vs', c, _, h, h' => by
    simp only [RepC] at h h'
    obtain ⟨n, rfl, rfl, _⟩ := h
    obtain ⟨m, e, rfl, _⟩ := h'
    cases e; rfl
  | .bool, vs, vs', c, _, h, h' => by
    simp only [RepC] at h h'
    obtain ⟨n, rfl, rfl⟩ := h
    obtain ⟨m, e, rfl⟩ := h'
    cases e; rfl
  | .str, vs, vs', c, _, h, h' => by
    simp only [RepC] at h h'
    obtain ⟨n, rfl, rfl, _⟩ := h
    obtain ⟨m, e, rfl, _⟩ := h'
    cases e; rfl
  | .arr n e, vs, vs', c, hf, h, h' => by
    simp only [RepC] at h h'
    obtain ⟨cs, rfl, h1, h2, _, h3⟩ := h
    obtain ⟨cs', e', h1', h2', _, h3'⟩ := h'
    cases e'
    refine List.ext_getElem? fun j => ?_
    by_cases hj : j < n * e.size
    · have hs : 0 < e.size := by
        rcases Nat.eq_zero_or_pos e.size with h | h
        · rw [h, Nat.mul_zero] at hj; omega
        · exact h
      have hi : j / e.size < cs.length := by rw [h1]; exact (Nat.div_lt_iff_lt_mul hs).2 hj
      have hdm := Nat.div_add_mod j e.size
      have hmod := Nat.mod_lt j hs
      have heq := repC_inj (τ := e) hf (h3 _ _ (List.getElem?_eq_getElem hi)) (h3' _ _ (List.getElem?_eq_getElem hi))
      have := congrArg (fun l : List Value => l[j % e.size]?) heq
      simp only [chunk_getElem?, if_pos hmod] at this
      rw [Nat.mul_comm, hdm] at this
      exact this
    · rw [List.getElem?_eq_none (by omega), List.getElem?_eq_none (by omega)]
  | .slice _ _, _, _, _, hf, _, _ | .struct _ _ _, _, _, _, hf, _, _ | .ptr, _, _, _, hf, _, _ | .map, _, _, _, hf, _, _ | .func, _, _, _, hf, _, _ | .iface, _, _, _, hf, _, _ | .opq _, _, _, _, hf, _, _ => by simp [Ty.flat] at hf
theorem repC_scalar {H : Hp} : ∀ {τ : Ty} {vs : List Value} {c : C}, τ.flat = true → RepC H τ vs c → ∀ v ∈ vs, scalarV v = true
  | .int k, vs, c, _, h => by
    simp only [RepC] at h
    obtain ⟨n, rfl, rfl, _⟩ := h
    intro v hv; simp at hv; subst hv; rfl
  | .bool, vs, c, _, h => by
    simp only [RepC] at h
    obtain ⟨n, rfl, rfl⟩ := h
    intro v hv; simp at hv; subst hv; rfl
  | .str, vs, c, _, h => by
    simp only [RepC] at h
    obtain ⟨n, rfl, rfl, _⟩ := h
    intro v hv; simp at hv; subst hv; rfl
  | .arr n e, vs, c, hf, h => by
    simp only [RepC] at h
    obtain ⟨cs, rfl, h1, h2, _, h3⟩ := h
    intro v hv
    obtain ⟨j, hj⟩ := List.getElem?_of_mem hv
    have hjl : j < n * e.size := by rw [← h2]; exact (List.getElem?_eq_some_iff.1 hj).1
    have hs : 0 < e.size := by
      rcases Nat.eq_zero_or_pos e.size with h | h
      · rw [h, Nat.mul_zero] at hjl; omega
      · exact h
    have hi : j / e.size < cs.length := by rw [h1]; exact (Nat.div_lt_iff_lt_mul hs).2 hjl
    have hdm := Nat.div_add_mod j e.size
    have hmod := Nat.mod_lt j hs
    refine repC_scalar (τ := e) hf (h3 _ _ (List.getElem?_eq_getElem hi)) v (List.mem_of_getElem? (i := j % e.size) ?_)
    rw [chunk_getElem?, if_pos hmod, Nat.mul_comm, hdm]; exact hj
  | .slice _ _, _, _, hf, _ | .struct _ _ _, _, _, hf, _ | .ptr, _, _, hf, _ | .map, _, _, hf, _ | .func, _, _, hf, _ | .iface, _, _, hf, _ | .opq _, _, _, hf, _ => by simp [Ty.flat] at hf
theorem sameBits_scalar {n : Nat} {v : Value} (h : scalarV v = true) : Instr.sameBits n v v = true := by
  cases v <;> simp [scalarV] at h <;> cases n <;> simp [Instr.sameBits, beq_toListBytes]
theorem zip_self (l : List Value) : l.zip l = l.map fun x => (x, x) := by
  induction l with
  | nil => rfl
  | cons x l ih => simp [ih]
theorem sameBits_self {n : Nat} {v : Value} (h : ∀ u ∈ v.cells.toList, scalarV u = true) (hv : isAggV v = false → scalarV v = true) : Instr.sameBits (n + 1) v v = true := by
  cases v
  case agg a =>
    simp only [Value.cells] at h
    simp only [Instr.sameBits, beq_self_eq_true, Bool.true_and, zip_self, List.all_map, List.all_eq_true, Function.comp]
    exact fun u hu => sameBits_scalar (h u hu)
  all_goals exact sameBits_scalar (hv rfl)
theorem val_of_cells {u v : Value} (h : u.cells.toList = v.cells.toList) (h' : isAggV u = isAggV v) : u = v := by
  cases hu : isAggV u with
  | false =>
    rw [cells_of_plain hu, cells_of_plain (h' ▸ hu)] at h
    simpa using h
  | true =>
    rw [hu] at h'
    cases u <;> simp [isAggV] at hu
    cases v <;> simp [isAggV] at h'
    simp only [Value.cells] at h
    rw [Array.toList_inj.1 h]

section
variable {P : Program} {Γ : G} {w : World} {s : S}
theorem RepM.of {H : Hp} {kτ : Ty} {α : Type} : ∀ {ms : List MapEntry} {cs : List (C × α)}, ms.length = cs.length → (∀ (i : Nat) (m : MapEntry) (c : C × α), ms[i]? = some m → cs[i]? = some c → RepC H kτ m.key.cells.toList c.1 ∧ isAggV m.key = kτ.isAgg) → RepM H kτ ms cs
  | [], [], _, _ => trivial
  | m :: ms, c :: cs, hl, h => by
    obtain ⟨h1, h2⟩ := h 0 m c rfl rfl
    exact ⟨h1, h2, RepM.of (by simpa using hl) fun i m c hm hc => h (i + 1) m c (by simpa using hm) (by simpa using hc)⟩
  | [], _ :: _, hl, _ => by simp at hl
  | _ :: _, [], hl, _ => by simp at hl
theorem findIx_look {α : Type} : ∀ (cs : List (C × α)) (c : C) (i : Nat), match findIx cs c i with
    | some j => i ≤ j ∧ ∃ v, cs[j - i]? = some (c, v) ∧ lookM cs c = some v ∧ ∀ v', putM cs c v' = cs.set (j - i) (c, v')
    | none => lookM cs c = none ∧ ∀ v', putM cs c v' = cs ++ [(c, v')]
  | [], _, _ => by simp [findIx, lookM, putM]
  | (k, v) :: cs, c, i => by
    simp only [findIx, lookM, putM]
    by_cases h : C.eqb c k = true
    · rw [if_pos h]
      have := C.eqb_iff.1 h
      subst this
      simp [h]
    · rw [if_neg h]
      have ih := findIx_look cs c (i + 1)
      split at ih
      · rename_i j hj
        obtain ⟨h1, v', h2, h3, h4⟩ := ih
        rw [if_neg h]
        refine ⟨by omega, v', ?_, h3, fun u => ?_⟩
        · rw [show j - i = (j - (i + 1)) + 1 by omega, List.getElem?_cons_succ]; exact h2
        · rw [if_neg h, h4 u, show j - i = (j - (i + 1)) + 1 by omega, List.set_cons_succ]
      · rename_i hj
        rw [if_neg h]
        exact ⟨ih.1, fun u => by rw [if_neg h, ih.2 u]; rfl⟩

theorem mapT_spec {T kt et : TypeId} (h : mapT P T = some (kt, et)) : P.underlying T = some (.map kt et) := by
  unfold mapT at h
  split at h
  · rename_i hu; cases h; exact hu
  · cases h
theorem repV_mp {k : Key} {v : Value} (h : RepV Γ (.mp k) v) : ∃ b, Γ.ι k = some (b, .map) ∧ v = .map (some b) := by
  obtain ⟨h1, h2⟩ := (repV_plain rfl).1 h
  rw [cells_of_plain (by simpa [V.ty, Ty.isAgg] using h2)] at h1
  simp only [RepX] at h1
  obtain ⟨b, h1, h3⟩ := h1
  exact ⟨b, h1, by simpa using h3⟩
theorem run_find (hP : allOk P = true) (c : Conc Γ w s) {k : Key} {kt : TypeId} {vτ : Ty} {es : List (C × V)} {key : Value} {cc : C} (hobj : s.obj k = some (.map (ty P kt) vτ es)) (hok : eqOk P kt = true)
    (hk : RepV Γ (.d (ty P kt) cc) key) {b : Nat} (hι : Γ.ι k = some (b, .map)) : ∃ ms clock, w.heap[b]? = some (.map ms clock) ∧ (∀ em, (Instr.checkKey em 10000 kt key).run P w = .ok () w) ∧
      (Instr.findKey kt key ms.toList).run P w = .ok ((findIx es cc 0).bind fun j => (ms.toList[j]?).map fun m => (j, m.val)) w := by
  obtain ⟨b', ms, clock, e1, _, _, e4, e5, e6, _⟩ := c.own (by assumption) hobj
  rw [hι] at e1; cases e1
  obtain ⟨r1, r2⟩ := repV_d.1 hk
  have hok' := hok
  unfold eqOk at hok'
  simp only [Bool.and_eq_true] at hok'
  refine ⟨ms, clock, e4, fun em => run_checkKey_rep hP em 12 10000 kt hok'.1 (by decide) Γ.H key cc w r1 r2, ?_⟩
  exact run_findKey_rep hP hok r1 r2 w (RepM.of (by simpa using e5) fun i m c hm hc => ⟨(e6 i m c (by simpa using hm) hc).1, (e6 i m c (by simpa using hm) hc).2.1⟩)

theorem do_makeMap (c : Conc Γ w s) {o : Oper} {a : Act} {T : TypeId} {n : Nat} {kτ vτ : Ty} (ho : o.op = .makeMap T none) (hn : s.obj (.l n) = none) :
    Does P o a w (Post Γ w { s with loc := (.l n, .map kτ vτ []) :: s.loc } (.mp (.l n))) := by
  obtain ⟨h1, h2, h3⟩ := c.addKey hn (Ext.alloc w (.map #[] 0)) (τ := .map) (o := .map kτ vτ []) fun Γ' hpr _ hι hH hZ => ⟨w.heap.size, #[], 0, hι, hH, hZ, heap_alloc_new w _, rfl, fun i m c hm => by simp at hm, fun i m hm => by simp at hm, fun i j m m' hm => by simp at hm⟩
  refine Does.val (v := .map (some w.heap.size)) (w' := w.alloc (.map #[] 0)) ?_ ⟨_, h3, h2, h1, ?_⟩
  · unfold execOp
    have hr : (Instr.makeMap T none).run P w = .ok (.map (some w.heap.size)) (w.alloc (.map #[] 0)) := rfl
    simp [ho, hr]
  · refine (repV_plain rfl).2 ⟨?_, by simp [V.ty, Ty.isAgg, isAggV]⟩
    simp only [RepX]
    exact ⟨w.heap.size, by simp [G.addKey, updK], by simp [Value.cells]⟩

noncomputable def lookV (P : Program) (et : TypeId) (es : List (C × V)) (c : C) : V := (lookM es c).getD (zeroX (ty P et))
theorem do_lookup (hP : allOk P = true) (c : Conc Γ w s) {o : Oper} {a : Act} {T kt et : TypeId} {x i : Operand} {commaOk : Bool} {k : Key} {vτ : Ty} {es : List (C × V)} {cc : C}
    (ho : o.op = .lookup T x i commaOk) (hT : mapT P T = some (kt, et)) (hx : RepV Γ (.mp k) (a.eval x)) (hi : RepV Γ (.d (ty P kt) cc) (a.eval i)) (hobj : s.obj k = some (.map (ty P kt) vτ es)) (hok : eqOk P kt = true) (hz : zeroB P et = true) :
    Does P o a w (Post Γ w s (if commaOk then .tup [lookV P et es cc, .d .bool (.bool (lookM es cc).isSome)] else lookV P et es cc)) := by
  obtain ⟨b, hι, hxv⟩ := repV_mp hx
  obtain ⟨ms, clock, hb, hck, hfk⟩ := run_find hP c hobj hok hi hι
  obtain ⟨z, hzr, hzo, hza⟩ := run_zero hz
  have hfl := findIx_look es cc 0
  obtain ⟨b', ms', clock', e1, _, _, e4, e5, e6, _⟩ := c.own (by assumption) hobj
  rw [hι] at e1; cases e1
  rw [hb] at e4; cases e4
  obtain ⟨v, ok, hrv, hok2, hrun⟩ : ∃ v ok, (RepV Γ (lookV P et es cc) v ∧ (lookV P et es cc).plain = true) ∧ ok = (lookM es cc).isSome ∧ (Instr.lookup T (a.eval x) (a.eval i) commaOk).run P w = .ok (if commaOk then .tuple #[v, .bool ok] else v) w := by
    cases hf : findIx es cc 0 with
    | none =>
      rw [hf] at hfl hfk
      simp only at hfl
      refine ⟨z, false, ⟨?_, ?_⟩, by rw [hfl.1]; rfl, ?_⟩
      · simp only [lookV, hfl.1, Option.getD_none]
        exact (repV_plain (zeroX_plain _)).2 ⟨zeroX_rep (ty P et) hzo, by rw [zeroX_ty]; exact hza⟩
      · simp only [lookV, hfl.1, Option.getD_none]; exact zeroX_plain _
      · simp [Instr.lookup, hxv, run_underlying (mapT_spec hT), MapKept.run_getObj_map hb, hck, hfk, hzr]
    | some j =>
      rw [hf] at hfl hfk
      simp only [Nat.sub_zero] at hfl
      obtain ⟨_, v0, h2, h3, _⟩ := hfl
      obtain ⟨m, hm⟩ : ∃ m, ms[j]? = some m := by
        have : j < ms.size := by rw [e5]; exact (List.getElem?_eq_some_iff.1 h2).1
        exact ⟨_, Array.getElem?_eq_getElem this⟩
      obtain ⟨_, _, q3, q4, q5, q6, q7⟩ := e6 j m _ hm h2
      simp only at q3 q4 q5 q6
      refine ⟨m.val, true, ⟨?_, ?_⟩, by rw [h3]; rfl, ?_⟩
      · simp only [lookV, h3, Option.getD_some]
        exact (repV_plain q6).2 ⟨q3, by rw [q4, q5]⟩
      · simp only [lookV, h3, Option.getD_some]; exact q6
      · have hm' : ms.toList[j]? = some m := by simpa using hm
        rw [Option.bind_some, hm'] at hfk
        simp [Instr.lookup, hxv, run_underlying (mapT_spec hT), MapKept.run_getObj_map hb, hck, hfk]
  refine Does.val (v := if commaOk then .tuple #[v, .bool ok] else v) (w' := w) (by unfold execOp; simp [ho, hrun]) (Post.same c ?_)
  cases commaOk with
  | false => exact hrv.1
  | true =>
    refine ⟨#[v, .bool ok], rfl, ?_⟩
    refine repCaps_of (by simp) fun i x u hx hu => ?_
    match i with
    | 0 => simp at hx hu; subst hx; subst hu; exact ⟨hrv.2, hrv.1⟩
    | 1 => simp at hx hu; subst hx; subst hu; subst hok2; exact ⟨rfl, repV_mk_bool⟩
    | i + 2 => simp at hx

theorem size_lt {w w' : World} {b : Nat} (hlt : b < w'.heap.size) (oth : ∀ b', b' ≠ b → w'.heap[b']? = w.heap[b']?) : w.heap.size ≤ w'.heap.size :=
  size_same (o := w'.heap[b]) (by simp [hlt]) oth
theorem Conc.writeO (c : Conc Γ w s) {w' : World} {k : Key} {o0 o1 : O} {b : Nat} {τk : Ty}
    (ho : s.obj k = some o0) (hd0 : o0.isDead = false) (hι : Γ.ι k = some (b, τk)) (hnc : ∀ arr T fr, w.heap[b]? ≠ some (.cells arr T fr)) (hlt' : b < w'.heap.size) (hsame : ∀ b', b' ≠ b → w'.heap[b']? = w.heap[b']?) (hoo : oof w' = oof w) (hown : Γ.H b = none → Γ.Z b = none → Own Γ w' k o1) :
    Conc Γ w' { s with loc := (k, o1) :: s.loc } := by
  obtain ⟨hH, hZ, hlt, e2⟩ := c.ιlive hι ho hd0
  refine c.change (.refl Γ) rfl rfl rfl hoo (fun b' l h => ?_) (fun b' h => hsame b' (fun e => by subst e; exact h hZ)) (fun b' o sz h => ?_) (fun j o h => ?_) (fun _ h _ => h) (fun j h => ?_) (fun b' sz h => ?_) (c.injD (deadK_cons fun h => by rw [deadK_obj ho, hd0] at h; cases h)) c.tok c.tdom (size_lt hlt' hsame)
  · rw [hsame b' (fun e => by subst e; rw [hH] at h; cases h)]; exact c.hH b' l h
  · obtain ⟨a1, a2, a3⟩ := c.hκ b' o sz h
    rw [hsame b' (fun e => by subst e; exact a2 hH)]; exact ⟨a1, a2, a3⟩
  · rw [obj_cons] at h
    split at h
    · rename_i e
      subst e; cases h
      exact .inr (hown hH hZ)
    · rename_i e
      refine .inl ⟨h, fun hd => ⟨fun _ _ _ _ => ⟨rfl, rfl⟩, fun b' τ' hb => ?_⟩⟩
      obtain ⟨a1, a2, a3, _⟩ := c.ιlive hb h hd
      refine ⟨hsame b' (fun e' => ?_), a1⟩
      subst e'
      exact e (c.inj' hι hb (by rw [deadK_obj ho]; exact hd0) (by rw [deadK_obj h]; exact hd))
  · rw [obj_cons]
    split
    · simp
    · exact c.dom j h
  · obtain ⟨arr, T1, fr, a1, a2⟩ := c.hσ b' sz h
    by_cases e : b' = b
    · subst e; exact absurd a1 (hnc _ _ _)
    · exact ⟨arr, T1, fr, by rw [hsame b' e]; exact a1, a2⟩
theorem heap_set_other (w : World) (b b' : Nat) (o : Obj) (h : b' ≠ b) : ({ w with heap := w.heap.setIfInBounds b o } : World).heap[b']? = w.heap[b']? := by
  simp only [Array.getElem?_setIfInBounds_ne (fun e => h e.symm)]
theorem heap_set_same (w : World) {b : Nat} {o o' : Obj} (h : w.heap[b]? = some o') : ({ w with heap := w.heap.setIfInBounds b o } : World).heap[b]? = some o := by
  have := (Array.getElem?_eq_some_iff.1 h).1
  simp [this]
theorem do_mapUpdate (hP : allOk P = true) (c : Conc Γ w s) {o : Oper} {a : Act} {T kt et : TypeId} {x i y : Operand} {k : Key} {es : List (C × V)} {cc : C} {Y : V}
    (ho : o.op = .mapUpdate T x i y) (hT : mapT P T = some (kt, et)) (hx : RepV Γ (.mp k) (a.eval x)) (hi : RepV Γ (.d (ty P kt) cc) (a.eval i)) (hy : RepV Γ Y (a.eval y)) (hobj : s.obj k = some (.map (ty P kt) (ty P et) es)) (hok : eqOk P kt = true) (hfl : (ty P kt).flat = true)
    (h1 : Y.ty = ty P et) (h2 : Y.plain = true) (h3 : Y.noSl = true) :
    Does P o a w (Post Γ w { s with loc := (k, .map (ty P kt) (ty P et) (putM es cc Y)) :: s.loc } .any) := by
  obtain ⟨b, hι, hxv⟩ := repV_mp hx
  obtain ⟨ms, clock, hb, hck, hfk⟩ := run_find hP c hobj hok hi hι
  have hix := findIx_look es cc 0
  obtain ⟨b', ms', clock', e1, _, _, e4, e5, e6, e7, e8⟩ := c.own (by assumption) hobj
  rw [hι] at e1; cases e1
  rw [hb] at e4; cases e4
  obtain ⟨k1, k2⟩ := repV_d.1 hi
  obtain ⟨y1, y2⟩ := (repV_plain h2).1 hy
  cases hf : findIx es cc 0 with
  | none =>
    rw [hf] at hix hfk
    simp only at hix
    have hrun : (Instr.mapUpdate T (a.eval x) (a.eval i) (a.eval y)).run P w = .ok () { w with heap := w.heap.setIfInBounds b (.map (ms.push { key := a.eval i, val := a.eval y, born := clock }) (clock + 1)) } := by
      simp [Instr.mapUpdate, hxv, run_underlying (mapT_spec hT), MapKept.run_getObj_map hb, hck, hfk, MapKept.run_setObj_map _ hb]
    refine Does.skip (w' := _) (by unfold execOp; simp [ho, hrun]; rfl) ⟨Γ, .refl Γ, .refl Γ, c.writeO (o1 := .map (ty P kt) (ty P et) (putM es cc Y)) hobj rfl hι (fun arr T fr h => by rw [hb] at h; cases h) (lt_of_heap (heap_set_same w hb)) (fun b' h => heap_set_other w b b' _ h) rfl fun hH hZ => ?_, by simp [RepV]⟩
    refine ⟨b, _, _, hι, hH, hZ, heap_set_same w hb, by rw [hix.2]; simp [e5], fun j m c1 hm hc1 => ?_, fun j m hm => ?_, fun j j' m m' hm hm' hbb => ?_⟩
    · rw [hix.2] at hc1
      rw [Array.getElem?_push] at hm
      by_cases hj : j = ms.size
      · rw [if_pos hj] at hm; cases hm
        rw [List.getElem?_append_right (by omega), hj, e5] at hc1
        simp at hc1; subst hc1
        exact ⟨k1, k2, y1, by rw [y2, h1], h1, h2, h3⟩
      · rw [if_neg hj] at hm
        have hjl : j < ms.size := (Array.getElem?_eq_some_iff.1 hm).1
        rw [List.getElem?_append_left (by omega)] at hc1
        exact e6 j m c1 hm hc1
    · rw [Array.getElem?_push] at hm
      by_cases hj : j = ms.size
      · rw [if_pos hj] at hm; cases hm; simp
      · rw [if_neg hj] at hm; have := e7 j m hm; omega
    · rw [Array.getElem?_push] at hm hm'
      by_cases hj : j = ms.size <;> by_cases hj' : j' = ms.size
      · omega
      · rw [if_pos hj] at hm; rw [if_neg hj'] at hm'; cases hm
        have := e7 j' m' hm'; simp at hbb; omega
      · rw [if_neg hj] at hm; rw [if_pos hj'] at hm'; cases hm'
        have := e7 j m hm; simp at hbb; omega
      · rw [if_neg hj] at hm; rw [if_neg hj'] at hm'
        exact e8 j j' m m' hm hm' hbb
  | some j =>
    rw [hf] at hix hfk
    simp only [Nat.sub_zero] at hix
    obtain ⟨_, v0, g2, g3, g4⟩ := hix
    obtain ⟨m, hm⟩ : ∃ m, ms[j]? = some m := by
      have : j < ms.size := by rw [e5]; exact (List.getElem?_eq_some_iff.1 g2).1
      exact ⟨_, Array.getElem?_eq_getElem this⟩
    obtain ⟨q1, q2, _⟩ := e6 j m _ hm g2
    simp only at q1
    have hkey : m.key = a.eval i := val_of_cells (repC_inj hfl q1 k1) (by rw [q2, k2])
    have hsb : Instr.sameBits 10000 (((ms[j]?).map (·.key)).getD (a.eval i)) (a.eval i) = true := by
      rw [hm]; simp only [Option.map_some, Option.getD_some, hkey]
      refine sameBits_self (repC_scalar hfl k1) fun hag => ?_
      have := repC_scalar hfl k1
      rw [cells_of_plain hag] at this
      exact this _ (by simp)
    have hm' : ms.toList[j]? = some m := by simpa using hm
    rw [Option.bind_some, hm'] at hfk
    have hrun : (Instr.mapUpdate T (a.eval x) (a.eval i) (a.eval y)).run P w = .ok () { w with heap := w.heap.setIfInBounds b (.map (ms.modify j fun e => { e with key := a.eval i, val := a.eval y }) clock) } := by
      simp only [Option.map_some] at hfk
      simp [Instr.mapUpdate, hxv, run_underlying (mapT_spec hT), MapKept.run_getObj_map hb, hck, hfk, Instr.keyThatStays, hsb, MapKept.run_setObj_map _ hb]
    refine Does.skip (w' := _) (by unfold execOp; simp [ho, hrun]; rfl) ⟨Γ, .refl Γ, .refl Γ, c.writeO (o1 := .map (ty P kt) (ty P et) (putM es cc Y)) hobj rfl hι (fun arr T fr h => by rw [hb] at h; cases h) (lt_of_heap (heap_set_same w hb)) (fun b' h => heap_set_other w b b' _ h) rfl fun hH hZ => ?_, by simp [RepV]⟩
    have born : ∀ (j' : Nat) (m' : MapEntry), (ms.modify j fun e => { e with key := a.eval i, val := a.eval y })[j']? = some m' → ∃ m0, ms[j']? = some m0 ∧ m'.born = m0.born ∧ (j' ≠ j → m' = m0) ∧ (j' = j → m' = { m0 with key := a.eval i, val := a.eval y }) := by
      intro j' m' h
      rw [Array.getElem?_modify] at h
      by_cases e : j = j'
      · subst e
        rw [if_pos rfl, hm] at h
        simp at h; subst h
        exact ⟨m, hm, rfl, fun h => absurd rfl h, fun _ => rfl⟩
      · rw [if_neg e] at h
        exact ⟨m', h, rfl, fun _ => rfl, fun h => absurd h.symm e⟩
    refine ⟨b, _, _, hι, hH, hZ, heap_set_same w hb, by rw [g4]; simp [e5], fun j' m' c1 hm1 hc1 => ?_, fun j' m' hm1 => ?_, fun j1 j2 m1 m2 hm1 hm2 hbb => ?_⟩
    · obtain ⟨m0, z1, _, z3, z4⟩ := born j' m' hm1
      rw [g4] at hc1
      by_cases e : j' = j
      · rw [z4 e]
        subst e
        have hlt := (List.getElem?_eq_some_iff.1 g2).1
        simp [hlt] at hc1
        subst hc1
        exact ⟨k1, k2, y1, by rw [y2, h1], h1, h2, h3⟩
      · rw [List.getElem?_set_ne (fun h => e h.symm)] at hc1
        rw [z3 e]
        exact e6 j' m0 c1 z1 hc1
    · obtain ⟨m0, z1, z2, _⟩ := born j' m' hm1
      rw [z2]; exact e7 j' m0 z1
    · obtain ⟨n1, z1, z2, _⟩ := born j1 m1 hm1
      obtain ⟨n2, z1', z2', _⟩ := born j2 m2 hm2
      exact e8 j1 j2 n1 n2 z1 z1' (by rw [← z2, ← z2', hbb])
end
end Go.E


namespace Go.E
open Go

section
variable {P : Program} {Γ : G} {w : World} {s : S}
theorem do_append_arr (hP : allOk P = true) (c : Conc Γ w s) {o : Oper} {a : Act} {x y : Operand} {t t' : TypeId} {n : Nat} {X Y : V} {ys : List C} {eb : Nat} {e : Ty} (ho : appendOp o x y t t')
    (ht : ty P t = .slice eb e) (hz : zeroB P (elemT P t) = true) (hn : s.obj (.l n) = none)
    (hx : RepV Γ X (a.eval x)) (hX : X = .nilc ∨ ∃ eb' e', X = .emp eb' e') (hy : RepV Γ Y (a.eval y)) (hel : srcOf P s t' eb e Y ys) (hne : ys ≠ []) :
    Does P o a w (Post Γ w { s with loc := (.l n, .box (.d (.arr ys.length e) (.agg ys))) :: s.loc } (.sr (.l n) [] 0 ys.length none eb e)) := by
  obtain ⟨hu, he, heb, hE⟩ := ty_slice' hP ht
  obtain ⟨a0, hx0⟩ : ∃ a0, a.eval x = .slice a0 0 0 := by
    rcases hX with rfl | ⟨eb', e', rfl⟩
    · exact ⟨none, repV_nilc hx⟩
    · obtain ⟨h1, _⟩ := (repV_one rfl rfl).1 hx
      simp only [RepX] at h1
      obtain ⟨a0, h1⟩ := h1
      exact ⟨a0, by simpa using h1⟩
  obtain ⟨m, news, hs, r1, r2, r3, r4⟩ := src_any c hy hel
  obtain ⟨i, z, hi, hzz, hzo, hzo2⟩ := zero_of hz
  have hcz := zeroOk_length hzo
  have hsz : i.size = e.size := by
    have := tyF_size hP 11 (elemT P t)
    rw [he, this]; simp [Program.cellsOf, hi]
  have hby : i.bytes = eb := by rw [heb]; simp [Program.bytesOf, hi]
  rw [← hsz] at hs
  have hm : m ≠ 0 := by
    intro h; subst h; exact hne (List.eq_nil_of_length_eq_zero r1)
  have hmx' : ((0 + m : Nat) : Int) ≤ 9223372036854775807 := by unfold maxLen at r2; omega
  have hge := grownCap_ge w (0 + m) 0 (elemT P t)
  have hcm := grownCap_le_maxLen w (0 + m) 0 (elemT P t) (by omega)
  have hold : (Builtin.firstCells i.size 0 (.slice a0 0 0)).run P w.drew = .ok ([] : List Value).toArray w.drew := by
    cases a0 with
    | none => exact run_firstCells_none w.drew i.size 0 0 0
    | some ad => exact run_firstCells_some w.drew i.size 0 ad 0 0 [] (by simp) (by simp)
  have run := run_append_grow_src (P := P) w t t' o.type _ i z hu hi hzz a0 0 0 [] hold (a.eval y) m news hs (by omega) hmx' (by
    rw [hby]; exact growslice_fits (by omega) (by rw [Nat.zero_add]; exact r3))
  rw [← hx0] at run
  have hext : Ext w (w.drew.alloc (.cells ((([] : List Value) ++ news).toArray ++ Builtin.zeroCells z.cells (grownCap w (0 + m) 0 (elemT P t) - (0 + m))) (elemT P t))) := (Ext.drew w).trans (Ext.alloc _ _)
  have hnew := heap_alloc_new w.drew (.cells ((([] : List Value) ++ news).toArray ++ Builtin.zeroCells z.cells (grownCap w (0 + m) 0 (elemT P t) - (0 + m))) (elemT P t))
  have hnl : news.length = m * e.size := by rw [hs.newsLen, hsz]
  have hone : OneC news := one_of_elems r1 hnl r4
  have hrep : RepX Γ none [] (.d (.arr ys.length e) (.agg ys)) news := by
    simp only [RepX, RepC]
    exact ⟨ys, rfl, rfl, by rw [r1]; exact hnl, hone, r4⟩
  have hchunk : chunk ((([] : List Value) ++ news).toArray ++ Builtin.zeroCells z.cells (grownCap w (0 + m) 0 (elemT P t) - (0 + m))).toList 0 (ys.length * e.size) = news := by
    rw [r1, ← hnl]
    simp [chunk]
  obtain ⟨h1, h2, h3⟩ := c.addKey (k := .l n) hn hext (τ := .arr ys.length e) (o := .box (.d (.arr ys.length e) (.agg ys))) fun Γ' hpr _ hι hH hZ =>
    ⟨_, _, elemT P t, hι, hH, hZ, hnew, by simp only [V.ty, Ty.size, r1, ← hnl]; simp, by
      simp only [V.ty, Ty.size]
      rw [hchunk]
      exact (hrep.pres hpr (by trivial)).any_home, rfl, rfl⟩
  obtain ⟨k1, k2, k3⟩ := h1.addσ (show _ = _ from hnew)
  refine Does.val (run_append ho run) ⟨_, h3.trans k3, h2.trans k2, k1, (repV_one rfl rfl).2 ⟨?_, rfl⟩⟩
  simp only [RepX]
  rw [show 0 + m = m by omega] at hge hcm ⊢
  refine .inr ⟨w.heap.size, .arr ys.length e, 0, ys.length, grownCap w m 0 (elemT P t), by simp [G.addσ, G.addKey, updK], rfl, by omega, ⟨some ⟨w.heap.size, 0, none⟩, by rw [r1], .inr (by simp)⟩, by rw [r1]; exact hge, hcm, by rw [r1]; exact r3, (fun c h => by cases h), fun _ => .inr ⟨_, updN_same _ _ _, ?_⟩⟩
  have hzc : z.cells.size = e.size := by
    have h1 := tyF_size hP 11 (elemT P t)
    have h2 := ty_size hP (elemT P t)
    rw [he, h1, ← h2, ← hcz]; simp
  simp only [List.nil_append, Array.size_append, List.size_toArray, size_zeroCells, hzc, hnl, ← Nat.add_mul]
  rw [Nat.zero_add, Nat.zero_add]
  exact Nat.mul_le_mul_right _ (by omega)
theorem do_lenMap (c : Conc Γ w s) {o : Oper} {a : Act} {x : Operand} {T : TypeId} {k : Key} {kτ vτ : Ty} {es : List (C × V)} (ho : o.op = .call { callee := .builtin .len, args := #[x], argTypes := #[T] })
    {kt et : TypeId} (hT : mapT P T = some (kt, et)) (hx : RepV Γ (.mp k) (a.eval x)) (hobj : s.obj k = some (.map kτ vτ es)) (hl : es.length ≤ 9223372036854775807) : Does P o a w (Post Γ w s (.d (.int .i64) (.int es.length))) := by
  obtain ⟨b, hι, hxv⟩ := repV_mp hx
  obtain ⟨b', ms, clock, e1, _, _, e4, e5, _⟩ := c.own (by assumption) hobj
  rw [hι] at e1; cases e1
  refine Does.val (v := .int .i64 es.length) (w' := w) ?_ (Post.same c (repV_mk_int ?_ ?_))
  · unfold execOp
    have hw : IntKind.i64.wrap (es.length : Int) = es.length := IntWalk.i64_in _ (by omega)
    simp [ho, resolve, invoke, builtin, hxv, Builtin.len_, Builtin.lenOf, run_underlying (mapT_spec hT), MapKept.run_getObj_map e4, e5, goInt, hw]
  · have : IntKind.i64.min = -9223372036854775808 := by decide
    omega
  · have : IntKind.i64.max = 9223372036854775807 := by decide
    omega
end
end Go.E


namespace Go.E
open Go

def byteC (c : C) : UInt8 := UInt8.ofNat c.toInt.toNat
def Ty.isU8 : Ty → Bool
  | .int .u8 => true
  | _ => false
theorem Ty.isU8_eq : ∀ {τ : Ty}, τ.isU8 = true → τ = .int .u8
  | .int .u8, _ => rfl
def strOf (P : Program) (s : S) (src dst : TypeId) (x : V) : Option (List C) :=
  match ty P src, ty P dst with
  | .slice eb e, .str => if e.isU8 = true ∧ eb = 1 then (match x with
    | .nilc => some []
    | _ => (match elemsOf s x with
      | some (eb', e', ys) => if e'.isU8 = true ∧ eb' = 1 then some ys else none
      | none => none)) else none
  | _, _ => none

section
variable {P : Program} {Γ : G} {w : World} {s : S}
theorem under_int {f : Nat} {T : TypeId} {k : IntKind} (h : tyF P (f + 1) T = .int k) : P.underlying T = some (.int k) := by
  unfold tyF at h
  split at h
  · cases hu : P.underlying T with
    | none => simp [hu] at h
    | some d => cases d <;> simp [hu] at h ⊢ <;> exact h
  · cases h
theorem slice_of_elems {Y : V} {v : Value} {r : Nat × Ty × List C} (hr : RepV Γ Y v) (he : elemsOf s Y = some r) : ∃ a n cap, v = .slice a n cap := by
  obtain ⟨eb, e, ys⟩ := r
  have frozen : Y.asSl = some (eb, e, ys) → ∃ a n cap, v = .slice a n cap := fun h => by
    obtain ⟨a, n, cap, hv, _⟩ := repV_asSl hr h
    exact ⟨a, n, cap, hv⟩
  cases Y <;> (try exact frozen he)
  case sr k q lo n cp eb' e' =>
    obtain ⟨cap, a, rfl, _⟩ := repV_sr_val hr
    exact ⟨_, _, _, rfl⟩
theorem byte_back {c : C} {H : Hp} {vs : List Value} (h : RepC H (.int .u8) vs c) : vs = [.int .u8 ((byteC c).toNat : Int)] := by
  simp only [RepC] at h
  obtain ⟨n, rfl, rfl, h1, h2⟩ := h
  have m1 : IntKind.u8.min = 0 := by decide
  have m2 : IntKind.u8.max = 255 := by decide
  have : ((byteC (.int n)).toNat : Int) = n := by
    simp only [byteC, C.toInt, UInt8.toNat_ofNat']
    omega
  rw [this]
theorem do_strOf (hP : allOk P = true) (c : Conc Γ w s) {o : Oper} {a : Act} {src dst : TypeId} {x : Operand} (ho : o.op = .convert src dst x) {Y : V} {ys : List C} (h : strOf P s src dst Y = some ys)
    (hr : RepV Γ Y (a.eval x)) : Does P o a w (Post Γ w s (.d .str (.str (ys.map byteC)))) := by
  unfold strOf at h
  split at h
  · rename_i eb e ht hd
    obtain ⟨E, hu, hE, _, _⟩ := ty_slice hP ht
    have hd' := ty_str hd
    split at h
    · rename_i hc0
      obtain ⟨h0, rfl⟩ := hc0
      obtain rfl := Ty.isU8_eq h0
      have hEu : P.underlying E = some (.int .u8) := under_int hE.symm
      split at h
      · cases h
        have hv : a.eval x = .slice none 0 0 := repV_nilc hr
        refine Does.val (v := .string ⟨#[]⟩) (w' := w) ?_ (Post.same c (repV_mk_str (by simp)))
        unfold execOp
        simp only [ho, hv, Sem.run_bind]
        rw [run_convert_bytes_string w src dst E none 0 0 hu hEu hd']
        simp [Conv.bytesToString, Sem.run_pure, Result.andThen]
        rfl
      · split at h
        · rename_i eb' e' ys' he
          split at h
          · rename_i hc
            obtain ⟨h0', rfl⟩ := hc
            obtain rfl := Ty.isU8_eq h0'
            cases h
            obtain ⟨ad, n', cap, hv⟩ := slice_of_elems hr he
            obtain ⟨n, news, hs, h1, h2, h3, h4⟩ := src_of c hr he hu
            rw [hv] at hs
            have hn : n' = n := by
              have := hs.len w
              simp [Builtin.lenOf, Sem.run_pure] at this
              exact this
            subst hn
            have hsz : (Ty.int IntKind.u8).size = 1 := rfl
            have hnl := hs.newsLen
            rw [hsz, Nat.mul_one] at hnl
            have hnews : news = ((ys.map byteC).map (fun b => (b.toNat : Int))).map (Value.int .u8) := by
              apply List.ext_getElem?
              intro i
              by_cases hi : i < ys.length
              · have hy := h4 i _ (List.getElem?_eq_getElem hi)
                rw [hsz, Nat.mul_one] at hy
                have hb := byte_back hy
                have hi' : i < news.length := by omega
                have hcell : (chunk news i 1)[0]? = news[i]? := by rw [chunk_getElem?]; simp
                rw [hb] at hcell
                rw [← hcell]
                simp [List.getElem?_eq_getElem hi]
              · rw [List.getElem?_eq_none (by omega), List.getElem?_eq_none (by simp; omega)]
            refine Does.val (v := .string ⟨(ys.map byteC).toArray⟩) (w' := w) ?_ (Post.same c (repV_mk_str (by simp; omega)))
            unfold execOp
            simp only [ho, hv, Sem.run_bind]
            rw [run_convert_bytes_string w src dst E ad n' cap hu hEu hd']
            cases ad with
            | none =>
              have hc := hs.cells
              simp [Builtin.firstCells, Sem.run_pure] at hc
              have hn0 : ys = [] := by
                rw [hc] at hnl
                simp at hnl
                exact List.eq_nil_of_length_eq_zero (by omega)
              subst hn0
              simp [Conv.bytesToString, Sem.run_pure, Result.andThen]
              rfl
            | some ad =>
              have hc := hs.cells
              simp only [Builtin.firstCells, hsz, Nat.mul_one] at hc
              rw [hnews] at hc
              rw [run_bytesToString w ad n' cap _ hc, foldl_push_byteCells]
              simp [Result.andThen, Sem.run_pure]
          · cases h
        · cases h
    · cases h
  · cases h
end
end Go.E


namespace Go.E
open Go
section
variable {P : Program} {Γ : G} {w w' : World} {s : S}
theorem Conc.kill (c : Conc Γ w s) {k : Key} {o : O} (ho : s.obj k = some o) : Conc Γ w { s with loc := (k, .dead o.ty) :: s.loc } := by
  refine ⟨c.hH, c.hZ, c.hκ, fun j o' h => ?_, fun j h => ?_, c.injD (deadK_cons fun _ => rfl), c.tok, c.tdom, c.hgl, c.hoo, c.hσ⟩
  · rw [obj_cons] at h
    split at h
    · rename_i e
      subst e; cases h
      refine (c.obj _ _ ho).imp (fun h => ⟨h.1, trivial⟩) fun hown => ?_
      obtain ⟨b, τ, h1, _, h4, h5⟩ := hown.block
      exact ⟨b, by rw [← h5]; exact h1, h4⟩
    · exact c.obj j o' h
  · rw [obj_cons]
    split
    · simp
    · exact c.dom j h
theorem Conc.regrow (c : Conc Γ w s) {k j : Key} {x x' : V} {b m m' : Nat} {e : Ty} {cells' : Array Value} {T : TypeId}
    (ho : s.obj k = some (.box x)) (hxt : x.ty = .arr m e) (hι : Γ.ι k = some (b, .arr m e)) (hj : s.obj j = none) (hnew : w'.heap[b]? = some (.cells cells' T (0, 0))) (hsame : ∀ b', b' ≠ b → w'.heap[b']? = w.heap[b']?) (hoo : oof w' = oof w)
    (ht : x'.ty = .arr m' e) (hsz : x'.ty.size ≤ cells'.size) (hx : RepX Γ none [] x' (chunk cells'.toList 0 x'.ty.size)) (hp : x'.plain = true) (hns : x'.noSl = true)
    (hcs : ∀ arr T fr, w.heap[b]? = some (.cells arr T fr) → cells'.size = arr.size) (hkl : ∀ i, j ≠ .g i := by intro i h; cases h) :
    Conc (Γ.addKey j b (.arr m' e)) w' { s with loc := (j, .box x') :: (k, .dead (.arr m e)) :: s.loc } ∧ Pres Γ (Γ.addKey j b (.arr m' e)) ∧ GLe Γ (Γ.addKey j b (.arr m' e)) := by
  obtain ⟨hH, hZ, hlt, _⟩ := c.ιlive hι ho rfl
  have hkj : k ≠ j := fun e => by subst e; rw [ho] at hj; cases hj
  have hk0 := c.ι_none hj
  have hιk : ∀ i y, Γ.ι i = some y → (Γ.addKey j b (.arr m' e)).ι i = some y := by
    intro i y hi
    have : i ≠ j := by intro e; subst e; rw [hk0] at hi; cases hi
    simp [G.addKey, updK, this, hi]
  have hpr : Pres Γ (Γ.addKey j b (.arr m' e)) := ⟨Hp.le_refl _, hιk, fun t x L h => ⟨x, L, h, Nat.le_refl _, fun _ => rfl⟩, fun _ _ h => h⟩
  have hmono : w.heap.size ≤ w'.heap.size := by
    cases Nat.lt_or_ge w'.heap.size w.heap.size with
    | inr h => exact h
    | inl hlt2 =>
      have h1 := lt_of_heap hnew
      have h3 := hsame w'.heap.size (by omega)
      rw [Array.getElem?_eq_none (Nat.le_refl _), Array.getElem?_eq_getElem hlt2] at h3
      cases h3
  have hdk : s.deadK k = false := by rw [deadK_obj ho]; rfl
  have hobj : ∀ i, S.obj { s with loc := (j, .box x') :: (k, .dead (.arr m e)) :: s.loc } i = if j = i then some (.box x') else if k = i then some (.dead (.arr m e)) else s.obj i := by
    intro i
    rw [show S.obj { s with loc := (j, .box x') :: (k, .dead (.arr m e)) :: s.loc } i = S.obj { ({ s with loc := (k, .dead (.arr m e)) :: s.loc } : S) with loc := (j, .box x') :: (k, .dead (.arr m e)) :: s.loc } i from rfl, obj_cons ({ s with loc := (k, .dead (.arr m e)) :: s.loc } : S), obj_cons s]
  have hdead : ∀ i, s.deadK i = true → S.deadK { s with loc := (j, .box x') :: (k, .dead (.arr m e)) :: s.loc } i = true := by
    intro i hi
    unfold S.deadK
    rw [hobj]
    by_cases h1 : j = i
    · subst h1; unfold S.deadK at hi; rw [hj] at hi; cases hi
    · rw [if_neg h1]
      by_cases h2 : k = i
      · rw [if_pos h2]; rfl
      · rw [if_neg h2]; exact hi
  have hdk' : S.deadK { s with loc := (j, .box x') :: (k, .dead (.arr m e)) :: s.loc } k = true := by
    unfold S.deadK; rw [hobj, if_neg (fun h => hkj h.symm), if_pos rfl]; rfl
  refine ⟨?_, hpr, ⟨Hp.le_refl _, rfl, fun _ _ => rfl, fun i y h => hιk _ _ h, rfl, rfl, fun _ _ h => h, fun i h => by
    have : Key.g i ≠ j := fun e => hkl i e.symm
    simpa [G.addKey, updK, this] using h⟩⟩
  refine c.change hpr rfl rfl rfl hoo (fun b' l h => ?_) (fun b' h => hsame b' (fun e => by subst e; exact h hZ)) (fun b' o sz h => ?_) (fun i o h => ?_) (fun i h h' => by
    have : i ≠ j := fun e => by subst e; exact h' hj
    simpa [G.addKey, updK, this] using h) (fun i h => ?_) (fun b' sz h => ?_) (fun i i' b' τ1 τ2 h1 h2 => ?_) c.tok c.tdom hmono
  · have h' : Γ.H b' = some l := h
    rw [hsame b' (fun e => by subst e; rw [hH] at h'; cases h')]; exact c.hH b' l h'
  · obtain ⟨a1, a2, a3⟩ := c.hκ b' o sz h
    rw [hsame b' (fun e => by subst e; exact a2 hH)]; exact ⟨a1, a2, a3⟩
  · rw [hobj] at h
    by_cases e1 : j = i
    · rw [if_pos e1] at h; subst e1; cases h
      exact .inr ⟨b, cells', T, by rw [ht]; simp [G.addKey, updK], hH, hZ, hnew, hsz, (RepX.pres (hm := none) hpr trivial _ hx).any_home, hp, hns⟩
    · rw [if_neg e1] at h
      by_cases e2 : k = i
      · rw [if_pos e2] at h; subst e2; cases h
        exact .inr ⟨b, hιk _ _ hι, by omega⟩
      · rw [if_neg e2] at h
        refine .inl ⟨h, fun hd => ⟨fun _ _ _ _ => ⟨rfl, rfl⟩, fun b' τ' hb => ?_⟩⟩
        obtain ⟨a1, a2, a3, _⟩ := c.ιlive hb h hd
        refine ⟨hsame b' (fun e' => ?_), a1⟩
        subst e'
        exact e2 (c.inj' hι hb hdk (by rw [deadK_obj h]; exact hd))
  · rw [hobj]
    by_cases e1 : j = i
    · rw [if_pos e1]; simp
    · rw [if_neg e1]
      by_cases e2 : k = i
      · rw [if_pos e2]; simp
      · rw [if_neg e2]
        refine c.dom i ?_
        have : i ≠ j := fun h => e1 h.symm
        simpa [G.addKey, updK, this] using h
  · obtain ⟨arr, T1, fr, a1, a2⟩ := c.hσ b' sz h
    by_cases e : b' = b
    · subst e
      exact ⟨cells', T, (0, 0), hnew, by rw [hcs _ _ _ a1]; exact a2⟩
    · exact ⟨arr, T1, fr, by rw [hsame b' e]; exact a1, a2⟩
  · have key : ∀ i b' τ', (Γ.addKey j b (.arr m' e)).ι i = some (b', τ') → (i = j ∧ b' = b ∧ τ' = .arr m' e) ∨ (i ≠ j ∧ Γ.ι i = some (b', τ')) := by
      intro i b' τ' h
      by_cases hij : i = j
      · left; simp [G.addKey, updK, hij] at h; exact ⟨hij, h.1.symm, h.2.symm⟩
      · right; exact ⟨hij, by simpa [G.addKey, updK, hij] using h⟩
    have old : ∀ i τ', Γ.ι i = some (b, τ') → S.deadK { s with loc := (j, .box x') :: (k, .dead (.arr m e)) :: s.loc } i = true ∧ τ'.isArr = true := by
      intro i τ' h
      rcases c.inj i k b _ _ h hι with rfl | ⟨h1 | h1, h2, _⟩
      · rw [hι] at h; cases h; exact ⟨hdk', rfl⟩
      · exact ⟨hdead i h1, h2⟩
      · rw [hdk] at h1; cases h1
    rcases key i b' τ1 h1 with ⟨e1, e2, e3⟩ | ⟨e1, e2⟩ <;> rcases key i' b' τ2 h2 with ⟨f1, f2, f3⟩ | ⟨f1, f2⟩
    · exact .inl (by rw [e1, f1])
    · subst e2; obtain ⟨g1, g2⟩ := old i' τ2 f2; exact .inr ⟨.inr g1, by rw [e3]; rfl, g2⟩
    · subst f2; obtain ⟨g1, g2⟩ := old i τ1 e2; exact .inr ⟨.inl g1, g2, by rw [f3]; rfl⟩
    · exact (c.inj _ _ _ _ _ e2 f2).imp id (And.imp (Or.imp (hdead _) (hdead _)) id)
end
end Go.E


namespace Go.E
open Go
section
variable {P : Program} {Γ : G} {w w' : World} {s : S}
theorem run_append_none (w : World) (t tx ty e : TypeId) (i : TypeInfo) (ht : P.underlying t = some (.slice e)) (hi : P.info? e = some i) (base : Option Addr) (sLen sCap : Nat) (hle : sLen ≤ sCap) (x : Value) (hs : Src P i.size tx x 0 [] w) :
    (Builtin.append_ #[t, tx] ty #[.slice base sLen sCap, x]).run P w = .ok (.slice base sLen sCap) w := by
  have h0 := hs.cells
  rcases hs.kind with ⟨e', hk⟩ | hk <;> cases base <;> simp [Builtin.append_, run_underlying ht, run_underlying hk, sizeOf, typeInfo, hi, hs.len, hle, h0, storeCells]
theorem Conc.virt0 (c : Conc Γ w s) {t : Nat} {e : Ty} (ht : s.obj (.l t) = none) : Conc Γ w { s with loc := (.l t, .box (.d (.arr 0 e) (.agg []))) :: s.loc } := by
  refine ⟨c.hH, c.hZ, c.hκ, fun j o hj => ?_, fun j hj => ?_, c.injD (fun j hj => ?_), c.tok, c.tdom, c.hgl, c.hoo, c.hσ⟩
  · rw [obj_cons] at hj
    split at hj
    · rename_i e1; subst e1; cases hj
      exact .inl ⟨c.ι_none ht, e, rfl⟩
    · exact c.obj j o hj
  · rw [obj_cons]
    split
    · simp
    · exact c.dom j hj
  · unfold S.deadK at hj ⊢
    rw [obj_cons]
    split
    · rename_i e1; subst e1; rw [ht] at hj; cases hj
    · exact hj
theorem do_append_vec (hP : allOk P = true) (c : Conc Γ w s) {o : Oper} {a : Act} {x y : Operand} {t t' : TypeId} {d : Nat} {k : Key} {n M : Nat} {cc : C} {Y : V} {ys : List C} {eb : Nat} {e : Ty} (ho : appendOp o x y t t')
    (ht : ty P t = .slice eb e) (hz : zeroB P (elemT P t) = true) (hd : s.obj (.l d) = none) (hobj : s.obj k = some (.box (.d (.arr M e) cc)))
    (hx : RepV Γ (.sr k [] 0 n none eb e) (a.eval x)) (hy : RepV Γ Y (a.eval y)) (hel : srcOf P s t' eb e Y ys) (hlen : (n + ys.length) * eb ≤ 140737488355328) (hlen2 : n + ys.length ≤ maxLen) :
    Does P o a w (Post Γ w { s with loc := (.l d, .box (.d (.arr (n + ys.length) e) (.agg (cc.elems.take n ++ ys)))) :: (k, .dead (.arr M e)) :: s.loc } (.sr (.l d) [] 0 (n + ys.length) none eb e)) := by
  obtain ⟨hu, he, heb, hE⟩ := ty_slice' hP ht
  obtain ⟨m, news, hs, r1, r2, r3, r4⟩ := src_any c hy hel
  have hcs0 : elemsOf s (.sr k [] 0 n none eb e) = some (eb, e, cc.elems.take n) := by simp [elemsOf, hobj, V.at]
  obtain ⟨n', olds, hso, o1, o2, o3, o4⟩ := src_of (P := P) (tx := t) c hx hcs0 hu
  have hlc : (cc.elems.take n).length = n := by
    rcases repV_sr hx with ⟨_, rfl, _⟩ | ⟨b, τ0, o0, M', cap, aa, a1, a2, a3, _⟩
    · simp
    · obtain ⟨b', cells, T, g1, g2, g3, g4, g5, g6, g7, _⟩ := c.own a1 hobj
      rw [a1] at g1; cases g1
      simp only [V.ty, Ty.walk, Option.some.injEq, Prod.mk.injEq, Ty.arr.injEq] at a2
      obtain ⟨rfl, rfl, _⟩ := a2
      simp only [V.ty, RepX, RepC] at g6
      obtain ⟨cs, rfl, q1, _⟩ := g6
      simp only [C.elems, List.length_take]; omega
  have hn : n' = n := by rw [← o1]; exact hlc
  subst hn
  obtain ⟨i, z, hi, hzz, hzo, hzo2⟩ := zero_of hz
  have hcz := zeroOk_length hzo
  have hsz : i.size = e.size := by
    have := tyF_size hP 11 (elemT P t)
    rw [he, this]; simp [Program.cellsOf, hi]
  have hby : i.bytes = eb := by rw [heb]; simp [Program.bytesOf, hi]
  have hzc : z.cells.size = e.size := by
    have h1 := tyF_size hP 11 (elemT P t)
    have h2 := ty_size hP (elemT P t)
    rw [he, h1, ← h2, ← hcz]; simp
  rw [← hsz] at hs hso
  have hnl : news.length = m * e.size := by rw [hs.newsLen, hsz]
  have hol : olds.length = n' * e.size := by rw [hso.newsLen, hsz]
  have hmx' : ((n' + m : Nat) : Int) ≤ 9223372036854775807 := by unfold maxLen at hlen2; omega
  have hbb : (n' + m) * eb ≤ 140737488355328 := by rw [← r1]; exact hlen
  have hl12 : (cc.elems.take n' ++ ys).length = n' + ys.length := by simp [o1]
  have hrepOf : ∀ {Γ' : G}, Pres Γ Γ' → ∀ olds : List Value, olds.length = n' * e.size → (∀ i c', (cc.elems.take n')[i]? = some c' → RepC Γ.H e (chunk olds (i * e.size) e.size) c') → ∀ vs : List Value, vs.length = (n' + ys.length) * e.size → vs = olds ++ news → RepX Γ' none [] (.d (.arr (n' + ys.length) e) (.agg (cc.elems.take n' ++ ys))) vs := by
    intro Γ' hp olds hol o4 vs hvl hvs
    subst hvs
    have hall : ∀ j c', (cc.elems.take n' ++ ys)[j]? = some c' → RepC Γ'.H e (chunk (olds ++ news) (j * e.size) e.size) c' := by
      intro j c' hj
      have := grown_block (H := Γ'.H) (rest := []) o1 r1 hol hnl (fun i c' hi => (o4 i c' hi).mono hp.H) (fun i c' hi => (r4 i c' hi).mono hp.H) j c' hj
      simpa using this
    simp only [RepX, RepC]
    exact ⟨_, rfl, hl12, hvl, one_of_elems hl12 hvl hall, hall⟩
  have hkd : k ≠ .l d := fun h => by rw [h, hd] at hobj; cases hobj
  have newb : ∀ (aa : Option Addr) (cap : Nat), a.eval x = .slice aa n' cap → cap ≤ maxLen → ¬ n' + m ≤ cap → Does P o a w (Post Γ w { s with loc := (.l d, .box (.d (.arr (n' + ys.length) e) (.agg (cc.elems.take n' ++ ys)))) :: (k, .dead (.arr M e)) :: s.loc } (.sr (.l d) [] 0 (n' + ys.length) none eb e)) := by
    intro aa cap hv a6 hroom
    have hge := grownCap_ge w (n' + m) cap (elemT P t)
    have hcm := grownCap_le_maxLen w (n' + m) cap (elemT P t) (by omega)
    have hold' : (Builtin.firstCells i.size n' (.slice aa n' cap)).run P w.drew = .ok olds.toArray w.drew := by rw [← hv]; exact hso.cellsD
    have run := run_append_grow_src (P := P) w t t' o.type _ i z hu hi hzz aa n' cap olds hold' (a.eval y) m news hs (by omega) hmx' (by
      rw [hby]; exact growslice_fits (by omega) hbb)
    rw [← hv] at run
    have hext : Ext w (w.drew.alloc (.cells ((olds ++ news).toArray ++ Builtin.zeroCells z.cells (grownCap w (n' + m) cap (elemT P t) - (n' + m))) (elemT P t))) := (Ext.drew w).trans (Ext.alloc _ _)
    have hnew := heap_alloc_new w.drew (.cells ((olds ++ news).toArray ++ Builtin.zeroCells z.cells (grownCap w (n' + m) cap (elemT P t) - (n' + m))) (elemT P t))
    have hsize : ((olds ++ news).toArray ++ Builtin.zeroCells z.cells (grownCap w (n' + m) cap (elemT P t) - (n' + m))).size = grownCap w (n' + m) cap (elemT P t) * e.size := by
      simp only [Array.size_append, List.size_toArray, List.length_append, size_zeroCells, hzc, hnl, hol, ← Nat.add_mul]
      congr 1; omega
    have hll : (olds ++ news).length = (n' + ys.length) * e.size := by rw [List.length_append, hol, hnl, Nat.add_mul, r1]
    have hchunk : chunk ((olds ++ news).toArray ++ Builtin.zeroCells z.cells (grownCap w (n' + m) cap (elemT P t) - (n' + m))).toList 0 ((n' + ys.length) * e.size) = olds ++ news := by
      unfold chunk
      rw [List.drop_zero, Array.toList_append, List.toList_toArray]
      exact List.take_left' hll
    have ck := c.kill hobj
    obtain ⟨h1, h2, h3⟩ := ck.addKey (k := .l d) (by rw [obj_cons, if_neg hkd]; exact hd) hext (τ := .arr (n' + ys.length) e) (o := .box (.d (.arr (n' + ys.length) e) (.agg (cc.elems.take n' ++ ys)))) fun Γ' hpr _ hι hH hZ =>
      ⟨_, _, elemT P t, hι, hH, hZ, hnew, by simp only [V.ty, Ty.size]; rw [hsize, r1]; exact Nat.mul_le_mul_right _ hge, by
        simp only [V.ty, Ty.size]
        rw [hchunk]
        exact (hrepOf hpr _ hol o4 _ hll rfl).any_home, rfl, rfl⟩
    obtain ⟨k1, k2, k3⟩ := h1.addσ (show _ = _ from hnew)
    refine Does.val (run_append ho run) ⟨_, h3.trans k3, h2.trans k2, k1, (repV_one rfl rfl).2 ⟨?_, rfl⟩⟩
    simp only [RepX]
    refine .inr ⟨w.heap.size, .arr (n' + ys.length) e, 0, n' + ys.length, grownCap w (n' + m) cap (elemT P t), by simp [G.addσ, G.addKey, updK], rfl, by omega, ⟨some ⟨w.heap.size, 0, none⟩, by rw [r1], .inr (by simp)⟩, by rw [r1]; exact hge, hcm, hlen, (fun c h => by cases h), fun _ => .inr ⟨_, updN_same _ _ _, ?_⟩⟩
    rw [hsize, Nat.zero_add, Nat.zero_add]; exact Nat.le_refl _
  have none0 : ∀ aa : Option Addr, a.eval x = .slice aa 0 0 → n' = 0 → m = 0 → Does P o a w (Post Γ w { s with loc := (.l d, .box (.d (.arr (n' + ys.length) e) (.agg (cc.elems.take n' ++ ys)))) :: (k, .dead (.arr M e)) :: s.loc } (.sr (.l d) [] 0 (n' + ys.length) none eb e)) := by
    intro aa hv hn0 hm0
    subst hn0; subst hm0
    have hy0 : ys = [] := List.eq_nil_of_length_eq_zero r1
    subst hy0
    have hw0 : news = [] := List.eq_nil_of_length_eq_zero (by rw [hnl, Nat.zero_mul])
    subst hw0
    have run := run_append_none (P := P) w t t' o.type _ i hu hi aa 0 0 (Nat.le_refl _) (a.eval y) hs
    rw [← hv] at run
    have ck := (c.kill hobj).virt0 (t := d) (e := e) (by rw [obj_cons, if_neg hkd]; exact hd)
    refine Does.val (run_append ho run) ⟨Γ, .refl Γ, .refl Γ, ck, (repV_one rfl rfl).2 ⟨?_, by rw [hv]; rfl⟩⟩
    simp only [RepX]
    exact .inl ⟨trivial, rfl, aa, by rw [hv]⟩
  rcases repV_sr hx with ⟨_, h0, aa, hv⟩ | ⟨b, τ0, o0, M', cap, aa, a1, a2, a3, hv, a4, a5, a6, a7, _, a9⟩
  · subst h0
    by_cases hm0 : m = 0
    · exact none0 aa hv rfl hm0
    · exact newb aa 0 hv (Nat.zero_le _) (by omega)
  obtain ⟨b', cells, T, g1, g2, g3, g4, g5, g6, g7, _⟩ := c.own a1 hobj
  rw [a1] at g1; cases g1
  simp only [V.ty, Ty.walk, Option.some.injEq, Prod.mk.injEq, Ty.arr.injEq] at a2
  obtain ⟨rfl, rfl, _⟩ := a2
  simp only [V.ty, RepX, RepC] at g6
  obtain ⟨cs, rfl, q1, q2, q3, q4⟩ := g6
  simp only [C.elems] at *
  by_cases hroom : n' + m ≤ cap
  · -- in the room behind
    by_cases hc0 : cap = 0
    · subst hc0
      have hn0 : n' = 0 := by omega
      exact none0 aa (by rw [hv, hn0]) hn0 (by omega)
    have haa : aa = some ⟨b, 0, none⟩ := by
      rcases a4 with a4 | a4
      · exact absurd a4 hc0
      · rw [a4]; simp
    subst haa
    obtain ⟨sz, s1, s2⟩ : ∃ sz, Γ.σ b = some sz ∧ 0 + (0 + cap) * e.size ≤ sz := by
      rcases a9 trivial with a9 | a9
      · omega
      · exact a9
    obtain ⟨arr, T', fr, s3, s4⟩ := c.hσ b sz s1
    rw [g4] at s3; cases s3
    have hfit : n' * e.size + m * e.size ≤ cells.size := by
      rw [s4, ← Nat.add_mul]
      rw [Nat.zero_add, Nat.zero_add] at s2
      exact Nat.le_trans (Nat.mul_le_mul_right _ hroom) s2
    have run := run_append_room_src (P := P) w t t' o.type _ i hu hi b 0 n' cap (a.eval y) m news hs hroom
      (fun j hj => by
        rw [hnl] at hj
        simp [World.cell?, g4]
        rw [hsz]; omega)
      (fun j hj => by simp [World.frozen?, g4])
    rw [← hv] at run
    rw [Nat.zero_add, hsz] at run
    obtain ⟨arr', hw', harr'⟩ := setCells_heap b news (n' * e.size) w cells T (0, 0) g4 (by rw [hnl]; exact hfit)
    have hsz' : arr'.size = cells.size := by rw [← Array.length_toList, ← Array.length_toList, harr', splice_length (by rw [hnl]; simpa using hfit)]
    have hMl : n' * e.size ≤ M * e.size := Nat.mul_le_mul_right _ (by omega)
    have hMc : M * e.size ≤ cells.size := g5
    have hol2 : (chunk cells.toList 0 (n' * e.size)).length = n' * e.size := chunk_length _ _ _ (by simp; omega)
    have o42 : ∀ i c', (cs.take n')[i]? = some c' → RepC Γ.H e (chunk (chunk cells.toList 0 (n' * e.size)) (i * e.size) e.size) c' := by
      intro i c' hi
      rw [List.getElem?_take] at hi
      split at hi
      · rename_i hin
        have := q4 i c' hi
        have hle : (i + 1) * e.size ≤ n' * e.size := Nat.mul_le_mul_right _ hin
        rw [Nat.add_mul] at hle
        simp only [Ty.size] at this
        rw [chunk_chunk _ _ _ _ _ (by omega)] at this
        rw [chunk_chunk _ _ _ _ _ (by omega)]
        exact this
      · cases hi
    have hll : (chunk cells.toList 0 (n' * e.size) ++ news).length = (n' + ys.length) * e.size := by rw [List.length_append, hol2, hnl, Nat.add_mul, r1]
    have hchunk : chunk arr'.toList 0 ((n' + ys.length) * e.size) = chunk cells.toList 0 (n' * e.size) ++ news := by
      rw [harr']
      unfold chunk splice
      rw [List.drop_zero, List.drop_zero]
      refine List.take_left' ?_
      rw [List.length_append, hnl, List.length_take, Nat.add_mul, r1]
      simp; omega
    obtain ⟨h1, h2, h3⟩ := c.regrow (w' := w.setCells b (n' * e.size) news) (j := .l d) (x' := .d (.arr (n' + ys.length) e) (.agg (cs.take n' ++ ys))) hobj rfl a1 hd hw'
      (fun b' hb' => setCells_other b news _ w b' hb') (by unfold oof; rw [World.os_setCells, World.output_setCells]) rfl
      (by simp only [V.ty, Ty.size]; rw [hsz', Nat.add_mul, r1]; exact hfit) (by
        simp only [V.ty, Ty.size]; rw [hchunk]; exact hrepOf (Pres.refl Γ) _ hol2 o42 _ hll rfl) rfl rfl (fun arr T fr h => by rw [g4] at h; cases h; exact hsz')
    refine Does.val (run_append ho run) ⟨_, h3, h2, h1, (repV_one rfl rfl).2 ⟨?_, rfl⟩⟩
    simp only [RepX]
    refine .inr ⟨b, .arr (n' + ys.length) e, 0, n' + ys.length, cap, by simp [G.addKey, updK], rfl, by omega, ⟨some ⟨b, 0, none⟩, by rw [r1], .inr (by simp)⟩, by rw [r1]; exact hroom, a6, hlen, (fun c h => by cases h), fun _ => .inr ⟨sz, s1, ?_⟩⟩
    exact s2
  · exact newb aa cap hv a6 hroom
end
end Go.E


namespace Go.E
open Go
section
variable {P : Program} {Γ : G} {w w' : World} {s : S}
theorem loadCellsFrom_take (a : Addr) : ∀ (n i : Nat) (acc arr : Array Value) (w' : World), (loadCellsFrom a i n acc).run P w = .ok arr w' → ∀ k, k ≤ n →
    ∃ l r : List Value, arr = acc ++ (l ++ r).toArray ∧ l.length = k ∧ (loadCellsFrom a i k acc).run P w = .ok (acc ++ l.toArray) w
  | 0, i, acc, arr, w', h, k, hk => by
    have : k = 0 := by omega
    subst this
    simp [loadCellsFrom] at h
    exact ⟨[], [], by simp [h.1], rfl, by simp [loadCellsFrom]⟩
  | n + 1, i, acc, arr, w', h, k, hk => by
    have step : ∀ (m : Nat), (loadCellsFrom a i (m + 1) acc).run P w = ((load (a.add i)).run P w).andThen fun v w1 => (loadCellsFrom a (i + 1) m (acc.push v)).run P w1 := by
      intro m
      conv => lhs; unfold loadCellsFrom
      rw [Sem.run_bind]
    rw [step] at h
    have hl : ∃ v, (load (a.add i)).run P w = .ok v w := by
      rw [run_load] at h ⊢
      cases hc : w.cell? (a.add i) with
      | some v => exact ⟨v, rfl⟩
      | none =>
        rw [hc] at h
        dsimp only at h ⊢
        cases hf : w.farLoad P (a.add i) (Mode.plain == .atomic) with
        | ok x => obtain ⟨v, y⟩ := x; exact ⟨v, rfl⟩
        | error e => rw [hf] at h; cases h
    obtain ⟨v, hv⟩ := hl
    rw [hv] at h
    simp only [Result.andThen_ok] at h
    cases k with
    | zero =>
      obtain ⟨l, r, h1, h2, _⟩ := loadCellsFrom_take a n (i + 1) (acc.push v) arr w' h 0 (Nat.zero_le _)
      have : l = [] := List.eq_nil_of_length_eq_zero h2
      subst this
      exact ⟨[], v :: r, by simp [h1], rfl, by simp [loadCellsFrom]⟩
    | succ k =>
      obtain ⟨l, r, h1, h2, h3⟩ := loadCellsFrom_take a n (i + 1) (acc.push v) arr w' h k (by omega)
      refine ⟨v :: l, r, by simp [h1], by simp [h2], ?_⟩
      rw [step, hv]
      simp only [Result.andThen_ok, h3]
      simp
theorem firstCells_take {sz n k : Nat} {x : Value} {news : List Value} (h : (Builtin.firstCells sz n x).run P w = .ok news.toArray w) (hl : news.length = n * sz) (hk : k ≤ n) (hlen : ∀ s, x = .string s → n ≤ s.size ∧ sz = 1) : (Builtin.firstCells sz k x).run P w = .ok (news.take (k * sz)).toArray w := by
  cases x <;> (try (simp [Builtin.firstCells] at h; done))
  case slice a len cap =>
    cases a with
    | none =>
      simp only [Builtin.firstCells, Sem.run_pure, Result.ok.injEq] at h ⊢
      have : news = [] := by have := h.1; cases news <;> simp at this ⊢
      subst this
      simp
    | some ad =>
      simp only [Builtin.firstCells, loadCells] at h ⊢
      obtain ⟨l, r, h1, h2, h3⟩ := loadCellsFrom_take ad (n * sz) 0 #[] _ _ h (k * sz) (Nat.mul_le_mul_right _ hk)
      rw [h3]
      have h1' : news = l ++ r := by simpa using h1
      simp [h1', ← h2]
  case string s =>
    obtain ⟨h1, rfl⟩ := hlen s rfl
    simp only [Builtin.firstCells, Sem.run_pure, Result.ok.injEq, and_true] at h ⊢
    have e : news = (s.extract 0 n).data.toList.map fun b => Value.int .u8 b.toNat := by
      have := congrArg Array.toList h
      simpa using this.symm
    subst e
    apply Array.toList_inj.1
    simp only [Array.toList_map, List.toList_toArray, Nat.mul_one, ← List.map_take]
    congr 1
    rw [ByteArray.data_extract, ByteArray.data_extract]
    simp [Array.toList_extract, List.extract_eq_take_drop, List.take_take, Nat.min_eq_left hk]
def copyC (cs : List C) (lo n : Nat) (ys : List C) : List C := cs.take lo ++ ys.take n ++ cs.drop (lo + min ys.length n)
theorem copyC_length {cs : List C} {lo n : Nat} {ys : List C} (h : lo + n ≤ cs.length) : (copyC cs lo n ys).length = cs.length := by
  simp [copyC]; omega
theorem do_copy (hP : allOk P = true) (c : Conc Γ w s) {o : Oper} {a : Act} {x y : Operand} {t t' : TypeId} {k : Key} {q : List Nat} {lo n cp m : Nat} {X Y : V} {cc : C} {ys : List C} {eb : Nat} {e : Ty}
    (ho : o.op = .call { callee := .builtin .copy, args := #[x, y], argTypes := #[t, t'] }) (ht : ty P t = .slice eb e)
    (hobj : s.obj k = some (.box X)) (hX : X.at q = .d (.arr m e) cc) (hd : X.ty.disj = true) (h0 : 0 < n) (hz : zeroB P (elemT P t) = true) 
    (hx : RepV Γ (.sr k q lo n (some cp) eb e) (a.eval x)) (hy : RepV Γ Y (a.eval y)) (hel : srcOf P s t' eb e Y ys) :
    Does P o a w (Post Γ w { s with loc := (k, .box (X.setAt q (.d (.arr m e) (.agg (copyC cc.elems lo n ys))))) :: s.loc } (.d (.int .i64) (.int (min ys.length n : Nat)))) := by
  obtain ⟨hu, he, heb, hE⟩ := ty_slice' hP ht
  obtain ⟨m', news, hs, r1, r2, r3, r4⟩ := src_any c hy hel
  rcases repV_sr hx with ⟨h1, _⟩ | ⟨b, τ0, o0, M, cap, aa, a1, a2, a3, hv, a4, a5, a6, a7, a8, _⟩
  · cases h1
  obtain ⟨b2, cells, E, e1, e2, e3, e4, e5, e6, e7, e8⟩ := c.own a1 hobj
  rw [a1] at e1
  cases e1
  obtain ⟨g1, g2, g3⟩ := e6.at_ a2 (by rw [hX]; simp) e7
  have hcl : (chunk cells.toList 0 X.ty.size).length = X.ty.size := chunk_length _ _ _ (by simpa using e5)
  rw [hcl] at g2
  rw [hX] at g1 g3
  simp only [V.ty, Ty.arr.injEq] at g1
  obtain ⟨rfl, _⟩ := g1
  rw [chunk_chunk _ _ _ _ _ g2, Nat.zero_add] at g3
  simp only [RepX, RepC] at g3
  obtain ⟨cs, rfl, q1, q2, q3, q4⟩ := g3
  simp only [C.elems, Ty.size] at *
  obtain ⟨i, z, hi, hzz, hzo, hzo2⟩ := zero_of hz
  have hsz : i.size = e.size := by
    have := tyF_size hP 11 (elemT P t)
    rw [he, this]; simp [Program.cellsOf, hi]
  have haa : aa = some ⟨b, o0 + lo * e.size, none⟩ := by
    rcases a4 with a4 | a4
    · omega
    · exact a4
  subst haa
  have hnl : news.length = m' * e.size := hs.newsLen
  have hk1 : min m' n ≤ m' := Nat.min_le_left _ _
  have hk2 : min m' n ≤ n := Nat.min_le_right _ _
  have hft := firstCells_take (k := min m' n) hs.cells hnl hk1 (fun st hst => by
    rcases hel with ⟨_, h2 | ⟨rfl, _⟩⟩ | ⟨_, hYs, h3, h4, h5⟩
    · -- a slice is no string
      exfalso
      obtain ⟨_, _, _, h6⟩ := slice_of_elems hy h2
      rw [hst] at h6; cases h6
    · rw [repV_nilc hy] at hst; cases hst
    · obtain ⟨c0, rfl⟩ := V.isStr_eq hYs
      obtain ⟨h6, _, h7⟩ := repV_str hy
      rw [h6] at hst; cases hst
      have : m' = c0.toStr.length := by rw [← r1, h5]; simp [V.toStr]
      refine ⟨by rw [this]; simp [ByteArray.size], by rw [h3]; rfl⟩)
  have htl : (news.take (min m' n * e.size)).length = min m' n * e.size := by
    have := Nat.mul_le_mul_right e.size hk1
    simp; omega
  have hMs : (lo + n) * e.size ≤ m * e.size := Nat.mul_le_mul_right _ a3
  have hks : min m' n * e.size ≤ n * e.size := Nat.mul_le_mul_right _ hk2
  rw [Nat.add_mul] at hMs
  have hfit : o0 + lo * e.size + 0 + (news.take (min m' n * e.size)).length ≤ cells.size := by rw [htl]; omega
  have hst := run_storeCells_at (P := P) b (o0 + lo * e.size) E (news.take (min m' n * e.size)) 0 cells w e4 hfit (fun v hv => hs.one v (List.mem_of_mem_take hv))
  have hrun : (Builtin.copy_ #[t, t'] o.type #[.slice (some ⟨b, o0 + lo * e.size, none⟩) n cap, a.eval y]).run P w = .ok (goInt ((min m' n : Nat) : Int)) (w.setRow b (splice cells.toList (o0 + lo * e.size) (news.take (min m' n * e.size))).toArray) := by
    simp only [Nat.add_zero] at hst
    simp [Builtin.copy_, run_underlying hu, hs.len, sizeOf, typeInfo, hi, hsz, hft, hst, splice]
    try (exact congrArg goInt (by rw [show m'.min n = min m' n from rfl]; omega))
  -- the array anew
  have hl0 : o0 + lo * e.size + (news.take (min m' n * e.size)).length ≤ cells.toList.length := by rw [htl]; simp; omega
  have hs2 : (splice cells.toList (o0 + lo * e.size) (news.take (min m' n * e.size))).toArray.size = cells.size := by simp only [List.size_toArray, splice_length hl0]; simp
  have hnew : chunk (splice cells.toList (o0 + lo * e.size) (news.take (min m' n * e.size))) o0 (m * e.size) = splice (chunk cells.toList o0 (m * e.size)) (lo * e.size) (news.take (min m' n * e.size)) :=
    chunk_splice_in (by simp; omega) (by rw [htl]; omega) rfl
  have hsl : (splice (chunk cells.toList o0 (m * e.size)) (lo * e.size) (news.take (min m' n * e.size))).length = m * e.size := by
    rw [splice_length (by rw [q2, htl]; omega), q2]
  have hcs : (copyC cs lo n ys).length = m := by rw [copyC_length (by omega), q1]
  have helem : ∀ j c', (copyC cs lo n ys)[j]? = some c' → RepC Γ.H e (chunk (splice (chunk cells.toList o0 (m * e.size)) (lo * e.size) (news.take (min m' n * e.size))) (j * e.size) e.size) c' := by
    intro j c' hj
    have hjl : j < m := by rw [← hcs]; exact (List.getElem?_eq_some_iff.1 hj).1
    have hjm : (j + 1) * e.size ≤ m * e.size := Nat.mul_le_mul_right _ hjl
    rw [Nat.add_mul] at hjm
    have hlo : lo ≤ cs.length := by omega
    unfold copyC at hj
    by_cases h1 : j < lo
    · rw [List.append_assoc, List.getElem?_append_left (by simp; omega), List.getElem?_take, if_pos h1] at hj
      have hjlo : (j + 1) * e.size ≤ lo * e.size := Nat.mul_le_mul_right _ h1
      rw [Nat.add_mul] at hjlo
      rw [chunk_splice_other (by rw [q2, htl]; omega) (.inl (by omega))]
      exact q4 j c' hj
    · by_cases h2 : j < lo + min ys.length n
      · rw [List.append_assoc, List.getElem?_append_right (by simp; omega), List.getElem?_append_left (by simp; omega)] at hj
        simp only [List.length_take, Nat.min_eq_left hlo] at hj
        rw [List.getElem?_take] at hj
        split at hj
        · rename_i hjn
          have h3 := r4 _ _ hj
          have hjk : j - lo < min m' n := by rw [r1] at h2; omega
          have hjk2 : (j - lo + 1) * e.size ≤ min m' n * e.size := Nat.mul_le_mul_right _ hjk
          rw [Nat.add_mul] at hjk2
          have e9 : j * e.size = lo * e.size + (j - lo) * e.size := by rw [← Nat.add_mul]; congr 1; omega
          have e10 : chunk (splice (chunk cells.toList o0 (m * e.size)) (lo * e.size) (news.take (min m' n * e.size))) (j * e.size) e.size = chunk news ((j - lo) * e.size) e.size := by
            apply List.ext_getElem?
            intro u
            rw [chunk_getElem?, chunk_getElem?]
            split
            · rename_i hu2
              rw [splice_get (by rw [q2, htl]; omega), if_pos (by rw [htl]; omega), List.getElem?_take, if_pos (by omega)]
              congr 1; omega
            · rfl
          rw [e10]; exact h3
        · cases hj
      · rw [List.getElem?_append_right (by simp; omega), List.getElem?_drop] at hj
        simp only [List.length_append, List.length_take, Nat.min_eq_left hlo] at hj
        have hj2 : cs[j]? = some c' := by
          rw [← hj]; congr 1
          have : min n ys.length = min ys.length n := Nat.min_comm _ _
          omega
        have h5 : min m' n * e.size + lo * e.size ≤ j * e.size := by
          rw [← Nat.add_mul]
          refine Nat.mul_le_mul_right _ ?_
          rw [r1] at h2; omega
        rw [chunk_splice_other (by rw [q2, htl]; omega) (.inr (by rw [htl]; omega))]
        exact q4 j c' hj2
  have hY : RepX Γ (some k) q (.d (.arr m e) (.agg (copyC cs lo n ys))) (splice (chunk cells.toList o0 (m * e.size)) (lo * e.size) (news.take (min m' n * e.size))) := by
    simp only [RepX, RepC]
    exact ⟨_, rfl, hcs, hsl, one_of_elems hcs hsl helem, helem⟩
  obtain ⟨s1, s2, s3⟩ := RepX.setAt (q := q) (p := []) (y := .d (.arr m e) (.agg (copyC cs lo n ys))) e6 e7 hd a2 (by rw [hX]; simp) (by simpa using hY) rfl
  have hsp : splice cells.toList (o0 + lo * e.size) (news.take (min m' n * e.size)) = splice cells.toList o0 (splice (chunk cells.toList o0 (m * e.size)) (lo * e.size) (news.take (min m' n * e.size))) := by
    apply List.ext_getElem?
    intro u
    rw [splice_get hl0, splice_get (by rw [hsl]; simp; omega), hsl, htl]
    by_cases hu1 : o0 ≤ u ∧ u < o0 + m * e.size
    · rw [if_pos hu1, splice_get (by rw [q2, htl]; omega), htl]
      by_cases hu2 : o0 + lo * e.size ≤ u ∧ u < o0 + lo * e.size + min m' n * e.size
      · rw [if_pos hu2, if_pos (by omega)]; congr 1; omega
      · rw [if_neg hu2, if_neg (by omega), chunk_getElem?, if_pos (by omega)]; congr 1; omega
    · rw [if_neg hu1, if_neg (by omega)]
  have c' := c.write (x' := X.setAt q (.d (.arr m e) (.agg (copyC cs lo n ys)))) (cells' := (splice cells.toList (o0 + lo * e.size) (news.take (min m' n * e.size))).toArray) (w' := w.setRow b (splice cells.toList (o0 + lo * e.size) (news.take (min m' n * e.size))).toArray) hobj a1
    (setRow_heap w b cells _ E (0, 0) e4) (fun b' hb' => setRow_other w b b' _ hb') rfl (by rw [s2, hs2]; exact e5)
    (by rw [s2, List.toList_toArray, hsp, splice_chunk0 _ _ (by rw [hsl]; exact g2) (by simpa using e5)]; exact s1) s2 s3 (V.noSl_setAt q X _ e8 rfl) (fun arr T fr h => by rw [e4] at h; cases h; exact hs2)
  refine Does.val (v := goInt ((min m' n : Nat) : Int)) (w' := w.setRow b (splice cells.toList (o0 + lo * e.size) (news.take (min m' n * e.size))).toArray) ?_ ⟨_, GLe.refl _, Pres.refl _, c', ?_⟩
  · unfold execOp
    simp [ho, resolve, invoke, builtin, hv, hrun]
  · rw [r1]
    show RepV _ _ (.int .i64 ((min m' n : Nat) : Int))
    exact repV_mk_int (by have e1 : IntKind.i64.min = -9223372036854775808 := by decide
                          omega) (by have e1 : IntKind.i64.max = 9223372036854775807 := by decide
                                     unfold maxLen at r2; omega)
end
end Go.E


namespace Go.E
open Go

section
variable {Γ : G} {w : World} {s : S}
theorem Conc.freeze (c : Conc Γ w s) {b : Nat} {cells : Array Value} {T : TypeId} {fr : Nat × Nat} (hw : w.heap[b]? = some (.cells cells T fr)) (hH : Γ.H b = none) (hι : ∀ k τ o, Γ.ι k = some (b, τ) → s.obj k = some o → o.isDead = true) :
    Conc (Γ.addH b cells.toList) w s ∧ Pres Γ (Γ.addH b cells.toList) ∧ Γ.H.le (Γ.addH b cells.toList).H := by
  have oH : ∀ b', b' ≠ b → (Γ.addH b cells.toList).H b' = Γ.H b' := fun b' hb => updN_ne _ _ hb
  have nb : ∀ b', Γ.H b' ≠ none → b' ≠ b := fun b' h e => h (e ▸ hH)
  have hle : Γ.H.le (Γ.addH b cells.toList).H := fun b' l' h => ⟨[], by rw [oH b' (nb b' (by rw [h]; simp)), h]; simp⟩
  have hp : Pres Γ (Γ.addH b cells.toList) := ⟨hle, fun _ _ h => h, fun t x L h => ⟨x, L, h, Nat.le_refl _, fun _ => rfl⟩, fun _ _ h => h⟩
  refine ⟨?_, hp, hle⟩
  refine c.change hp rfl rfl rfl rfl (fun b' l' h => ?_) (fun _ _ => rfl) (fun b' o sz h => ?_) (fun k o h => ?_) (fun _ h _ => h) c.dom c.hσ c.inj (fun t L h => ?_) c.tdom (Nat.le_refl _)
  · by_cases hb : b' = b
    · subst hb
      simp [G.addH, updN] at h; subst h
      exact ⟨cells, T, fr, [], hw, by simp⟩
    · rw [oH b' hb] at h
      exact c.hH b' l' h
  · have h' : Γ.κ b' = some (o, sz) := h
    obtain ⟨a1, a2, a3⟩ := c.hκ b' o sz h'
    exact ⟨a1, by rw [oH b' (nb b' a2)]; exact a2, a3⟩
  · refine .inl ⟨h, fun hd => ⟨fun b' p sz hb => ⟨rfl, ?_⟩, fun b' τ hb => ⟨rfl, ?_⟩⟩⟩
    · exact oH b' (nb b' (c.hκ b' _ sz hb).2.1)
    · obtain ⟨a1, _⟩ := c.ιlive hb h hd
      rw [oH b' (fun e => by have := hι k τ o (e ▸ hb) h; rw [this] at hd; cases hd)]; exact a1
  · obtain ⟨x, h1, h2⟩ := c.tok t L h
    refine ⟨x, h1, fun b' pos sz hx => ?_⟩
    obtain ⟨⟨l, a1, a2⟩, a3⟩ := h2 b' pos sz hx
    exact ⟨⟨l, by rw [oH b' (nb b' (by rw [a1]; simp))]; exact a1, a2⟩, a3⟩
theorem Conc.lend (c : Conc Γ w s) {k : Key} {M : Nat} {e : Ty} {cc : C} (ho : s.obj k = some (.box (.d (.arr M e) cc))) :
    ∃ Γ', GLe Γ Γ' ∧ Pres Γ Γ' ∧ Conc Γ' w { s with loc := (k, .dead (.arr M e)) :: s.loc } ∧
      ∀ {lo n : Nat} {cp : Option Nat} {eb : Nat} {v : Value}, RepV Γ (.sr k [] lo n cp eb e) v → RepV Γ' (.d (.slice eb e) (.slice ((cc.elems.drop lo).take n))) v := by
  have ck := c.kill ho
  have nul : ∀ {Γ' : G} {lo n : Nat} {cp : Option Nat} {eb : Nat} {v : Value}, (cp = none ∧ n = 0 ∧ ∃ a, v = .slice a 0 0) → RepV Γ' (.d (.slice eb e) (.slice ((cc.elems.drop lo).take n))) v := by
    intro Γ' lo n cp eb v h
    obtain ⟨_, rfl, a, rfl⟩ := h
    refine (repV_one rfl rfl).2 ⟨?_, rfl⟩
    simp only [RepX]
    exact repC_mk_slice (by simp) (Nat.le_refl _) (Nat.zero_le _) (by rw [Nat.zero_mul]; exact Nat.zero_le _) (.inl rfl)
  rcases c.obj k _ ho with ⟨hn, _⟩ | hown
  · refine ⟨Γ, .refl Γ, .refl Γ, ck, fun hr => ?_⟩
    rcases repV_sr hr with h | ⟨b, τ0, o, m, cap, a, h1, _⟩
    · exact nul h
    · rw [hn] at h1; cases h1
  · obtain ⟨b, cells, T, h1, h2, h3, h4, h5, h6, h7, h8⟩ := hown
    have hdk : s.deadK k = false := by rw [deadK_obj ho]; rfl
    obtain ⟨q1, q2, q3⟩ := ck.freeze h4 h2 (fun k' τ o hk' ho' => by
      rcases c.inj k' k b _ _ hk' h1 with e1 | ⟨e1 | e1, _⟩
      · subst e1
        rw [obj_cons, if_pos rfl] at ho'; cases ho'; rfl
      · rw [obj_cons] at ho'
        split at ho'
        · cases ho'; rfl
        · rw [deadK_obj ho'] at e1; exact e1
      · rw [hdk] at e1; cases e1)
    refine ⟨_, ⟨q3, rfl, fun b' hb' => updN_ne _ _ fun e => (by subst e; exact hb' h3), fun _ _ h => h, rfl, rfl, fun _ _ h => h, fun _ h => h⟩, q2, q1, fun {lo n cp eb v} hr => ?_⟩
    rcases repV_sr hr with h | ⟨b', τ0, o, m, cap, a, a1, a2, a3, hv, a4, a5, a6, a7, _, _⟩
    · exact nul h
    rw [h1] at a1; cases a1
    simp only [V.ty, Ty.walk, Option.some.injEq, Prod.mk.injEq, Ty.arr.injEq] at a2
    obtain ⟨rfl, rfl, _⟩ := a2
    simp only [V.ty, RepX, RepC] at h6
    obtain ⟨cs, rfl, r1, r2, r3, r4⟩ := h6
    simp only [C.elems, Ty.size] at *
    have hl : ((cs.drop lo).take n).length = n := by simp; omega
    have hmul : (lo + n) * e.size ≤ M * e.size := Nat.mul_le_mul_right _ a3
    rw [Nat.add_mul] at hmul
    subst hv
    refine (repV_one rfl rfl).2 ⟨?_, rfl⟩
    simp only [RepX]
    refine repC_mk_slice hl a5 a6 a7 ?_
    by_cases hn : n = 0
    · exact .inl hn
    · refine .inr ⟨b, lo * e.size, cells.toList, ?_, updN_same _ _ _, by simp; simp [V.ty, Ty.size] at h5; omega, fun i c' hi => ?_⟩
      · rcases a4 with a4 | a4
        · omega
        · rw [a4, Nat.zero_add]
      · rw [List.getElem?_take] at hi
        split at hi
        · rename_i hin
          rw [List.getElem?_drop] at hi
          have h9 := r4 _ _ hi
          have hle : (lo + i + 1) * e.size ≤ M * e.size := Nat.mul_le_mul_right _ (by omega)
          rw [Nat.add_mul, Nat.add_mul] at hle
          rw [Nat.add_mul] at h9
          rw [chunk_chunk _ _ _ _ _ (by omega), Nat.zero_add] at h9
          exact h9.mono q3
        · cases hi
def lendV (s : S) (x : V) : V :=
  match x with
  | .sr (.l j) q lo n cp eb e => (match q with
    | [] => (match s.obj (.l j) with
      | some (.box (.d τ cc)) => (match τ with
        | .arr M e' => if e' = e then .d (.slice eb e) (.slice ((cc.elems.drop lo).take n)) else x
        | _ => x)
      | _ => x)
    | _ => x)
  | x => x
def lendK : V → List Nat
  | .sr (.l j) [] _ _ _ _ _ => [j]
  | _ => []
def lendKs : List V → List Nat
  | [] => []
  | x :: xs => lendK x ++ lendKs xs
def lendS : List Nat → S → S
  | [], s => s
  | j :: l, s => lendS l (match s.obj (.l j) with
    | some (.box (.d τ _)) => (match τ with
      | .arr M e => { s with loc := (.l j, .dead (.arr M e)) :: s.loc }
      | _ => s)
    | _ => s)
theorem lendV_same {s : S} {x : V} (h : ∀ j, j ∈ lendK x → False) : lendV s x = x := by
  unfold lendV
  split
  · split
    · rename_i j _ _ _ _ _ _
      exact (h j (List.mem_singleton.2 rfl)).elim
    · rfl
  · rfl
theorem lendS_ok : ∀ (js : List Nat) (s : S) {Γ : G}, Conc Γ w s → ∃ Γ', GLe Γ Γ' ∧ Pres Γ Γ' ∧ Conc Γ' w (lendS js s) ∧ ∀ (x : V) (v : Value), RepV Γ x v → (∀ j ∈ lendK x, j ∈ js) → RepV Γ' (lendV s x) v
  | [], s, Γ, c => ⟨Γ, .refl Γ, .refl Γ, c, fun x v hr hx => by rw [lendV_same (fun j hj => by simpa using hx j hj)]; exact hr⟩
  | j :: l, s, Γ, c => by
    have skip : (∀ x : V, lendK x = [j] → lendV s x = x) → ∃ Γ', GLe Γ Γ' ∧ Pres Γ Γ' ∧ Conc Γ' w (lendS l s) ∧ ∀ (x : V) (v : Value), RepV Γ x v → (∀ i ∈ lendK x, i ∈ j :: l) → RepV Γ' (lendV s x) v := by
      intro hs
      obtain ⟨Γ', g, p, c', h⟩ := lendS_ok l s c
      refine ⟨Γ', g, p, c', fun x v hr hx => ?_⟩
      by_cases hj : lendK x = [j]
      · rw [hs x hj]; exact hr.pres p
      · refine h x v hr fun i hi => ?_
        have := hx i hi
        simp only [List.mem_cons] at this
        rcases this with rfl | h2
        · exfalso
          apply hj
          unfold lendK at hi ⊢
          split at hi
          · simp at hi; subst hi; rfl
          · simp at hi
        · exact h2
    have inv : ∀ x : V, lendK x = [j] → ∃ lo n cp eb e, x = .sr (.l j) [] lo n cp eb e := by
      intro x hx
      unfold lendK at hx
      split at hx
      · simp at hx; subst hx; exact ⟨_, _, _, _, _, rfl⟩
      · cases hx
    simp only [lendS]
    split
    · rename_i τ cc ho
      split
      · rename_i M e
        obtain ⟨Γ1, g1, p1, c1, h1⟩ := c.lend ho
        obtain ⟨Γ', g, p, c', h⟩ := lendS_ok l _ c1
        refine ⟨Γ', g1.trans g, p1.trans p, c', fun x v hr hx => ?_⟩
        by_cases hj : lendK x = [j]
        · obtain ⟨lo, n, cp, eb, e', rfl⟩ := inv x hj
          simp only [lendV, ho]
          by_cases he : e = e'
          · rw [if_pos he]; subst he
            exact (h1 hr).pres p
          · rw [if_neg he]
            exact hr.pres (p1.trans p)
        · have h2 := h x v (hr.pres p1) fun i hi => by
            have := hx i hi
            simp only [List.mem_cons] at this
            rcases this with rfl | h2
            · exfalso
              apply hj
              unfold lendK at hi ⊢
              split at hi
              · simp at hi; subst hi; rfl
              · simp at hi
            · exact h2
          have : lendV { s with loc := (Key.l j, O.dead (.arr M e)) :: s.loc } x = lendV s x := by
            cases x <;> (try rfl)
            rename_i k q lo n cp eb e2
            cases k with
            | g k => rfl
            | l i =>
              cases q with
              | cons a q => rfl
              | nil =>
                have hij : j ≠ i := fun e => hj (by subst e; rfl)
                simp only [lendV]
                rw [obj_cons, if_neg (by intro e; cases e; exact hij rfl)]
          rw [← this]; exact h2
      · exact skip fun x hx => by
          obtain ⟨lo, n, cp, eb, e, rfl⟩ := inv x hx
          simp only [lendV, ho]
    · exact skip fun x hx => by
        obtain ⟨lo, n, cp, eb, e, rfl⟩ := inv x hx
        simp only [lendV]
end
end Go.E

