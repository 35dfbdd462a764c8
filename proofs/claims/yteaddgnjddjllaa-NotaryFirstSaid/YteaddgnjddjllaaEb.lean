/-
  A framework for runs of Go code over abstract data: what it needs, and that it is sound, part 2.
  Conditions: none.
-/
import Derived.Test.YteaddgnjddjllaaEa
import Derived.Deep.AppendSrc
import Derived.Deep.Upon
import Derived.Great.FillDense
import Derived.Great.BuildSlice
set_option linter.all false
namespace Go.E
open Go

mutual
def Ty.noSlice : Ty → Bool
  | .slice _ _ => false
  | .struct _ _ fs => Ty.noSlices fs
  | .opq _ => false
  | _ => true
def Ty.noSlices : List Ty → Bool
  | [] => true
  | f :: fs => f.noSlice && Ty.noSlices fs
end
mutual
def zeroC : Ty → C
  | .int _ => .int 0
  | .bool => .bool false
  | .str => .str []
  | .slice _ _ => .slice []
  | .arr n e => .agg (List.replicate n (zeroC e))
  | .struct _ _ fs => .agg (zeroCs fs)
  | _ => .nil
def zeroCs : List Ty → List C
  | [] => []
  | f :: fs => zeroC f :: zeroCs fs
end
mutual
def zeroX : Ty → V
  | .slice eb e => .emp eb e
  | .struct sz os fs => if Ty.noSlices fs then .d (.struct sz os fs) (.agg (zeroCs fs)) else .agg (.struct sz os fs) (zeroXs fs)
  | τ => .d τ (zeroC τ)
def zeroXs : List Ty → List V
  | [] => []
  | f :: fs => zeroX f :: zeroXs fs
end
def zeroLeaf : Ty → Value → Bool
  | .int k, .int k' n => k == k' && n == 0
  | .bool, .bool b => !b
  | .str, .string s => s.data.toList.isEmpty
  | .slice _ _, .slice a n c => a.isNone && n == 0 && c == 0
  | .ptr, .pointer a => a.isNone
  | .map, .map r => r.isNone
  | .func, .nilFunc => true
  | .iface, .nilIface => true
  | _, _ => false
mutual
def zeroOk : Ty → List Value → Bool
  | .arr n e, vs => vs.length == n * e.size && vs.all (·.oneCell') && (List.range n).all fun i => zeroOk e (chunk vs (i * e.size) e.size)
  | .struct sz os fs, vs => vs.length == sz && vs.all (·.oneCell') && zeroOks fs os vs
  | τ, vs => match vs with | [v] => zeroLeaf τ v | _ => false
def zeroOks : List Ty → List Nat → List Value → Bool
  | [], _, _ => true
  | f :: fs, o :: os, vs => decide (o + f.size ≤ vs.length) && zeroOk f (chunk vs o f.size) && zeroOks fs os vs
  | _ :: _, [], _ => false
end
def zeroB (P : Program) (T : TypeId) : Bool :=
  match (P.info? T).bind (·.zero) with
  | some z => zeroOk (ty P T) z.cells.toList && isAggV z == (ty P T).isAgg && zeroOk (tyF P 11 T) z.cells.toList
  | none => false

theorem kind_zero (k : IntKind) : k.min ≤ 0 ∧ 0 ≤ k.max := by cases k <;> decide

theorem zeroLeaf_rep {H : Hp} {τ : Ty} {v : Value} (h : zeroLeaf τ v = true) : RepC H τ [v] (zeroC τ) := by
  unfold zeroLeaf at h
  split at h <;> simp at h <;> simp only [RepC, zeroC]
  · obtain ⟨rfl, rfl⟩ := h
    exact ⟨0, rfl, rfl, (kind_zero _).1, (kind_zero _).2⟩
  · subst h; exact ⟨false, rfl, rfl⟩
  · rename_i s
    refine ⟨[], rfl, ?_, by simp⟩
    have : s = ⟨#[]⟩ := by
      apply ByteArray.ext; simpa using h
    rw [this]
  · obtain ⟨⟨h1, rfl⟩, rfl⟩ := h
    exact ⟨_, 0, 0, [], rfl, rfl, rfl, Nat.le_refl _, by decide, by simp, .inl rfl⟩
  · subst h; simp
  · subst h; simp
  · simp
  · simp

mutual
theorem zeroOk_rep {H : Hp} : ∀ {τ : Ty} {vs : List Value}, zeroOk τ vs = true → RepC H τ vs (zeroC τ)
  | .arr n e, vs, h => by
    simp only [zeroOk, Bool.and_eq_true, beq_iff_eq, List.all_eq_true, List.mem_range] at h
    simp only [RepC, zeroC]
    refine ⟨_, rfl, by simp, h.1.1, h.1.2, fun i c hi => ?_⟩
    simp only [List.getElem?_replicate] at hi
    split at hi
    · cases hi; exact zeroOk_rep (h.2 i ‹_›)
    · cases hi
  | .struct sz os fs, vs, h => by
    simp only [zeroOk, Bool.and_eq_true, beq_iff_eq, List.all_eq_true] at h
    simp only [RepC, zeroC]
    exact ⟨_, rfl, h.1.1, h.1.2, zeroOks_rep h.2⟩
  | .int _, [v], h | .bool, [v], h | .str, [v], h | .slice _ _, [v], h | .ptr, [v], h | .map, [v], h | .func, [v], h | .iface, [v], h => by
    simp only [zeroOk] at h
    exact zeroLeaf_rep h
  | .opq _, [v], h => by simp [zeroOk, zeroLeaf] at h
  | .int _, [], h | .bool, [], h | .str, [], h | .slice _ _, [], h | .ptr, [], h | .map, [], h | .func, [], h | .iface, [], h | .opq _, [], h => by simp [zeroOk] at h
  | .int _, _ :: _ :: _, h | .bool, _ :: _ :: _, h | .str, _ :: _ :: _, h | .slice _ _, _ :: _ :: _, h | .ptr, _ :: _ :: _, h | .map, _ :: _ :: _, h | .func, _ :: _ :: _, h | .iface, _ :: _ :: _, h | .opq _, _ :: _ :: _, h => by simp [zeroOk] at h
theorem zeroOks_rep {H : Hp} : ∀ {fs : List Ty} {os : List Nat} {vs : List Value}, zeroOks fs os vs = true → RepFs H fs os vs (zeroCs fs)
  | [], _, _, _ => by simp [RepFs, zeroCs]
  | f :: fs, o :: os, vs, h => by
    simp only [zeroOks, Bool.and_eq_true, decide_eq_true_eq] at h
    simp only [RepFs, zeroCs]
    exact ⟨_, _, rfl, h.1.1, zeroOk_rep h.1.2, zeroOks_rep h.2⟩
  | _ :: _, [], _, h => by simp [zeroOks] at h
end
theorem zeroX_ty : ∀ (τ : Ty), (zeroX τ).ty = τ
  | .struct sz os fs => by simp only [zeroX]; split <;> simp [V.ty]
  | .slice _ _ => by simp [zeroX, V.ty]
  | .int _ | .bool | .str | .ptr | .map | .func | .iface | .opq _ | .arr _ _ => by simp [zeroX, V.ty]
theorem zeroXs_length : ∀ (fs : List Ty), (zeroXs fs).length = fs.length
  | [] => rfl
  | f :: fs => by simp [zeroXs, zeroXs_length fs]
theorem zeroOks_get : ∀ {fs : List Ty} {os : List Nat} {vs : List Value} {i : Nat} {f : Ty}, zeroOks fs os vs = true → fs[i]? = some f → ∃ o, os[i]? = some o ∧ o + f.size ≤ vs.length ∧ zeroOk f (chunk vs o f.size) = true
  | [], _, _, _, _, _, h => by simp at h
  | f :: fs, o :: os, vs, 0, g, h, hg => by
    simp only [zeroOks, Bool.and_eq_true, decide_eq_true_eq] at h
    simp at hg; subst hg
    exact ⟨o, rfl, h.1.1, h.1.2⟩
  | f :: fs, o :: os, vs, i + 1, g, h, hg => by
    simp only [zeroOks, Bool.and_eq_true, decide_eq_true_eq] at h
    obtain ⟨o', a, b, c⟩ := zeroOks_get h.2 (show fs[i]? = some g by simpa using hg)
    exact ⟨o', by simpa using a, b, c⟩
  | _ :: _, [], _, _, _, h, _ => by simp [zeroOks] at h

theorem zeroX_plain (τ : Ty) : (zeroX τ).plain = true := by
  cases τ <;> simp only [zeroX] <;> (try split) <;> rfl

mutual
theorem zeroX_noSl : ∀ (τ : Ty), (zeroX τ).noSl = true
  | .struct sz os fs => by simp only [zeroX]; split <;> simp [V.noSl, zeroXs_noSl fs]
  | .slice _ _ => by simp [zeroX, V.noSl]
  | .int _ | .bool | .str | .ptr | .map | .func | .iface | .opq _ | .arr _ _ => by simp [zeroX, V.noSl]
theorem zeroXs_noSl : ∀ (fs : List Ty), V.noSls (zeroXs fs) = true
  | [] => rfl
  | f :: fs => by simp [zeroXs, V.noSls, zeroX_noSl f, zeroXs_noSl fs]
end
section
variable {Γ : G} {hm : Option Key}
mutual
theorem zeroX_rep : ∀ (τ : Ty) {p : List Nat} {vs : List Value}, zeroOk τ vs = true → RepX Γ hm p (zeroX τ) vs
  | .struct sz os fs, p, vs, h => by
    simp only [zeroX]; split
    · simp only [RepX]; exact zeroOk_rep (τ := .struct sz os fs) h
    · simp only [zeroOk, Bool.and_eq_true, beq_iff_eq, List.all_eq_true] at h
      simp only [RepX]
      exact ⟨h.1.1, h.1.2, by simp [Ty.kids, zeroXs_length], rfl, zeroXs_rep fs sz os fs 0 (fun i f hf => by simpa using hf) h.2⟩
  | .slice eb e, p, vs, h => by
    match vs, h with
    | [v], h =>
      simp only [zeroOk] at h
      cases v <;> simp [zeroLeaf] at h
      obtain ⟨⟨rfl, rfl⟩, rfl⟩ := h
      simp only [zeroX, RepX]
      exact ⟨none, rfl⟩
    | [], h => simp [zeroOk] at h
    | _ :: _ :: _, h => simp [zeroOk] at h
  | .int k, p, vs, h => by simp only [zeroX, RepX]; exact zeroOk_rep h
  | .bool, p, vs, h => by simp only [zeroX, RepX]; exact zeroOk_rep h
  | .str, p, vs, h => by simp only [zeroX, RepX]; exact zeroOk_rep h
  | .ptr, p, vs, h => by simp only [zeroX, RepX]; exact zeroOk_rep h
  | .map, p, vs, h => by simp only [zeroX, RepX]; exact zeroOk_rep h
  | .func, p, vs, h => by simp only [zeroX, RepX]; exact zeroOk_rep h
  | .iface, p, vs, h => by simp only [zeroX, RepX]; exact zeroOk_rep h
  | .opq s, p, vs, h => by simp only [zeroX, RepX]; exact zeroOk_rep h
  | .arr n e, p, vs, h => by simp only [zeroX, RepX]; exact zeroOk_rep h
theorem zeroXs_rep : ∀ (gs : List Ty) (sz : Nat) (os : List Nat) (fs : List Ty) (i : Nat) {p : List Nat} {vs : List Value}, (∀ (j : Nat) (f : Ty), gs[j]? = some f → fs[i + j]? = some f) → zeroOks fs os vs = true →
    RepXs Γ hm p i (.struct sz os fs) (zeroXs gs) vs
  | [], _, _, _, _, _, _, _, _ => by simp [zeroXs, RepXs]
  | f :: gs, sz, os, fs, i, p, vs, hg, h => by
    have hf := hg 0 f rfl
    obtain ⟨o, a, b, c⟩ := zeroOks_get h hf
    simp only [zeroXs, RepXs, zeroX_ty]
    refine ⟨⟨o, f, by simp [Ty.child, show os[i]? = some o by simpa using a, show fs[i]? = some f by simpa using hf], rfl, b, zeroX_rep f c⟩, zeroXs_rep gs sz os fs (i + 1) (fun j g hj => ?_) h⟩
    rw [show i + 1 + j = i + (j + 1) by omega]
    exact hg (j + 1) g (by simpa using hj)
end
end

theorem run_zero {P : Program} {T : TypeId} (h : zeroB P T = true) : ∃ z, (∀ w, (zeroValue T).run P w = .ok z w) ∧ zeroOk (ty P T) z.cells.toList = true ∧ isAggV z = (ty P T).isAgg := by
  unfold zeroB at h
  cases hi : P.info? T with
  | none => simp [hi] at h
  | some i =>
    cases hz : i.zero with
    | none => simp [hi, hz] at h
    | some z =>
      simp [hi, hz] at h
      exact ⟨z, fun w => by simp [zeroValue, typeInfo, hi, hz], h.1.1, h.1.2⟩


mutual
def view : V → V
  | .ts eb e cs => .d (.slice eb e) (.slice cs)
  | .agg τ vs => .agg τ (views vs)
  | x => x
def views : List V → List V
  | [] => []
  | x :: xs => view x :: views xs
end
theorem views_length : ∀ xs : List V, (views xs).length = xs.length
  | [] => rfl
  | x :: xs => by simp [views, views_length xs]
theorem view_ty (x : V) : (view x).ty = x.ty := by cases x <;> simp [view, V.ty]
theorem view_plain (x : V) : (view x).plain = x.plain := by cases x <;> simp [view, V.plain]
section
variable {Γ : G} {hm : Option Key}
mutual
theorem view_rep : ∀ (x : V) {p p' : List Nat} {vs : List Value}, RepX Γ hm p x vs → RepX Γ none p' (view x) vs
  | .ts eb e cs, _, _, _, h => by
    simp only [RepX, view] at h ⊢
    obtain ⟨a, n, cap, k, _, rfl, h2, _⟩ := h
    exact h2
  | .agg τ xs, _, _, _, h => by
    simp only [RepX, view] at h ⊢
    exact ⟨h.1, h.2.1, by rw [views_length]; exact h.2.2.1, h.2.2.2.1, views_rep xs h.2.2.2.2⟩
  | .d _ _, _, _, _, h | .sl _ _ _ _, _, _, _, h | .emp _ _, _, _, _, h | .nilc, _, _, _, h | .ptr _ _ _, _, _, _, h | .cptr _ _, _, _, _, h
  | .sr _ _ _ _ _ _ _, _, _, _, h | .mp _, _, _, _, h | .fn _ _, _, _, _, h | .top _, _, _, _, h => by simpa only [RepX, view] using h
  | .any, _, _, _, h => by simp only [RepX, view]
  | .tup _, _, _, _, h => by simp only [RepX] at h
theorem views_rep : ∀ (xs : List V) {p p' : List Nat} {i : Nat} {τ : Ty} {vs : List Value}, RepXs Γ hm p i τ xs vs → RepXs Γ none p' i τ (views xs) vs
  | [], _, _, _, _, _, _ => by simp only [views, RepXs]
  | x :: xs, _, _, _, _, _, h => by
    simp only [RepXs, views, view_ty] at h ⊢
    obtain ⟨⟨o, f, h1, h2, h3, h4⟩, h5⟩ := h
    exact ⟨⟨o, f, h1, h2, h3, view_rep x h4⟩, views_rep xs h5⟩
end
end

mutual
def closeV : V → Option C
  | .d _ c => some c
  | .emp _ _ => some (.slice [])
  | .sl _ _ cs _ => some (.slice cs)
  | .ts _ _ cs => some (.slice cs)
  | .agg _ vs => (closeVs vs).map .agg
  | _ => none
def closeVs : List V → Option (List C)
  | [] => some []
  | x :: xs => match closeV x, closeVs xs with
    | some c, some cs => some (c :: cs)
    | _, _ => none
end
theorem closeVs_get : ∀ {xs : List V} {cs : List C}, closeVs xs = some cs → cs.length = xs.length ∧ ∀ (i : Nat) (x : V) (c : C), xs[i]? = some x → cs[i]? = some c → closeV x = some c
  | [], cs, h => by simp [closeVs] at h; subst h; simp
  | x :: xs, cs, h => by
    simp only [closeVs] at h
    cases h1 : closeV x with
    | none => simp [h1] at h
    | some c =>
      cases h2 : closeVs xs with
      | none => simp [h1, h2] at h
      | some cs' =>
        simp [h1, h2] at h
        subst h
        obtain ⟨a, b⟩ := closeVs_get h2
        refine ⟨by simp [a], fun i y d hy hd => ?_⟩
        cases i with
        | zero => simp at hy hd; subst hy; subst hd; exact h1
        | succ i => exact b i y d (by simpa using hy) (by simpa using hd)
section
variable {Γ : G} {hm : Option Key}
mutual
theorem closeV_rep : ∀ (x : V) {p : List Nat} {vs : List Value} {c : C}, RepX Γ hm p x vs → closeV x = some c → RepC Γ.H x.ty vs c
  | .d τ c, _, _, _, h, hc => by simp [closeV] at hc; subst hc; simpa only [RepX, V.ty] using h
  | .emp eb e, _, _, _, h, hc => by
    simp [closeV] at hc; subst hc
    simp only [RepX] at h
    obtain ⟨a, rfl⟩ := h
    exact repC_mk_slice rfl (Nat.le_refl _) (Nat.zero_le _) (by rw [Nat.zero_mul]; exact Nat.zero_le _) (.inl rfl)
  | .sl eb e cs t, _, _, _, h, hc => by
    simp [closeV] at hc; subst hc
    simp only [RepX] at h
    obtain ⟨a, n, cap, rfl, h2, _⟩ := h
    exact h2
  | .ts eb e cs, _, _, _, h, hc => by
    simp [closeV] at hc; subst hc
    simp only [RepX] at h
    obtain ⟨a, n, cap, k, _, rfl, h2, _⟩ := h
    exact h2
  | .agg τ xs, _, vs, _, h, hc => by
    simp only [closeV] at hc
    cases h1 : closeVs xs with
    | none => simp [h1] at hc
    | some cs =>
      simp [h1] at hc; subst hc
      simp only [RepX] at h
      obtain ⟨a1, a2, a3, a4, a5⟩ := h
      obtain ⟨b1, b2⟩ := closeVs_get h1
      have kid := closeVs_rep xs a5 h1
      simp only [V.ty]
      cases τ <;> simp [Ty.isAgg] at a4
      case arr n e =>
        simp only [RepC]
        refine ⟨cs, rfl, by rw [b1, a3]; rfl, by simpa [Ty.size] using a1, a2, fun i c hi => ?_⟩
        obtain ⟨o, f, k1, _, k3⟩ := kid i c hi
        simp only [Nat.zero_add, Ty.child] at k1
        split at k1
        · simp at k1; obtain ⟨rfl, rfl⟩ := k1; exact k3
        · cases k1
      case struct sz os fs =>
        simp only [RepC]
        refine ⟨cs, rfl, by simpa [Ty.size] using a1, a2, RepFs.of_get (by rw [b1, a3]; rfl) fun i f c hf hi => ?_⟩
        obtain ⟨o, f', k1, k2, k3⟩ := kid i c hi
        simp only [Nat.zero_add, Ty.child] at k1
        cases ho : os[i]? with
        | none => simp [ho] at k1
        | some o' => simp [ho, hf] at k1; obtain ⟨rfl, rfl⟩ := k1; exact ⟨o', rfl, k2, k3⟩
  | .nilc, _, _, _, _, hc | .ptr _ _ _, _, _, _, _, hc | .cptr _ _, _, _, _, _, hc
  | .sr _ _ _ _ _ _ _, _, _, _, _, hc | .mp _, _, _, _, _, hc | .fn _ _, _, _, _, _, hc | .top _, _, _, _, _, hc | .any, _, _, _, _, hc | .tup _, _, _, _, _, hc => by simp [closeV] at hc
theorem closeVs_rep : ∀ (xs : List V) {p : List Nat} {i0 : Nat} {τ : Ty} {vs : List Value} {cs : List C}, RepXs Γ hm p i0 τ xs vs → closeVs xs = some cs →
    ∀ (i : Nat) (c : C), cs[i]? = some c → ∃ o f, τ.child (i0 + i) = some (o, f) ∧ o + f.size ≤ vs.length ∧ RepC Γ.H f (chunk vs o f.size) c
  | [], _, _, _, _, _, _, h, i, c, hc => by simp [closeVs] at h; subst h; simp at hc
  | x :: xs, _, i0, τ, vs, cs, h, hcs, i, c, hc => by
    simp only [RepXs] at h
    simp only [closeVs] at hcs
    cases h1 : closeV x with
    | none => simp [h1] at hcs
    | some d =>
      cases h2 : closeVs xs with
      | none => simp [h1, h2] at hcs
      | some ds =>
        simp [h1, h2] at hcs
        subst hcs
        cases i with
        | zero =>
          simp at hc; subst hc
          obtain ⟨⟨o, f, k1, k2, k3, k4⟩, _⟩ := h
          have := closeV_rep x k4 h1
          rw [k2] at this
          exact ⟨o, f, k1, k3, this⟩
        | succ i =>
          have := closeVs_rep xs h.2 h2 i c (by simpa using hc)
          rw [show i0 + (i + 1) = i0 + 1 + i by omega]
          exact this
end
end
end Go.E


namespace Go.E
open Go

theorem chunk_getElem? (vs : List Value) (o n i : Nat) : (chunk vs o n)[i]? = if i < n then vs[o + i]? else none := by
  simp [chunk, List.getElem?_take, List.getElem?_drop]
def splice (vs : List Value) (o : Nat) (ws : List Value) : List Value := vs.take o ++ ws ++ vs.drop (o + ws.length)

theorem splice_length {vs ws : List Value} {o : Nat} (h : o + ws.length ≤ vs.length) : (splice vs o ws).length = vs.length := by
  simp [splice]; omega
theorem splice_get {vs ws : List Value} {o : Nat} (h : o + ws.length ≤ vs.length) (i : Nat) :
    (splice vs o ws)[i]? = if o ≤ i ∧ i < o + ws.length then ws[i - o]? else vs[i]? := by
  unfold splice
  by_cases h1 : i < o
  · rw [if_neg (by omega), List.append_assoc, List.getElem?_append_left (by simp; omega), List.getElem?_take, if_pos h1]
  · by_cases h2 : i < o + ws.length
    · rw [if_pos (by omega), List.append_assoc, List.getElem?_append_right (by simp; omega), List.getElem?_append_left (by simp; omega)]
      simp only [List.length_take]
      congr 1; omega
    · rw [if_neg (by omega), List.getElem?_append_right (by simp; omega), List.getElem?_drop]
      simp only [List.length_append, List.length_take]
      congr 1; omega
theorem chunk_splice_same {vs ws : List Value} {o n : Nat} (h : o + ws.length ≤ vs.length) (hn : ws.length = n) : chunk (splice vs o ws) o n = ws := by
  apply List.ext_getElem?
  intro i
  rw [chunk_getElem?, splice_get h]
  split
  · rw [if_pos (by omega)]; congr 1; omega
  · rw [List.getElem?_eq_none (by omega)]
theorem chunk_splice_other {vs ws : List Value} {o o' n : Nat} (h : o + ws.length ≤ vs.length) (hd : o' + n ≤ o ∨ o + ws.length ≤ o') : chunk (splice vs o ws) o' n = chunk vs o' n := by
  apply List.ext_getElem?
  intro i
  rw [chunk_getElem?, chunk_getElem?, splice_get h]
  split
  · rw [if_neg (by omega)]
  · rfl
theorem chunk_splice_in {vs ws : List Value} {o o1 n1 o2 : Nat} (h : o1 + n1 ≤ vs.length) (hw : o2 + ws.length ≤ n1) (ho : o = o1 + o2) : chunk (splice vs o ws) o1 n1 = splice (chunk vs o1 n1) o2 ws := by
  subst ho
  apply List.ext_getElem?
  intro i
  have hl : (chunk vs o1 n1).length = n1 := chunk_length _ _ _ h
  rw [chunk_getElem?, splice_get (by omega), splice_get (by omega), chunk_getElem?]
  by_cases hi : i < n1
  · rw [if_pos hi, if_pos hi]
    by_cases h2 : o2 ≤ i ∧ i < o2 + ws.length
    · rw [if_pos (by omega), if_pos h2]; congr 1; omega
    · rw [if_neg (by omega), if_neg h2]
  · rw [if_neg hi, if_neg hi, if_neg (by omega)]
theorem OneC.splice {vs ws : List Value} {o : Nat} (h1 : OneC vs) (h2 : OneC ws) : OneC (splice vs o ws) := by
  intro v hv
  simp only [Go.E.splice, List.mem_append] at hv
  rcases hv with (hv | hv) | hv
  · exact h1 v (List.mem_of_mem_take hv)
  · exact h2 v hv
  · exact h1 v (List.mem_of_mem_drop hv)

def disjFrom (o n : Nat) : List Nat → List Ty → Bool
  | o' :: os, f :: fs => decide (o' + f.size ≤ o ∨ o + n ≤ o') && disjFrom o n os fs
  | _, _ => true
def disjAll : List Nat → List Ty → Bool
  | o :: os, f :: fs => disjFrom o f.size os fs && disjAll os fs
  | _, _ => true
mutual
def Ty.disj : Ty → Bool
  | .struct _ os fs => disjAll os fs && Ty.disjs fs
  | .arr _ e => e.disj
  | _ => true
def Ty.disjs : List Ty → Bool
  | [] => true
  | f :: fs => f.disj && Ty.disjs fs
end
theorem disjFrom_get : ∀ {os : List Nat} {fs : List Ty} {o n j o' : Nat} {f : Ty}, disjFrom o n os fs = true → os[j]? = some o' → fs[j]? = some f → o' + f.size ≤ o ∨ o + n ≤ o'
  | [], _, _, _, _, _, _, _, h, _ => by simp at h
  | _ :: _, [], _, _, _, _, _, _, _, h => by simp at h
  | o1 :: os, f1 :: fs, o, n, 0, o', f, h, h1, h2 => by
    simp only [disjFrom, Bool.and_eq_true, decide_eq_true_eq] at h
    simp at h1 h2; subst h1; subst h2; exact h.1
  | o1 :: os, f1 :: fs, o, n, j + 1, o', f, h, h1, h2 => by
    simp only [disjFrom, Bool.and_eq_true] at h
    exact disjFrom_get h.2 (show os[j]? = some o' by simpa using h1) (show fs[j]? = some f by simpa using h2)
theorem disjAll_get : ∀ {os : List Nat} {fs : List Ty} {i j o o' : Nat} {f f' : Ty}, disjAll os fs = true → i < j → os[i]? = some o → fs[i]? = some f → os[j]? = some o' → fs[j]? = some f' → o' + f'.size ≤ o ∨ o + f.size ≤ o'
  | [], _, _, _, _, _, _, _, _, _, h, _, _, _ => by simp at h
  | _ :: _, [], _, _, _, _, _, _, _, _, _, h, _, _ => by simp at h
  | o1 :: os, f1 :: fs, 0, j + 1, o, o', f, f', h, _, h1, h2, h3, h4 => by
    simp only [disjAll, Bool.and_eq_true] at h
    simp at h1 h2; subst h1; subst h2
    exact disjFrom_get h.1 (show os[j]? = some o' by simpa using h3) (show fs[j]? = some f' by simpa using h4)
  | o1 :: os, f1 :: fs, i + 1, j + 1, o, o', f, f', h, hij, h1, h2, h3, h4 => by
    simp only [disjAll, Bool.and_eq_true] at h
    exact disjAll_get h.2 (show i < j by omega) (show os[i]? = some o by simpa using h1) (show fs[i]? = some f by simpa using h2) (show os[j]? = some o' by simpa using h3) (show fs[j]? = some f' by simpa using h4)
  | _ :: _, _ :: _, _, 0, _, _, _, _, _, hij, _, _, _, _ => by omega
theorem disj_ne {os : List Nat} {fs : List Ty} {i j o o' : Nat} {f f' : Ty} (h : disjAll os fs = true) (hij : i ≠ j) (h1 : os[i]? = some o) (h2 : fs[i]? = some f) (h3 : os[j]? = some o') (h4 : fs[j]? = some f') :
    o' + f'.size ≤ o ∨ o + f.size ≤ o' := by
  rcases Nat.lt_or_ge i j with h5 | h5
  · exact disjAll_get h h5 h1 h2 h3 h4
  · have := disjAll_get h (show j < i by omega) h3 h4 h1 h2
    omega
theorem disjs_get : ∀ {fs : List Ty} {i : Nat} {f : Ty}, Ty.disjs fs = true → fs[i]? = some f → f.disj = true
  | [], _, _, _, h => by simp at h
  | f1 :: fs, 0, f, h, h1 => by simp only [Ty.disjs, Bool.and_eq_true] at h; simp at h1; subst h1; exact h.1
  | f1 :: fs, i + 1, f, h, h1 => by simp only [Ty.disjs, Bool.and_eq_true] at h; exact disjs_get h.2 (show fs[i]? = some f by simpa using h1)

def Ty.kidTys : Ty → List Ty
  | .struct _ _ fs => fs
  | .arr n e => List.replicate n e
  | _ => []
def C.set : C → Nat → C → C
  | .agg cs, i, c => .agg (cs.set i c)
  | c, _, _ => c
def expandFrom (c : C) : Nat → List Ty → List V
  | _, [] => []
  | j, f :: fs => .d f (c.get j) :: expandFrom c (j + 1) fs
def V.set : V → Nat → V → V
  | .d τ c, i, .d _ c' => .d τ (c.set i c')
  | .d τ c, i, y => .agg τ ((expandFrom c 0 τ.kidTys).set i y)
  | .agg τ vs, i, y => .agg τ (vs.set i y)
  | _, _, _ => .any
def V.setAt : V → List Nat → V → V
  | _, [], y => y
  | x, i :: q, y => x.set i ((x.get i).setAt q y)

theorem Ty.kidTys_length (τ : Ty) : τ.kidTys.length = τ.kids := by cases τ <;> simp [Ty.kidTys, Ty.kids]
theorem RepC.child {H : Hp} {τ f : Ty} {vs : List Value} {c : C} {i : Nat} (h : RepC H τ vs c) (hf : τ.kidTys[i]? = some f) : ∃ o, τ.child i = some (o, f) := by
  cases τ <;> simp only [Ty.kidTys, List.getElem?_nil, reduceCtorEq] at hf
  case arr n e =>
    rw [List.getElem?_replicate] at hf
    split at hf
    · cases hf; rename_i hi; exact ⟨_, by simp only [Ty.child]; rw [if_pos hi]⟩
    · cases hf
  case struct sz os fs =>
    simp only [RepC] at h
    obtain ⟨cs, rfl, _, _, h3⟩ := h
    obtain ⟨o, c, a, _⟩ := h3.get hf
    exact ⟨o, by simp [Ty.child, a, hf]⟩

theorem child_disj2 {τ f f' : Ty} {i j o o' : Nat} (hd : τ.disj = true) (h1 : τ.child i = some (o, f)) (h2 : τ.child j = some (o', f')) (hij : i ≠ j) : o' + f'.size ≤ o ∨ o + f.size ≤ o' := by
  cases τ <;> simp only [Ty.child, reduceCtorEq] at h1 h2
  case arr n e =>
    split at h1 <;> simp at h1
    split at h2 <;> simp at h2
    obtain ⟨rfl, rfl⟩ := h1
    obtain ⟨rfl, rfl⟩ := h2
    rcases Nat.lt_or_ge j i with hlt | hge
    · left
      have : (j + 1) * e.size ≤ i * e.size := Nat.mul_le_mul_right _ (by omega)
      rw [Nat.add_mul] at this; omega
    · right
      have : (i + 1) * e.size ≤ j * e.size := Nat.mul_le_mul_right _ (by omega)
      rw [Nat.add_mul] at this; omega
  case struct sz os fs =>
    simp only [Ty.disj, Bool.and_eq_true] at hd
    cases ho : os[i]? with
    | none => simp [ho] at h1
    | some a =>
      cases hf : fs[i]? with
      | none => simp [ho, hf] at h1
      | some g =>
        cases ho' : os[j]? with
        | none => simp [ho'] at h2
        | some a' =>
          cases hf' : fs[j]? with
          | none => simp [ho', hf'] at h2
          | some g' =>
            simp [ho, hf] at h1
            simp [ho', hf'] at h2
            obtain ⟨rfl, rfl⟩ := h1
            obtain ⟨rfl, rfl⟩ := h2
            exact disj_ne hd.1 hij ho hf ho' hf'

section
variable {Γ : G} {hm : Option Key}
theorem RepC.set {H : Hp} {τ f : Ty} {vs ws : List Value} {c c' : C} {i o : Nat} (h : RepC H τ vs c) (hd : τ.disj = true) (hc : τ.child i = some (o, f)) (hr : RepC H f ws c') :
    RepC H τ (splice vs o ws) (c.set i c') := by
  have hwl := hr.length
  have hb := (h.get hc).2.1
  cases τ <;> simp only [Ty.child, reduceCtorEq] at hc
  case arr n e =>
    split at hc <;> simp at hc
    rename_i hi
    obtain ⟨rfl, rfl⟩ := hc
    simp only [RepC] at h ⊢
    obtain ⟨cs, rfl, h1, h2, h3, h4⟩ := h
    refine ⟨cs.set i c', rfl, by simpa using h1, by rw [splice_length (by omega)]; exact h2, h3.splice hr.one, fun j cc hj => ?_⟩
    rw [List.getElem?_set] at hj
    split at hj
    · rename_i hij
      subst hij
      split at hj
      · cases hj
        rw [chunk_splice_same (by omega) hwl]; exact hr
      · cases hj
    · rename_i hij
      have hjl : j < n := by rw [← h1]; exact (List.getElem?_eq_some_iff.1 hj).1
      rw [chunk_splice_other (by omega)]
      · exact h4 j cc hj
      · rcases Nat.lt_or_ge j i with hlt | hge
        · left
          have : (j + 1) * e.size ≤ i * e.size := Nat.mul_le_mul_right _ (by omega)
          rw [Nat.add_mul] at this; omega
        · right
          have : (i + 1) * e.size ≤ j * e.size := Nat.mul_le_mul_right _ (by omega)
          rw [Nat.add_mul] at this; omega
  case struct sz os fs =>
    simp only [RepC] at h ⊢
    simp only [Ty.disj, Bool.and_eq_true] at hd
    obtain ⟨cs, rfl, h1, h2, h3⟩ := h
    cases ho : os[i]? with
    | none => simp [ho] at hc
    | some o' =>
      cases hf : fs[i]? with
      | none => simp [ho, hf] at hc
      | some f' =>
        simp [ho, hf] at hc
        obtain ⟨rfl, rfl⟩ := hc
        have hl := h3.lengths
        refine ⟨cs.set i c', rfl, by rw [splice_length (by omega)]; exact h1, h2.splice hr.one, RepFs.of_get (by simpa using hl) fun j g cc hg hcc => ?_⟩
        rw [List.getElem?_set] at hcc
        obtain ⟨oj, cj, a, b, d, r⟩ := h3.get hg
        refine ⟨oj, a, by rw [splice_length (by omega)]; exact d, ?_⟩
        split at hcc
        · rename_i hij
          subst hij
          rw [hf] at hg; cases hg
          rw [ho] at a; cases a
          split at hcc
          · cases hcc
            rw [chunk_splice_same (by omega) hwl]; exact hr
          · cases hcc
        · rename_i hij
          rw [b] at hcc; cases hcc
          rw [chunk_splice_other (by omega)]
          · exact r
          · have := disj_ne hd.1 (fun e => hij e) ho hf a hg
            omega


theorem RepXs.of_get {p : List Nat} {τ : Ty} : ∀ {xs : List V} {i0 : Nat} {vs : List Value},
    (∀ (i : Nat) (x : V), xs[i]? = some x → ∃ o f, τ.child (i0 + i) = some (o, f) ∧ x.ty = f ∧ o + f.size ≤ vs.length ∧ RepX Γ hm (p ++ [i0 + i]) x (chunk vs o f.size)) → RepXs Γ hm p i0 τ xs vs
  | [], _, _, _ => by simp [RepXs]
  | x :: xs, i0, vs, h => by
    simp only [RepXs]
    refine ⟨h 0 x rfl, RepXs.of_get fun i y hy => ?_⟩
    have := h (i + 1) y (by simpa using hy)
    rw [show i0 + 1 + i = i0 + (i + 1) by omega]; exact this
theorem expandFrom_get (c : C) : ∀ (fs : List Ty) (j i : Nat), (expandFrom c j fs)[i]? = (fs[i]?).map fun f => .d f (c.get (j + i))
  | [], _, _ => by simp [expandFrom]
  | f :: fs, j, 0 => by simp [expandFrom]
  | f :: fs, j, i + 1 => by
    simp only [expandFrom, List.getElem?_cons_succ]
    rw [expandFrom_get c fs (j + 1) i, show j + (i + 1) = j + 1 + i by omega]
theorem expandFrom_length (c : C) : ∀ (fs : List Ty) (j : Nat), (expandFrom c j fs).length = fs.length
  | [], _ => rfl
  | f :: fs, j => by simp [expandFrom, expandFrom_length c fs]
theorem expand_rep {τ : Ty} {c : C} {p : List Nat} {vs : List Value} (h : RepC Γ.H τ vs c) (ha : τ.isAgg = true) : RepX Γ hm p (.agg τ (expandFrom c 0 τ.kidTys)) vs := by
  simp only [RepX]
  refine ⟨h.length, h.one, by rw [expandFrom_length, Ty.kidTys_length], ha, RepXs.of_get fun i x hx => ?_⟩
  rw [expandFrom_get] at hx
  cases hf : τ.kidTys[i]? with
  | none => simp [hf] at hx
  | some f =>
    simp [hf] at hx
    subst hx
    obtain ⟨o, ho⟩ := h.child hf
    obtain ⟨_, h2, h3⟩ := h.get ho
    refine ⟨o, f, by simpa using ho, rfl, h2, ?_⟩
    simpa only [RepX] using h3
theorem child_agg {τ f : Ty} {i o : Nat} (h : τ.child i = some (o, f)) : τ.isAgg = true := by
  cases τ <;> simp [Ty.child] at h <;> rfl
theorem aggset_rep {p : List Nat} {τ : Ty} {xs : List V} {y : V} {vs ws : List Value} {i o : Nat} (h : RepX Γ hm p (.agg τ xs) vs) (hd : τ.disj = true) (hc : τ.child i = some (o, y.ty))
    (hr : RepX Γ hm (p ++ [i]) y ws) (hy : y.plain = true) (hb : o + y.ty.size ≤ vs.length) : RepX Γ hm p (.agg τ (xs.set i y)) (splice vs o ws) := by
  simp only [RepX] at h ⊢
  obtain ⟨h1, h2, h3, h4, h5⟩ := h
  have hwl := hr.length hy
  refine ⟨by rw [splice_length (by omega)]; exact h1, h2.splice (hr.one hy), by simpa using h3, h4, RepXs.of_get fun j x hx => ?_⟩
  rw [List.getElem?_set] at hx
  split at hx
  · rename_i hij
    subst hij
    split at hx
    · cases hx
      refine ⟨o, _, by simpa using hc, rfl, by rw [splice_length (by omega)]; exact hb, ?_⟩
      rw [chunk_splice_same (by omega) hwl]; simpa using hr
    · cases hx
  · rename_i hij
    obtain ⟨o', f', a, b, d, r⟩ := h5.get hx
    refine ⟨o', f', a, b, by rw [splice_length (by omega)]; exact d, ?_⟩
    rw [chunk_splice_other (by omega)]
    · exact r
    · rw [Nat.zero_add] at a
      have := child_disj2 hd hc a hij
      omega
theorem RepX.set {p : List Nat} {x y : V} {vs ws : List Value} {i o : Nat} (h : RepX Γ hm p x vs) (hd : x.ty.disj = true) (hc : x.ty.child i = some (o, y.ty)) (hg : x.get i ≠ .any)
    (hr : RepX Γ hm (p ++ [i]) y ws) (hy : y.plain = true) : RepX Γ hm p (x.set i y) (splice vs o ws) ∧ (x.set i y).ty = x.ty ∧ (x.set i y).plain = true := by
  have hb := (h.get hc hg).2.1
  have gen : ∀ {τ : Ty} {c : C}, x = .d τ c → RepX Γ hm p (.agg τ ((expandFrom c 0 τ.kidTys).set i y)) (splice vs o ws) := by
    intro τ c e
    subst e
    simp only [RepX] at h
    simp only [V.ty] at hc hd
    exact aggset_rep (expand_rep h (child_agg hc)) hd hc hr hy hb
  cases x <;> (try (simp only [V.get, ne_eq, not_true_eq_false] at hg; done))
  case d τ c =>
    have := gen rfl
    cases y
    case d τ' c' =>
      simp only [V.set]
      refine ⟨?_, rfl, rfl⟩
      simp only [RepX] at h hr ⊢
      simp only [V.ty] at hc hd
      exact h.set hd hc hr
    all_goals (simp only [V.set]; exact ⟨this, rfl, rfl⟩)
  case agg τ xs =>
    simp only [V.set]
    exact ⟨aggset_rep h hd hc hr hy hb, rfl, rfl⟩
theorem child_disj {τ f : Ty} {i o : Nat} (h : τ.disj = true) (hc : τ.child i = some (o, f)) : f.disj = true := by
  cases τ <;> simp only [Ty.child, reduceCtorEq] at hc
  case arr n e => split at hc <;> simp at hc; rw [← hc.2]; simpa [Ty.disj] using h
  case struct sz os fs =>
    simp only [Ty.disj, Bool.and_eq_true] at h
    cases ho : os[i]? with
    | none => simp [ho] at hc
    | some o' =>
      cases hf : fs[i]? with
      | none => simp [ho, hf] at hc
      | some f' => simp [ho, hf] at hc; rw [← hc.2]; exact disjs_get h.2 hf

theorem RepX.setAt : ∀ {q : List Nat} {p : List Nat} {x y : V} {vs ws : List Value} {o : Nat}, RepX Γ hm p x vs → x.plain = true → x.ty.disj = true → x.ty.walk q = some (o, y.ty) → x.at q ≠ .any →
    RepX Γ hm (p ++ q) y ws → y.plain = true →
    RepX Γ hm p (x.setAt q y) (splice vs o ws) ∧ (x.setAt q y).ty = x.ty ∧ (x.setAt q y).plain = true
  | [], p, x, y, vs, ws, o, h, hp, hd, hw, hx, hr, hy => by
    simp [Ty.walk] at hw
    obtain ⟨rfl, ht⟩ := hw
    have h1 := h.length hp
    have h2 := hr.length hy
    have : splice vs 0 ws = ws := by
      simp only [splice, List.take_zero, List.nil_append, Nat.zero_add]
      rw [List.drop_eq_nil_of_le (by rw [h1, h2, ht]; exact Nat.le_refl _)]; simp
    simp only [V.setAt, this]
    exact ⟨by simpa using hr, ht.symm, hy⟩
  | i :: q, p, x, y, vs, ws, o, h, hp, hd, hw, hx, hr, hy => by
    simp only [Ty.walk] at hw
    cases hc : x.ty.child i with
    | none => simp [hc] at hw
    | some of =>
      obtain ⟨o1, f⟩ := of
      simp only [hc] at hw
      cases hw2 : f.walk q with
      | none => simp [hw2] at hw
      | some ot =>
        obtain ⟨o2, t⟩ := ot
        simp only [hw2, Option.some.injEq, Prod.mk.injEq] at hw
        obtain ⟨rfl, rfl⟩ := hw
        have hne : x.get i ≠ .any := by
          intro e
          apply hx
          simp only [V.at, e]; exact V.at_any q
        obtain ⟨h1, h2, h3⟩ := h.get hc hne
        have hpl : (x.get i).plain = true := V.plain_of_rep h3 hne
        have _hget := child_get hc
        have ih := RepX.setAt (q := q) h3 hpl (by rw [h1]; exact child_disj hd hc) (by rw [h1]; exact hw2) (by simpa [V.at] using hx) (by simpa using hr) hy
        obtain ⟨i1, i2, i3⟩ := ih
        have hwl := hr.length hy
        have hb2 : o2 + y.ty.size ≤ f.size := by
          obtain ⟨_, hb, _⟩ := h3.at_ (by rw [h1]; exact hw2) (by simpa [V.at] using hx) hpl
          rwa [chunk_length _ _ _ h2] at hb
        have hset := RepX.set (i := i) (o := o1) (y := (x.get i).setAt q y) h hd (by rw [i2, h1]; exact hc) hne i1 i3
        have e1 : splice vs o1 (splice (chunk vs o1 f.size) o2 ws) = splice vs (o1 + o2) ws := by
          have hl1 : (chunk vs o1 f.size).length = f.size := chunk_length _ _ _ h2
          have hl2 : (splice (chunk vs o1 f.size) o2 ws).length = f.size := by rw [splice_length (by omega)]; exact hl1
          apply List.ext_getElem?
          intro j
          rw [splice_get (vs := vs) (o := o1) (by omega), splice_get (vs := vs) (o := o1 + o2) (ws := ws) (by omega), hl2]
          by_cases hj : o1 ≤ j ∧ j < o1 + f.size
          · rw [if_pos hj, splice_get (by omega), chunk_getElem?]
            by_cases hk : o1 + o2 ≤ j ∧ j < o1 + o2 + ws.length
            · rw [if_pos (by omega), if_pos hk]; congr 1; omega
            · rw [if_neg (by omega), if_neg hk, if_pos (by omega)]; congr 1; omega
          · rw [if_neg hj, if_neg (by omega)]
        rw [e1] at hset
        simp only [V.setAt]
        exact hset
end
end Go.E


namespace Go.E
open Go

def Does (P : Program) (o : Oper) (a : Act) (w : World) (Post : Value → World → Prop) : Prop :=
  ∀ (next : Act → World → Prop) (Q : Exit → Act → World → Prop), (∀ v w', Post v w' → next (a.put o.dst v) w') → o.wp P a w next Q
section
variable {P : Program} {o : Oper} {a : Act} {w w' : World} {Post : Value → World → Prop}
theorem Does.val {v : Value} (h : (execOp a.eval o).run P w = .ok (.value v) w') (hp : Post v w') : Does P o a w Post := by
  intro next Q hn
  unfold Oper.wp
  rw [h]
  exact hn v w' hp
theorem Does.skip (h : (execOp a.eval o).run P w = .ok .skip w') (hp : Post undef w') : Does P o a w Post := by
  intro next Q hn
  unfold Oper.wp
  rw [h]
  exact hn _ w' hp
theorem Does.enter {f : FuncId} {args : Array Value} (h : (execOp a.eval o).run P w = .ok (.enter f args) w')
    (hc : Calls P f args w' fun e w'' => ∃ v, e = .returned v ∧ Post v w'') : Does P o a w Post := by
  intro next Q hn
  unfold Oper.wp
  rw [h]
  refine Calls.mono hc ?_
  rintro e w'' ⟨v, rfl, hp⟩
  exact hn v w'' hp
theorem Does.mono {Post' : Value → World → Prop} (h : Does P o a w Post) (hp : ∀ v w', Post v w' → Post' v w') : Does P o a w Post' :=
  fun next Q hn => h next Q fun v w' hv => hn v w' (hp v w' hv)
end


structure Ext (w w' : World) : Prop where
  size : w.heap.size ≤ w'.heap.size
  old : ∀ b, b < w.heap.size → w'.heap[b]? = w.heap[b]?
  oo : oof w' = oof w
theorem Ext.refl (w : World) : Ext w w := ⟨Nat.le_refl _, fun _ _ => rfl, rfl⟩
theorem Ext.trans {a b c : World} (h : Ext a b) (h' : Ext b c) : Ext a c :=
  ⟨Nat.le_trans h.size h'.size, fun x hx => (h'.old x (Nat.lt_of_lt_of_le hx h.size)).trans (h.old x hx), h'.oo.trans h.oo⟩
theorem Ext.alloc (w : World) (o : Obj) : Ext w (w.alloc o) := ⟨by simp, fun _ hb => heap_alloc_old w o hb, rfl⟩
theorem Ext.drew (w : World) : Ext w w.drew := ⟨Nat.le_refl _, fun _ _ => rfl, rfl⟩

def updK {α : Type} (f : Key → Option α) (k : Key) (x : α) : Key → Option α := fun j => if j = k then some x else f j
def updN {α : Type} (f : Nat → Option α) (k : Nat) (x : α) : Nat → Option α := fun j => if j = k then some x else f j
theorem updN_same {α : Type} (f : Nat → Option α) (k : Nat) (x : α) : updN f k x k = some x := by simp [updN]
theorem updN_ne {α : Type} (f : Nat → Option α) {k j : Nat} (x : α) (h : j ≠ k) : updN f k x j = f j := by simp [updN, h]

def Post (Γ : G) (w : World) (s' : S) (x : V) (v : Value) (w' : World) : Prop :=
  ∃ Γ', GLe Γ Γ' ∧ Pres Γ Γ' ∧ Conc Γ' w' s' ∧ RepV Γ' x v

section
variable {Γ : G} {w w' : World} {s : S}
theorem Conc.Zlt (c : Conc Γ w s) {b : Nat} (h : Γ.Z b ≠ none) : b < w.heap.size := by
  cases hk : Γ.Z b with
  | none => exact absurd hk h
  | some o => exact lt_of_heap (c.hZ b o hk)
theorem Conc.congr (c : Conc Γ w s) {s' : S} (h1 : ∀ k, s'.obj k = s.obj k) (h2 : ∀ t, s'.live t = s.live t) (h3 : ∀ t, s.known t = true → s'.known t = true) : Conc Γ w s' :=
  ⟨c.hH, c.hZ, c.hκ, fun k o h => c.obj k o (by rw [← h1]; exact h), fun k h => by rw [h1]; exact c.dom k h, c.injD (fun k h => by unfold S.deadK at h ⊢; rw [h1]; exact h), fun t L h => c.tok t L (by rw [← h2]; exact h), fun t h => h3 t (c.tdom t h), c.hgl, c.hoo, c.hσ⟩
theorem Conc.σlt (c : Conc Γ w s) {b : Nat} {sz : Nat} (h : Γ.σ b = some sz) : b < w.heap.size := by
  obtain ⟨arr, T, fr, h1, _⟩ := c.hσ b sz h
  exact lt_of_heap h1
theorem Conc.σext (c : Conc Γ w s) (he : Ext w w') : ∀ b sz, Γ.σ b = some sz → ∃ arr T fr, w'.heap[b]? = some (.cells arr T fr) ∧ arr.size = sz := fun b sz h => by
  rw [he.old b (c.σlt h)]; exact c.hσ b sz h
theorem Conc.env (c : Conc Γ w s) (e : List (Nat × V)) : Conc Γ w { s with env := e } := c.congr (fun _ => rfl) (fun _ => rfl) (fun _ h => h)
theorem Conc.ext (c : Conc Γ w s) (he : Ext w w') : Conc Γ w' s := by
  refine c.change (Pres.refl Γ) rfl rfl rfl he.oo (fun b l h => ?_) (fun b h => he.old b (c.Zlt h)) (fun b o sz h => ?_) (fun k o h => ?_) (fun _ h _ => h) c.dom (c.σext he) c.inj c.tok c.tdom he.size
  · rw [he.old b (c.Hlt (by rw [h]; simp))]; exact c.hH b l h
  · rw [he.old b (c.κlt (by rw [h]; simp))]; exact c.hκ b o sz h
  · refine .inl ⟨h, fun hd => ⟨fun b p sz _ => ⟨rfl, rfl⟩, fun b τ hb => ?_⟩⟩
    obtain ⟨a1, a2, a3, _⟩ := c.ιlive hb h hd
    exact ⟨he.old b a3, a1⟩
theorem Post.same (c : Conc Γ w s) {x : V} {v : Value} (h : RepV Γ x v) : Post Γ w s x v w := ⟨Γ, .refl Γ, .refl Γ, c, h⟩
theorem Post.ext (c : Conc Γ w s) (he : Ext w w') {x : V} {v : Value} (h : RepV Γ x v) : Post Γ w s x v w' := ⟨Γ, .refl Γ, .refl Γ, c.ext he, h⟩

theorem lookK_cons_same {α : Type} (n : Key) (x : α) (l : List (Key × α)) : lookK ((n, x) :: l) n = some x := by simp [lookK]
theorem look_cons_same {α : Type} (n : Nat) (x : α) (l : List (Nat × α)) : look ((n, x) :: l) n = some x := by simp [look]
theorem obj_cons (s : S) (k j : Key) (o : O) : S.obj { s with loc := (k, o) :: s.loc } j = if k = j then some o else s.obj j := by
  unfold S.obj objOf
  by_cases h : k = j
  · subst h; simp [lookK]
  · simp [lookK, h]
theorem deadK_cons {s : S} {k : Key} {o : O} (h : s.deadK k = true → o.isDead = true) (j : Key) (hj : s.deadK j = true) : S.deadK { s with loc := (k, o) :: s.loc } j = true := by
  unfold S.deadK
  rw [obj_cons]
  split
  · rename_i e; subst e; exact h hj
  · exact hj
theorem live_cons (s : S) (t u : Nat) (L : Option Nat) : S.live { s with tk := (t, L) :: s.tk } u = if t = u then L else s.live u := by
  unfold S.live liveT
  by_cases h : t = u
  · subst h; simp only [look_cons_same, if_true]; cases L <;> rfl
  · simp [look, h]
theorem known_cons (s : S) (t u : Nat) (L : Option Nat) : S.known { s with tk := (t, L) :: s.tk } u = (decide (t = u) || s.known u) := by
  unfold S.known
  by_cases h : t = u
  · subst h; simp [look]
  · simp [look, h]
theorem Conc.ι_none (c : Conc Γ w s) {k : Key} (h : s.obj k = none) : Γ.ι k = none := by
  cases hk : Γ.ι k with
  | none => rfl
  | some x => exact absurd h (c.dom k (by rw [hk]; simp))
theorem Conc.τ_none (c : Conc Γ w s) {t : Nat} (h : s.known t = false) : Γ.τ t = none := by
  cases hk : Γ.τ t with
  | none => rfl
  | some x => have := c.tdom t (by rw [hk]; simp); rw [h] at this; cases this

def G.addKey (Γ : G) (k : Key) (b : Nat) (τ : Ty) : G := { Γ with ι := updK Γ.ι k (b, τ) }
theorem Conc.addKey (c : Conc Γ w s) {k : Key} (hn : s.obj k = none) (he : Ext w w') {τ : Ty} {o : O} (ho : ∀ Γ' : G, Pres Γ Γ' → KeepHome Γ Γ' (some k) → Γ'.ι k = some (w.heap.size, τ) → Γ'.H w.heap.size = none → Γ'.Z w.heap.size = none → Own Γ' w' k o) (hkl : ∀ i, k ≠ .g i := by intro i h; cases h) :
    Conc (Γ.addKey k w.heap.size τ) w' { s with loc := (k, o) :: s.loc } ∧ Pres Γ (Γ.addKey k w.heap.size τ) ∧ GLe Γ (Γ.addKey k w.heap.size τ) := by
  have hk := c.ι_none hn
  have hι : ∀ j x, Γ.ι j = some x → (Γ.addKey k w.heap.size τ).ι j = some x := by
    intro j x hj
    have : j ≠ k := by intro e; subst e; rw [hk] at hj; cases hj
    simp [G.addKey, updK, this, hj]
  have hp : Pres Γ (Γ.addKey k w.heap.size τ) := ⟨Hp.le_refl _, hι, fun t x L h => ⟨x, L, h, Nat.le_refl _, fun _ => rfl⟩, fun _ _ h => h⟩
  refine ⟨?_, hp, ⟨Hp.le_refl _, rfl, fun _ _ => rfl, fun j x h => hι _ _ h, rfl, rfl, fun _ _ h => h, fun i h => by
    have : Key.g i ≠ k := fun e => hkl i e.symm
    simpa [G.addKey, updK, this] using h⟩⟩
  refine c.change hp rfl rfl rfl he.oo (fun b l h => ?_) (fun b h => he.old b (c.Zlt h)) (fun b o sz h => ?_) (fun j o' h => ?_) (fun j h h' => by
    have : j ≠ k := fun e => by subst e; exact h' hn
    simpa [G.addKey, updK, this] using h) (fun j h => ?_) (c.σext he) (fun j j' b τ1 τ2 h1 h2 => ?_) c.tok c.tdom he.size
  · have h' : Γ.H b = some l := h
    rw [he.old b (c.Hlt (by rw [h']; simp))]; exact c.hH b l h
  · have h' : Γ.κ b = some (o, sz) := h
    rw [he.old b (c.κlt (by rw [h']; simp))]; exact c.hκ b o sz h
  · rw [obj_cons] at h
    split at h
    · rename_i e
      cases h; subst e
      refine .inr (ho _ hp (fun _ _ _ _ => ⟨rfl, rfl⟩) (by simp [G.addKey, updK]) ?_ ?_)
      · cases hh : Γ.H w.heap.size with
        | none => exact hh
        | some l => exact absurd (c.Hlt (by rw [hh]; simp)) (Nat.lt_irrefl _)
      · cases hh : Γ.Z w.heap.size with
        | none => exact hh
        | some l => exact absurd (c.Zlt (by rw [hh]; simp)) (Nat.lt_irrefl _)
    · refine .inl ⟨h, fun hd => ⟨fun b p sz _ => ⟨rfl, rfl⟩, fun b τ hb => ?_⟩⟩
      obtain ⟨a1, a2, a3, _⟩ := c.ιlive hb h hd
      exact ⟨he.old b a3, a1⟩
  · rw [obj_cons]
    split
    · simp
    · rename_i e
      refine c.dom j ?_
      have : j ≠ k := fun h => e h.symm
      simpa [G.addKey, updK, this] using h
  · have key : ∀ j b τ', (Γ.addKey k w.heap.size τ).ι j = some (b, τ') → (j = k ∧ b = w.heap.size) ∨ (j ≠ k ∧ Γ.ι j = some (b, τ') ∧ b < w.heap.size) := by
      intro j b τ' h
      by_cases hjk : j = k
      · left; simp [G.addKey, updK, hjk] at h; exact ⟨hjk, h.1.symm⟩
      · right
        have h' : Γ.ι j = some (b, τ') := by simpa [G.addKey, updK, hjk] using h
        obtain ⟨_, _, _, hlt, _⟩ := c.ιblock h'
        exact ⟨hjk, h', hlt⟩
    rcases key j b τ1 h1 with ⟨e1, e2⟩ | ⟨e1, e2, e3⟩ <;> rcases key j' b τ2 h2 with ⟨f1, f2⟩ | ⟨f1, f2, f3⟩
    · exact .inl (by rw [e1, f1])
    · omega
    · omega
    · refine (c.inj _ _ _ _ _ e2 f2).imp id (And.imp (Or.imp (fun h => ?_) (fun h => ?_)) id)
      · unfold S.deadK at h ⊢; rw [obj_cons, if_neg (fun e => e1 e.symm)]; exact h
      · unfold S.deadK at h ⊢; rw [obj_cons, if_neg (fun e => f1 e.symm)]; exact h

theorem new_box (c : Conc Γ w s) {n : Nat} (hn : s.obj (.l n) = none) {x : V} {cells : Array Value} {T : TypeId} (he : Ext w w') (hw : w'.heap[w.heap.size]? = some (.cells cells T (0, 0))) (hsz : x.ty.size ≤ cells.size)
    (hx : RepX Γ none [] x (chunk cells.toList 0 x.ty.size)) (hp : x.plain = true) (hns : x.noSl = true) :
    Post Γ w { s with loc := (.l n, .box x) :: s.loc } (.ptr (.l n) [] x.ty) (.pointer (some ⟨w.heap.size, 0, none⟩)) w' := by
  obtain ⟨h1, h2, h3⟩ := c.addKey hn he (τ := x.ty) (o := .box x) fun Γ' hpr _ hι hH hZ => ⟨_, cells, T, hι, hH, hZ, hw, hsz, (hx.pres hpr (by trivial)).any_home, hp, hns⟩
  exact ⟨_, h3, h2, h1, repV_mk_ptr (τ0 := x.ty) (by simp [G.addKey, updK]) rfl⟩

def G.addH (Γ : G) (b : Nat) (l : List Value) : G := { Γ with H := updN Γ.H b l }
theorem Conc.addH (c : Conc Γ w s) (he : Ext w w') {arr : Array Value} {T : TypeId} {fr : Nat × Nat} {l r : List Value} (hw : w'.heap[w.heap.size]? = some (.cells arr T fr)) (hl : arr.toList = l ++ r) :
    Conc (Γ.addH w.heap.size l) w' s ∧ Pres Γ (Γ.addH w.heap.size l) ∧ GLe Γ (Γ.addH w.heap.size l) := by
  have oH : ∀ b, b < w.heap.size → (Γ.addH w.heap.size l).H b = Γ.H b := fun b hb => updN_ne _ _ (by omega)
  have hle : Γ.H.le (Γ.addH w.heap.size l).H := fun b l' h => ⟨[], by rw [oH b (c.Hlt (by rw [h]; simp)), h]; simp⟩
  have hp : Pres Γ (Γ.addH w.heap.size l) := ⟨hle, fun _ _ h => h, fun t x L h => ⟨x, L, h, Nat.le_refl _, fun _ => rfl⟩, fun _ _ h => h⟩
  refine ⟨?_, hp, ⟨hle, rfl, fun b h => oH b (c.Zlt h), fun _ _ h => h, rfl, rfl, fun _ _ h => h, fun _ h => h⟩⟩
  refine c.change hp rfl rfl rfl he.oo (fun b l' h => ?_) (fun b h => he.old b (c.Zlt h)) (fun b o sz h => ?_) (fun k o h => ?_) (fun _ h _ => h) c.dom (c.σext he) c.inj (fun t L h => ?_) c.tdom he.size
  · by_cases hb : b = w.heap.size
    · subst hb
      simp [G.addH, updN] at h; subst h
      exact ⟨arr, T, fr, r, hw, hl⟩
    · have h' : Γ.H b = some l' := by simpa [G.addH, updN, hb] using h
      rw [he.old b (c.Hlt (by rw [h']; simp))]; exact c.hH b l' h'
  · have h' : Γ.κ b = some (o, sz) := h
    have hlt := c.κlt (by rw [h']; simp)
    rw [he.old b hlt, oH b hlt]; exact c.hκ b o sz h
  · refine .inl ⟨h, fun hd => ⟨fun b p sz hb => ⟨rfl, oH b (c.κlt (by rw [hb]; simp))⟩, fun b τ hb => ?_⟩⟩
    obtain ⟨a1, a2, a3, _⟩ := c.ιlive hb h hd
    exact ⟨he.old b a3, by rw [oH b a3]; exact a1⟩
  · obtain ⟨x, h1, h2⟩ := c.tok t L h
    refine ⟨x, h1, fun b pos sz hx => ?_⟩
    obtain ⟨a1, a2⟩ := h2 b pos sz hx
    rw [oH b (c.κlt (by rw [a2]; simp))]
    exact ⟨a1, a2⟩

def G.addσ (Γ : G) (b sz : Nat) : G := { Γ with σ := updN Γ.σ b sz }
theorem Conc.addσ (c : Conc Γ w s) {b : Nat} {arr : Array Value} {T : TypeId} {fr : Nat × Nat} (hw : w.heap[b]? = some (.cells arr T fr)) :
    Conc (Γ.addσ b arr.size) w s ∧ Pres Γ (Γ.addσ b arr.size) ∧ GLe Γ (Γ.addσ b arr.size) := by
  have hσ : ∀ b' sz, Γ.σ b' = some sz → (Γ.addσ b arr.size).σ b' = some sz := by
    intro b' sz h
    by_cases e : b' = b
    · subst e
      obtain ⟨arr', T', fr', a1, a2⟩ := c.hσ b' sz h
      rw [hw] at a1; cases a1
      rw [← a2]; exact updN_same _ _ _
    · exact (updN_ne _ _ e).trans h
  have hp : Pres Γ (Γ.addσ b arr.size) := ⟨Hp.le_refl _, fun _ _ h => h, fun t x L h => ⟨x, L, h, Nat.le_refl _, fun _ => rfl⟩, hσ⟩
  refine ⟨?_, hp, ⟨Hp.le_refl _, rfl, fun _ _ => rfl, fun _ _ h => h, rfl, rfl, hσ, fun _ h => h⟩⟩
  refine c.change hp rfl rfl rfl rfl c.hH (fun _ _ => rfl) c.hκ (fun k o h => ?_) (fun _ h _ => h) c.dom (fun b' sz h => ?_) c.inj c.tok c.tdom (Nat.le_refl _)
  · refine .inl ⟨h, fun hd => ⟨fun b p sz _ => ⟨rfl, rfl⟩, fun b τ hb => ?_⟩⟩
    obtain ⟨a1, a2, a3, _⟩ := c.ιlive hb h hd
    exact ⟨rfl, a1⟩
  · by_cases e : b' = b
    · subst e
      have : arr.size = sz := by
        have h' : updN Γ.σ b' arr.size b' = some sz := h
        rw [updN_same] at h'; exact Option.some.inj h'
      exact ⟨arr, T, fr, hw, this⟩
    · exact c.hσ b' sz ((updN_ne _ _ e).symm.trans h)

def G.addTok (Γ : G) (t : Nat) (x : Option (Nat × Nat × Nat)) (L : Nat) : G :=
  { Γ with τ := updN Γ.τ t (x, L), κ := match x with | none => Γ.κ | some (b, _, sz) => updN Γ.κ b (.tok t, sz) }
theorem Conc.addTok (c : Conc Γ w s) {t : Nat} (ht : s.known t = false) {x : Option (Nat × Nat × Nat)} {L : Nat}
    (hx : ∀ b pos sz, x = some (b, pos, sz) → Γ.κ b = none ∧ Γ.Z b = none ∧ (∃ l, Γ.H b = some l ∧ l.length = pos) ∧ ∃ arr T, w.heap[b]? = some (.cells arr T (0, 0)) ∧ arr.size = sz) :
    Conc (Γ.addTok t x L) w { s with tk := (t, some L) :: s.tk } ∧ Pres Γ (Γ.addTok t x L) ∧ GLe Γ (Γ.addTok t x L) := by
  have hτ := c.τ_none ht
  have oκ : ∀ b o, Γ.κ b = some o → (Γ.addTok t x L).κ b = some o := by
    intro b o h
    cases x with
    | none => exact h
    | some y =>
      obtain ⟨b', pos, sz⟩ := y
      have : b ≠ b' := by intro e; subst e; rw [(hx b pos sz rfl).1] at h; cases h
      simp [G.addTok, updN, this, h]
  have hp : Pres Γ (Γ.addTok t x L) := ⟨Hp.le_refl _, fun _ _ h => h, fun u y M h => by
    have : u ≠ t := by intro e; subst e; rw [hτ] at h; cases h
    exact ⟨y, M, by simp [G.addTok, updN, this, h], Nat.le_refl _, fun _ => rfl⟩, fun _ _ h => h⟩
  refine ⟨?_, hp, ⟨Hp.le_refl _, rfl, fun _ _ => rfl, fun _ _ h => h, rfl, rfl, fun _ _ h => h, fun _ h => h⟩⟩
  refine c.change hp rfl rfl rfl rfl c.hH (fun b _ => rfl) (fun b o sz h => ?_) (fun k o h => ?_) (fun _ h _ => h) c.dom c.hσ c.inj (fun u M h => ?_) (fun u h => ?_) (Nat.le_refl _)
  · cases hk : Γ.κ b with
    | some o' => rw [oκ b o' hk] at h; cases h; exact c.hκ b o sz hk
    | none =>
      cases x with
      | none => have h' : Γ.κ b = some (o, sz) := h; rw [hk] at h'; cases h'
      | some y =>
        obtain ⟨b', pos, sz'⟩ := y
        by_cases e : b = b'
        · subst e
          simp [G.addTok, updN] at h
          obtain ⟨_, a2, ⟨l, a3, _⟩, a4⟩ := hx b pos sz' rfl
          rw [← h.2]
          obtain ⟨arr, T, q1, q2⟩ := a4
          exact ⟨a2, by show Γ.H b ≠ none; rw [a3]; simp, arr, T, q1, q2, by rw [← h.1]; trivial⟩
        · simp [G.addTok, updN, e, hk] at h
  · refine .inl ⟨h, fun hd => ⟨fun b p sz hb => ⟨by rw [oκ b _ hb, hb], rfl⟩, fun b τ hb => ?_⟩⟩
    obtain ⟨a1, a2, a3, _⟩ := c.ιlive hb h hd
    exact ⟨rfl, a1⟩
  · rw [live_cons] at h
    split at h
    · rename_i e
      subst e; cases h
      refine ⟨x, by simp [G.addTok, updN], fun b pos sz e => ?_⟩
      obtain ⟨a1, a2, a3, a4⟩ := hx b pos sz e
      subst e
      exact ⟨a3, by simp [G.addTok, updN]⟩
    · rename_i e
      obtain ⟨y, h1, h2⟩ := c.tok u M h
      have e' : u ≠ t := fun h' => e h'.symm
      refine ⟨y, by simp [G.addTok, updN, e', h1], fun b pos sz hy => ?_⟩
      obtain ⟨a1, a2⟩ := h2 b pos sz hy
      exact ⟨a1, oκ b _ a2⟩
  · rw [known_cons]
    by_cases e : t = u
    · simp [e]
    · simp only [e, decide_false, Bool.false_or]
      have e' : u ≠ t := fun h' => e h'.symm
      refine c.tdom u ?_
      simpa [G.addTok, updN, e'] using h
end
end Go.E


namespace Go.E
open Go

def elemsOf (s : S) : V → Option (Nat × Ty × List C)
  | .sr k q lo n _ eb e => match s.obj k with
    | some (.box x) => match x.at q with
      | .d _ c => some (eb, e, (c.elems.drop lo).take n)
      | _ => none
    | _ => none
  | x => x.asSl

theorem one_of_elems {H : Hp} {e : Ty} {ys : List C} {m : Nat} {news : List Value} (h1 : ys.length = m) (hl : news.length = m * e.size) (hr : ∀ i c', ys[i]? = some c' → RepC H e (chunk news (i * e.size) e.size) c') : OneC news := by
  intro v hv
  obtain ⟨j, hj⟩ := List.getElem?_of_mem hv
  have hjl : j < m * e.size := by rw [← hl]; exact (List.getElem?_eq_some_iff.1 hj).1
  have hs : 0 < e.size := by rcases Nat.eq_zero_or_pos e.size with h | h; · rw [h, Nat.mul_zero] at hjl; omega
                             · exact h
  have hi : j / e.size < ys.length := by rw [h1]; exact (Nat.div_lt_iff_lt_mul hs).2 hjl
  have hdm := Nat.div_add_mod j e.size
  have hmod := Nat.mod_lt j hs
  refine (hr _ _ (List.getElem?_eq_getElem hi)).one v (List.mem_of_getElem? (i := j % e.size) ?_)
  rw [chunk_getElem?, if_pos hmod, Nat.mul_comm, hdm]; exact hj

section
variable {P : Program} {Γ : G} {w : World} {s : S}
theorem cell_of_chunk {b off k : Nat} {arr : Array Value} {T : TypeId} {fr : Nat × Nat} {l r : List Value} (hb : w.heap[b]? = some (.cells arr T fr)) (hl : arr.toList = l ++ r) {j : Nat} {u : Value} (h : (chunk l off k)[j]? = some u) :
    w.cell? ⟨b, off + j, none⟩ = some u := by
  rw [chunk_getElem?] at h
  split at h
  · have hlt := (List.getElem?_eq_some_iff.1 h).1
    have : arr[off + j]? = some u := by
      rw [← Array.getElem?_toList, hl, List.getElem?_append_left hlt]; exact h
    simp [World.cell?, hb, this]
  · cases h

theorem src_of (c : Conc Γ w s) {Y : V} {v : Value} {eb : Nat} {e : Ty} {ys : List C} (hr : RepV Γ Y v) (he : elemsOf s Y = some (eb, e, ys)) {tx E' : TypeId} (hu : P.underlying tx = some (.slice E')) :
    ∃ n news, Src P e.size tx v n news w ∧ ys.length = n ∧ n ≤ maxLen ∧ n * eb ≤ 140737488355328 ∧ ∀ i c', ys[i]? = some c' → RepC Γ.H e (chunk news (i * e.size) e.size) c' := by
  -- a slice that is known as data
  have frozen : ∀ {eb : Nat} {e : Ty} {ys : List C}, Y.asSl = some (eb, e, ys) → ∃ n news, Src P e.size tx v n news w ∧ ys.length = n ∧ n ≤ maxLen ∧ n * eb ≤ 140737488355328 ∧ ∀ i c', ys[i]? = some c' → RepC Γ.H e (chunk news (i * e.size) e.size) c' := by
    intro eb e ys he
    obtain ⟨a, n, cap, rfl, h1, h2, h3, h4, h5⟩ := repV_asSl hr he
    obtain ⟨a', n', cap', e1, _, e2, e3, e4, e5, e6⟩ := repC_slice h5
    simp at e1
    obtain ⟨rfl, rfl, rfl⟩ := e1
    simp only [C.elems] at e6
    have hz : ∀ {ad : Addr}, n = 0 → Src P e.size tx (.slice (some ad) n cap) n [] w := by
      intro ad h0
      subst h0
      exact Src.ofSlice w hu _ 0 cap [] (by simp) (by simp) (by simp)
    by_cases h0 : n = 0
    · refine ⟨n, [], ?_, h1, by omega, h4, fun i c' hi => ?_⟩
      · cases a with
        | none => subst h0; exact Src.ofNil w hu cap
        | some ad => exact hz h0
      · have := (List.getElem?_eq_some_iff.1 hi).1; omega
    · rcases e6 with e6 | ⟨b, off, l, rfl, hb, hs, hc⟩
      · exact absurd e6 h0
      · obtain ⟨arr, T, fr, r, hw, hl⟩ := c.hH b l hb
        have hnl : (chunk l off (n * e.size)).length = n * e.size := chunk_length _ _ _ hs
        have hrep : ∀ i c', ys[i]? = some c' → RepC Γ.H e (chunk (chunk l off (n * e.size)) (i * e.size) e.size) c' := by
          intro i c' hi
          have hil : i < n := by rw [← h1]; exact (List.getElem?_eq_some_iff.1 hi).1
          have hle : (i + 1) * e.size ≤ n * e.size := Nat.mul_le_mul_right _ hil
          rw [Nat.add_mul] at hle
          rw [chunk_chunk _ _ _ _ _ (by omega)]; exact hc i c' hi
        exact ⟨n, chunk l off (n * e.size), Src.ofSlice w hu _ n cap _ hnl (fun j u hj => by rw [addr_add]; exact cell_of_chunk hw hl hj) (one_of_elems h1 hnl hrep), h1, by omega, h4, hrep⟩
  cases Y <;> (try exact frozen he)
  case sr k q lo n cp eb' e' =>
    simp only [elemsOf] at he
    cases ho : s.obj k with
    | none => simp [ho] at he
    | some o =>
      cases o with
      | map => simp [ho] at he
      | it => simp [ho] at he
      | dead => simp [ho] at he
      | box x =>
        simp only [ho] at he
        cases hx : x.at q with
        | d τ cc =>
          simp only [hx, Option.some.injEq, Prod.mk.injEq] at he
          obtain ⟨rfl, rfl, rfl⟩ := he
          rcases repV_sr hr with ⟨_, rfl, a, rfl⟩ | ⟨b, τ0, o0, m, cap, a, a1, a2, a3, rfl, a4, a5, a6, a7, _⟩
          · refine ⟨0, [], ?_, by simp, by unfold maxLen; omega, by rw [Nat.zero_mul]; exact Nat.zero_le _, fun i c' hi => by simp at hi⟩
            cases a with
            | none => exact Src.ofNil w hu 0
            | some ad => exact Src.ofSlice w hu _ 0 0 [] (by simp) (by simp) (by simp)
          obtain ⟨b', cells, T, g1, g2, g3, g4, g5, g6, g7, _⟩ := c.own a1 ho
          rw [a1] at g1; cases g1
          obtain ⟨q1, q2, q3⟩ := g6.at_ a2 (by rw [hx]; simp) g7
          rw [hx] at q1 q3
          simp only [V.ty] at q1
          subst q1
          simp only [RepX, RepC] at q3
          obtain ⟨cs, rfl, r1, r2, r3, r4⟩ := q3
          simp only [C.elems]
          rw [chunk_length _ _ _ (by simpa using g5)] at q2
          have hlen : ((cs.drop lo).take n).length = n := by simp; omega
          have hmul : (lo + n) * e'.size ≤ m * e'.size := Nat.mul_le_mul_right _ a3
          rw [Nat.add_mul] at hmul
          simp only [Ty.size] at q2 r2 r4
          have hall : o0 + lo * e'.size + n * e'.size ≤ cells.toList.length := by simp; omega
          have hnl : (chunk cells.toList (o0 + lo * e'.size) (n * e'.size)).length = n * e'.size := chunk_length _ _ _ hall
          have hrep : ∀ i c', ((cs.drop lo).take n)[i]? = some c' → RepC Γ.H e' (chunk (chunk cells.toList (o0 + lo * e'.size) (n * e'.size)) (i * e'.size) e'.size) c' := by
            intro i c' hi
            rw [List.getElem?_take] at hi
            split at hi
            · rename_i hin
              rw [List.getElem?_drop] at hi
              have := r4 _ _ hi
              have hle : (i + 1) * e'.size ≤ n * e'.size := Nat.mul_le_mul_right _ hin
              have hle2 : (lo + i + 1) * e'.size ≤ m * e'.size := Nat.mul_le_mul_right _ (by omega)
              rw [Nat.add_mul, Nat.add_mul] at hle2
              rw [Nat.add_mul] at hle this
              rw [chunk_chunk _ _ _ _ _ (by omega), chunk_chunk _ _ _ _ _ (by omega)] at this
              rw [chunk_chunk _ _ _ _ _ (by omega)]
              rw [show 0 + (o0 + (lo * e'.size + i * e'.size)) = o0 + lo * e'.size + i * e'.size by omega] at this
              exact this
            · cases hi
          rcases Nat.eq_zero_or_pos n with h0 | h0
          · subst h0
            refine ⟨0, [], ?_, hlen, by omega, by rw [Nat.zero_mul]; exact Nat.zero_le _, fun i c' hi => by simp at hi⟩
            cases a with
            | none => exact Src.ofNil w hu cap
            | some ad => exact Src.ofSlice w hu _ 0 cap [] (by simp) (by simp) (by simp)
          · have ha : a = some ⟨b, o0 + lo * e'.size, none⟩ := by rcases a4 with h | h; · omega
                                                                  · exact h
            subst ha
            exact ⟨n, _, Src.ofSlice w hu _ n cap _ hnl (fun j u hj => by rw [addr_add]; exact cell_of_chunk (r := []) g4 (by simp) hj) (one_of_elems hlen hnl hrep), hlen, by omega, a7, hrep⟩
        | _ => simp [hx] at he

theorem src_str {Y : V} {v : Value} (hr : RepV Γ Y v) (hY : Y.isStr) {tx : TypeId} (hu : P.underlying tx = some .string) :
    ∃ n news, Src P 1 tx v n news w ∧ (Y.toStr.map fun b => C.int b.toNat).length = n ∧ n ≤ maxLen ∧ n * 1 ≤ 140737488355328 ∧
      ∀ i c', (Y.toStr.map fun b => C.int b.toNat)[i]? = some c' → RepC Γ.H (.int .u8) (chunk news (i * 1) 1) c' := by
  obtain ⟨cc, rfl⟩ := V.isStr_eq hY
  obtain ⟨rfl, _, hl⟩ := repV_str hr
  have hsz : (⟨cc.toStr.toArray⟩ : ByteArray).size = cc.toStr.length := by simp [ByteArray.size]
  refine ⟨cc.toStr.length, byteCells ⟨cc.toStr.toArray⟩, ?_, by simp [V.toStr], by unfold maxLen; omega, by omega, fun i c' hi => ?_⟩
  · have := Src.ofString w hu (⟨cc.toStr.toArray⟩ : ByteArray)
    rwa [hsz] at this
  · simp only [V.toStr, List.getElem?_map] at hi
    cases hc : cc.toStr[i]? with
    | none => simp [hc] at hi
    | some b =>
      simp [hc] at hi
      subst hi
      have : chunk (byteCells ⟨cc.toStr.toArray⟩) (i * 1) 1 = [.int .u8 b.toNat] := by
        apply List.ext_getElem?
        intro j
        rw [chunk_getElem?]
        by_cases hj : j < 1
        · have : j = 0 := by omega
          subst this
          simp [byteCells, hc]
        · simp [hj]
      rw [this]
      simp only [RepC]
      refine ⟨_, rfl, rfl, ?_, ?_⟩
      · have : IntKind.u8.min = 0 := by decide
        omega
      · have : IntKind.u8.max = 255 := by decide
        have := b.toNat_lt
        omega
end

theorem grown_block {H : Hp} {e : Ty} {n m : Nat} {xs ys : List C} {olds news rest : List Value} (h1 : xs.length = n) (h2 : ys.length = m) (h3 : olds.length = n * e.size) (h4 : news.length = m * e.size)
    (hx : ∀ i c', xs[i]? = some c' → RepC H e (chunk olds (i * e.size) e.size) c') (hy : ∀ i c', ys[i]? = some c' → RepC H e (chunk news (i * e.size) e.size) c') :
    ∀ i c', (xs ++ ys)[i]? = some c' → RepC H e (chunk (olds ++ news ++ rest) (i * e.size) e.size) c' := by
  intro i c' hi
  by_cases hlt : i < n
  · rw [List.getElem?_append_left (by omega)] at hi
    have := hx i c' hi
    have hb : (i + 1) * e.size ≤ n * e.size := Nat.mul_le_mul_right _ (by omega)
    rw [Nat.add_mul] at hb
    rw [List.append_assoc, chunk_append _ _ _ _ (by omega)]; exact this
  · rw [List.getElem?_append_right (by omega), h1] at hi
    have hil : i - n < m := by rw [← h2]; exact (List.getElem?_eq_some_iff.1 hi).1
    have := hy _ c' hi
    have hb : (i - n + 1) * e.size ≤ m * e.size := Nat.mul_le_mul_right _ (by omega)
    rw [Nat.add_mul] at hb
    have hmul : i * e.size = n * e.size + (i - n) * e.size := by rw [← Nat.add_mul]; congr 1; omega
    have e1 : chunk (olds ++ news ++ rest) (i * e.size) e.size = chunk news ((i - n) * e.size) e.size := by
      simp only [chunk, List.append_assoc]
      rw [hmul, ← h3, List.drop_append, List.drop_eq_nil_of_le (by omega), List.nil_append, Nat.add_sub_cancel_left, List.drop_append_of_le_length (by omega), List.take_append_of_le_length (by simp; omega)]
    rw [e1]; exact this
end Go.E


namespace Go.E
open Go

def elemT (P : Program) (T : TypeId) : TypeId := match P.underlying T with
  | some (.slice e) => e
  | _ => 0

section
variable {P : Program} {Γ : G} {w w' : World} {s : S}
theorem ty_slice' (hP : allOk P = true) {T : TypeId} {eb : Nat} {e : Ty} (h : ty P T = .slice eb e) :
    P.underlying T = some (.slice (elemT P T)) ∧ e = tyF P 11 (elemT P T) ∧ eb = P.bytesOf (elemT P T) ∧ elemT P T < P.types.size := by
  obtain ⟨E, h1, h2, h3, h4⟩ := ty_slice hP h
  have : elemT P T = E := by simp [elemT, h1]
  rw [this]; exact ⟨h1, h2, h3, h4⟩
theorem zero_of {T : TypeId} (h : zeroB P T = true) : ∃ i z, P.info? T = some i ∧ i.zero = some z ∧ zeroOk (ty P T) z.cells.toList = true ∧ zeroOk (tyF P 11 T) z.cells.toList = true := by
  unfold zeroB at h
  cases hi : P.info? T with
  | none => simp [hi] at h
  | some i =>
    cases hz : i.zero with
    | none => simp [hi, hz] at h
    | some z => simp [hi, hz] at h; exact ⟨i, z, rfl, hz, h.1.1, h.2⟩
theorem zeroOk_length {τ : Ty} {vs : List Value} (h : zeroOk τ vs = true) : vs.length = τ.size := (zeroOk_rep (H := fun _ => none) h).length

theorem size_same {w w' : World} {b : Nat} {o : Obj} (hw : w'.heap[b]? = some o) (oth : ∀ b', b' ≠ b → w'.heap[b']? = w.heap[b']?) : w.heap.size ≤ w'.heap.size := by
  cases Nat.lt_or_ge w'.heap.size w.heap.size with
  | inr h => exact h
  | inl hlt =>
    have h1 := lt_of_heap hw
    have h3 := oth w'.heap.size (by omega)
    rw [Array.getElem?_eq_none (Nat.le_refl _), Array.getElem?_eq_getElem hlt] at h3
    cases h3
theorem Conc.growTip (c : Conc Γ w s) {t L L' b pos sz : Nat} {l ws r : List Value} {arr' : Array Value} {T : TypeId} (hl : s.live t = some L) (hτ : Γ.τ t = some (some (b, pos, sz), L)) (hw : w'.heap[b]? = some (.cells arr' T (0, 0)))
    (hH : Γ.H b = some l) (hκ : Γ.κ b = some (.tok t, sz)) (harr : arr'.toList = l ++ ws ++ r) (hsz : arr'.size = sz) (oth : ∀ b', b' ≠ b → w'.heap[b']? = w.heap[b']?) (hLL : L < L') (hoo : oof w' = oof w) :
    ∃ Γ', Γ'.H b = some (l ++ ws) ∧ Γ'.τ t = some (some (b, (l ++ ws).length, sz), L') ∧ Conc Γ' w' { s with tk := (t, some L') :: s.tk } ∧ Pres Γ Γ' ∧ GLe Γ Γ' := by
  have hz : Γ.Z b = none := (c.hκ b _ _ hκ).1
  refine ⟨{ Γ with H := updN Γ.H b (l ++ ws), τ := updN Γ.τ t (some (b, (l ++ ws).length, sz), L') }, updN_same _ _ _, updN_same _ _ _, ?_⟩
  have hle : Γ.H.le (updN Γ.H b (l ++ ws)) := by
    intro b' l' h
    by_cases e : b' = b
    · subst e; rw [hH] at h; cases h; exact ⟨ws, updN_same _ _ _⟩
    · exact ⟨[], by rw [updN_ne _ _ e, h]; simp⟩
  have hp : Pres Γ { Γ with H := updN Γ.H b (l ++ ws), τ := updN Γ.τ t (some (b, (l ++ ws).length, sz), L') } := by
    refine ⟨hle, fun _ _ h => h, fun u y M h => ?_, fun _ _ h => h⟩
    by_cases e : u = t
    · subst e; rw [hτ] at h; cases h
      exact ⟨_, L', updN_same _ _ _, by omega, fun e => by omega⟩
    · exact ⟨y, M, (updN_ne _ _ e).trans h, Nat.le_refl _, fun _ => rfl⟩
  refine ⟨?_, hp, ⟨hle, rfl, fun b' h => updN_ne _ _ (fun e => by subst e; exact h hz), fun _ _ h => h, rfl, rfl, fun _ _ h => h, fun _ h => h⟩⟩
  refine c.change hp rfl rfl rfl hoo (fun b' l' h => ?_) (fun b' h => oth b' (fun e => by subst e; exact h hz)) (fun b' o sz' h => ?_) (fun k o h => ?_) (fun _ h _ => h) c.dom (fun b' sz' h => ?_) c.inj (fun u M h => ?_) (fun u h => ?_) (size_same hw oth)
  · by_cases e : b' = b
    · subst e
      have h' : l ++ ws = l' := by simpa [updN] using h
      subst h'
      exact ⟨arr', T, (0, 0), r, hw, harr⟩
    · have h' : Γ.H b' = some l' := by simpa [updN, e] using h
      rw [oth b' e]; exact c.hH b' l' h'
  · have h' : Γ.κ b' = some (o, sz') := h
    by_cases e : b' = b
    · subst e
      rw [hκ] at h'; cases h'
      exact ⟨hz, by simp [updN], arr', T, hw, hsz, trivial⟩
    · obtain ⟨a1, a2, a3⟩ := c.hκ b' o sz' h'
      exact ⟨a1, by simpa [updN, e] using a2, by rw [oth b' e]; exact a3⟩
  · refine .inl ⟨h, fun hd => ⟨fun b' p sz' hb => ?_, fun b' τ hb => ?_⟩⟩
    · have hb' : Γ.κ b' = some (.home k p, sz') := hb
      have e : b' ≠ b := by intro e; subst e; rw [hκ] at hb'; cases hb'
      exact ⟨rfl, updN_ne _ _ e⟩
    · obtain ⟨a1, a2, a3, _⟩ := c.ιlive hb h hd
      have e : b' ≠ b := by intro e; subst e; rw [hH] at a1; cases a1
      exact ⟨oth b' e, by simpa [updN, e] using a1⟩
  · obtain ⟨arr, T1, fr, a1, a2⟩ := c.hσ b' sz' h
    by_cases e : b' = b
    · subst e
      obtain ⟨_, _, arr2, T2, a3, a4, _⟩ := c.hκ b' _ _ hκ
      rw [a1] at a3; cases a3
      exact ⟨arr', T, (0, 0), hw, by omega⟩
    · exact ⟨arr, T1, fr, by rw [oth b' e]; exact a1, a2⟩
  · rw [live_cons] at h
    split at h
    · rename_i e
      subst e; cases h
      refine ⟨_, updN_same _ _ _, fun b' pos' sz' e => ?_⟩
      cases e
      exact ⟨⟨_, updN_same _ _ _, rfl⟩, hκ⟩
    · rename_i e
      have e' : u ≠ t := fun h' => e h'.symm
      obtain ⟨y, h1, h2⟩ := c.tok u M h
      refine ⟨y, (updN_ne _ _ e').trans h1, fun b' pos' sz' hy => ?_⟩
      obtain ⟨a1, a2⟩ := h2 b' pos' sz' hy
      have e2 : b' ≠ b := by intro e2; subst e2; rw [hκ] at a2; simp at a2; exact e a2.1
      exact ⟨by simpa [updN, e2] using a1, a2⟩
  · rw [known_cons]
    by_cases e : t = u
    · simp [e]
    · have e' : u ≠ t := fun h' => e h'.symm
      simp only [e, decide_false, Bool.false_or]
      refine c.tdom u ?_
      simpa [updN, e'] using h

theorem Conc.moveTok (c : Conc Γ w s) {t L L' b sz : Nat} {x : Option (Nat × Nat × Nat)} {l : List Value} {arr : Array Value} {T : TypeId} (hτ : Γ.τ t = some (x, L)) (hw : w.heap[b]? = some (.cells arr T (0, 0)))
    (hH : Γ.H b = some l) (hκ : Γ.κ b = none) (hz : Γ.Z b = none) (hsz : arr.size = sz) (hLL : L < L') :
    ∃ Γ', Γ'.H = Γ.H ∧ Γ'.τ t = some (some (b, l.length, sz), L') ∧ Conc Γ' w { s with tk := (t, some L') :: s.tk } ∧ Pres Γ Γ' ∧ GLe Γ Γ' := by
  refine ⟨{ Γ with τ := updN Γ.τ t (some (b, l.length, sz), L'), κ := updN Γ.κ b (.tok t, sz) }, rfl, updN_same _ _ _, ?_⟩
  have oκ : ∀ b' o, Γ.κ b' = some o → updN Γ.κ b (.tok t, sz) b' = some o := by
    intro b' o h
    have : b' ≠ b := by intro e; subst e; rw [hκ] at h; cases h
    rw [updN_ne _ _ this, h]
  have hp : Pres Γ { Γ with τ := updN Γ.τ t (some (b, l.length, sz), L'), κ := updN Γ.κ b (.tok t, sz) } := by
    refine ⟨Hp.le_refl _, fun _ _ h => h, fun u y M h => ?_, fun _ _ h => h⟩
    by_cases e : u = t
    · subst e; rw [hτ] at h; cases h
      exact ⟨_, L', updN_same _ _ _, by omega, fun e => by omega⟩
    · exact ⟨y, M, (updN_ne _ _ e).trans h, Nat.le_refl _, fun _ => rfl⟩
  refine ⟨?_, hp, ⟨Hp.le_refl _, rfl, fun _ _ => rfl, fun _ _ h => h, rfl, rfl, fun _ _ h => h, fun _ h => h⟩⟩
  refine c.change hp rfl rfl rfl rfl c.hH (fun b' _ => rfl) (fun b' o sz' h => ?_) (fun k o h => ?_) (fun _ h _ => h) c.dom c.hσ c.inj (fun u M h => ?_) (fun u h => ?_) (Nat.le_refl _)
  · by_cases e : b' = b
    · subst e
      have h' : sz = sz' := by have := h; simp [updN] at this; exact this.2
      subst h'
      exact ⟨hz, by rw [hH]; simp, arr, T, hw, hsz, by have := h; simp [updN] at this; rw [← this]; trivial⟩
    · exact c.hκ b' o sz' ((updN_ne _ _ e).symm.trans h)
  · refine .inl ⟨h, fun hd => ⟨fun b' p sz' hb => ⟨(oκ b' _ hb).trans hb.symm, rfl⟩, fun b' τ hb => ?_⟩⟩
    obtain ⟨a1, _⟩ := c.ιlive hb h hd
    exact ⟨rfl, a1⟩
  · rw [live_cons] at h
    split at h
    · rename_i e
      subst e; cases h
      refine ⟨_, updN_same _ _ _, fun b' pos' sz' e => ?_⟩
      cases e
      exact ⟨⟨l, hH, rfl⟩, updN_same _ _ _⟩
    · rename_i e
      have e' : u ≠ t := fun h' => e h'.symm
      obtain ⟨y, h1, h2⟩ := c.tok u M h
      refine ⟨y, (updN_ne _ _ e').trans h1, fun b' pos' sz' hy => ?_⟩
      obtain ⟨a1, a2⟩ := h2 b' pos' sz' hy
      exact ⟨a1, oκ b' _ a2⟩
  · rw [known_cons]
    by_cases e : t = u
    · simp [e]
    · have e' : u ≠ t := fun h' => e h'.symm
      simp only [e, decide_false, Bool.false_or]
      refine c.tdom u ?_
      simpa [updN, e'] using h

theorem Conc.sameTok (c : Conc Γ w s) {t L : Nat} (hl : s.live t = some L) : Conc Γ w { s with tk := (t, some L) :: s.tk } := by
  refine c.congr (fun _ => rfl) (fun u => ?_) (fun u h => ?_)
  · rw [live_cons]
    split
    · rename_i e; rw [← e, hl]
    · rfl
  · rw [known_cons, h]; simp

theorem setCells_heap (b : Nat) : ∀ (vs : List Value) (o : Nat) (w : World) (arr : Array Value) (T : TypeId) (fr : Nat × Nat), w.heap[b]? = some (.cells arr T fr) → o + vs.length ≤ arr.size →
    ∃ arr', (w.setCells b o vs).heap[b]? = some (.cells arr' T fr) ∧ arr'.toList = splice arr.toList o vs
  | [], o, w, arr, T, fr, h, _ => ⟨arr, h, by simp [splice]⟩
  | v :: vs, o, w, arr, T, fr, h, hl => by
    have h1 : (w.setCell ⟨b, o, none⟩ v).heap[b]? = some (.cells (arr.setIfInBounds o v) T fr) := by
      simp [World.setCell, Array.getElem?_modify, h]
    obtain ⟨arr', h2, h3⟩ := setCells_heap b vs (o + 1) _ _ T fr h1 (by simp at hl ⊢; omega)
    refine ⟨arr', h2, ?_⟩
    rw [h3]
    apply List.ext_getElem?
    intro j
    simp only [List.length_cons] at hl
    rw [splice_get (by simp; omega), splice_get (by simp; omega)]
    simp only [List.length_cons, Array.toList_setIfInBounds, List.getElem?_set, Array.length_toList]
    by_cases h4 : o + 1 ≤ j ∧ j < o + 1 + vs.length
    · rw [if_pos h4, if_pos (by omega), show j - o = (j - (o + 1)) + 1 by omega, List.getElem?_cons_succ]
    · rw [if_neg h4]
      by_cases h5 : o = j
      · subst h5; rw [if_pos rfl, if_pos (by omega), if_pos (by omega)]; simp
      · rw [if_neg h5, if_neg (by omega)]
theorem setCells_other (b : Nat) : ∀ (vs : List Value) (o : Nat) (w : World) (b' : Nat), b' ≠ b → (w.setCells b o vs).heap[b']? = w.heap[b']?
  | [], _, _, _, _ => rfl
  | v :: vs, o, w, b', h => by
    rw [World.setCells, setCells_other b vs _ _ b' h]
    have hb : b ≠ b' := fun e => h e.symm
    simp [World.setCell, Array.getElem?_modify, hb]

def appendOp (o : Oper) (x y : Operand) (t t' : TypeId) : Prop := o.op = .call { callee := .builtin .append, args := #[x, y], argTypes := #[t, t'] }
theorem run_append {o : Oper} {x y : Operand} {t t' : TypeId} (ho : appendOp o x y t t') {ρ : Operand → Value} {w w' : World} {v : Value}
    (h : (Builtin.append_ #[t, t'] o.type #[ρ x, ρ y]).run P w = .ok v w') : (execOp ρ o).run P w = .ok (.value v) w' := by
  unfold appendOp at ho
  unfold execOp
  simp [ho, resolve, invoke, builtin, h]
theorem run_append_zero_src {t tx T : TypeId} {E : TypeId} {i : TypeInfo} (ht : P.underlying t = some (.slice E)) (hi : P.info? E = some i) {a : Option Addr} {n cap : Nat} {x : Value} {news : List Value} (hs : Src P i.size tx x 0 news w) (h : n ≤ cap) :
    (Builtin.append_ #[t, tx] T #[.slice a n cap, x]).run P w = .ok (.slice a n cap) w := by
  have hn : news = [] := List.eq_nil_of_length_eq_zero (by rw [hs.newsLen]; simp)
  subst hn
  rcases hs.kind with ⟨e', hk⟩ | hk <;> cases a <;> simp [Builtin.append_, run_underlying ht, run_underlying hk, sizeOf, typeInfo, hi, hs.len, h, hs.cells, storeCells]

def srcOf (P : Program) (s : S) (t' : TypeId) (eb : Nat) (e : Ty) (Y : V) (ys : List C) : Prop :=
  ((∃ E', P.underlying t' = some (.slice E')) ∧ (elemsOf s Y = some (eb, e, ys) ∨ (Y = .nilc ∧ ys = []))) ∨
  (P.underlying t' = some .string ∧ Y.isStr ∧ e = .int .u8 ∧ eb = 1 ∧ ys = Y.toStr.map fun b => C.int b.toNat)
theorem src_any (c : Conc Γ w s) {t' : TypeId} {Y : V} {v : Value} {eb : Nat} {e : Ty} {ys : List C} (hr : RepV Γ Y v) (h : srcOf P s t' eb e Y ys) :
    ∃ n news, Src P e.size t' v n news w ∧ ys.length = n ∧ n ≤ maxLen ∧ n * eb ≤ 140737488355328 ∧ ∀ i c', ys[i]? = some c' → RepC Γ.H e (chunk news (i * e.size) e.size) c' := by
  rcases h with ⟨⟨E', hu⟩, h | ⟨rfl, rfl⟩⟩ | ⟨hu, h1, rfl, rfl, rfl⟩
  · exact src_of c hr h hu
  · rw [repV_nilc hr]
    exact ⟨0, [], Src.ofNil w hu 0, rfl, Nat.zero_le _, by rw [Nat.zero_mul]; exact Nat.zero_le _, fun i c' hi => by simp at hi⟩
  · exact src_str hr h1 hu

theorem isTip_fresh (c : Conc Γ w s) : Γ.κ w.heap.size = none ∧ Γ.Z w.heap.size = none := by
  refine ⟨?_, ?_⟩
  · cases hh : Γ.κ w.heap.size with
    | none => rfl
    | some x => exact absurd (c.κlt (by rw [hh]; simp)) (Nat.lt_irrefl _)
  · cases hh : Γ.Z w.heap.size with
    | none => rfl
    | some x => exact absurd (c.Zlt (by rw [hh]; simp)) (Nat.lt_irrefl _)

theorem do_append_fresh (hP : allOk P = true) (c : Conc Γ w s) {o : Oper} {a : Act} {x y : Operand} {t t' : TypeId} {n : Nat} {X Y : V} {ys : List C} {eb : Nat} {e : Ty} (ho : appendOp o x y t t')
    (ht : ty P t = .slice eb e) (hz : zeroB P (elemT P t) = true) (hn : s.known n = false)
    (hx : RepV Γ X (a.eval x)) (hX : X = .nilc ∨ ∃ eb' e', X = .emp eb' e') (hy : RepV Γ Y (a.eval y)) (hel : srcOf P s t' eb e Y ys) :
    Does P o a w (Post Γ w { s with tk := (n, some ys.length) :: s.tk } (.sl eb e ys n)) := by
  obtain ⟨hu, he, heb, hE⟩ := ty_slice' hP ht
  obtain ⟨a0, hx0⟩ : ∃ a0, a.eval x = .slice a0 0 0 := by
    rcases hX with rfl | ⟨eb', e', rfl⟩
    · exact ⟨none, repV_nilc hx⟩
    · obtain ⟨h1, _⟩ := (repV_one rfl rfl).1 hx
      simp only [RepX] at h1
      obtain ⟨a0, h1⟩ := h1
      exact ⟨a0, by simpa using h1⟩
  obtain ⟨m, news, hs, r1, r2, r3, r4⟩ := src_any c hy hel
  obtain ⟨i, z, hi, hzz, hzo, hzo2⟩ := zero_of hz
  have hcz := zeroOk_length hzo
  have hsz : i.size = e.size := by
    have := tyF_size hP 11 (elemT P t)
    rw [he, this]; simp [Program.cellsOf, hi]
  have hby : i.bytes = eb := by rw [heb]; simp [Program.bytesOf, hi]
  rw [← hsz] at hs
  by_cases hm : m = 0
  · subst hm
    have hys : ys = [] := List.eq_nil_of_length_eq_zero r1
    subst hys
    obtain ⟨c1, p1, g1⟩ := c.addTok hn (x := none) (L := 0) (fun _ _ _ h => by cases h)
    refine Does.val (v := .slice a0 0 0) (w' := w) (run_append ho ?_) ⟨_, g1, p1, c1, (repV_one rfl rfl).2 ⟨?_, rfl⟩⟩
    · rw [hx0]; exact run_append_zero_src hu hi hs (Nat.le_refl _)
    · simp only [RepX]
      exact ⟨a0, 0, 0, rfl, repC_mk_slice rfl (Nat.le_refl _) (Nat.zero_le _) (by rw [Nat.zero_mul]; exact Nat.zero_le _) (.inl rfl), none, 0, by simp [G.addTok, updN], Nat.le_refl _, fun _ => rfl⟩
  · have hmx' : ((0 + m : Nat) : Int) ≤ 9223372036854775807 := by unfold maxLen at r2; omega
    have hge := grownCap_ge w (0 + m) 0 (elemT P t)
    have hcm := grownCap_le_maxLen w (0 + m) 0 (elemT P t) (by omega)
    have hold : (Builtin.firstCells i.size 0 (.slice a0 0 0)).run P w.drew = .ok ([] : List Value).toArray w.drew := by
      cases a0 with
      | none => exact run_firstCells_none w.drew i.size 0 0 0
      | some ad => exact run_firstCells_some w.drew i.size 0 ad 0 0 [] (by simp) (by simp)
    have run := run_append_grow_src (P := P) w t t' o.type _ i z hu hi hzz a0 0 0 [] hold (a.eval y) m news hs (by omega) hmx' (by
      rw [hby]; exact growslice_fits (by omega) (by rw [Nat.zero_add]; exact r3))
    rw [← hx0] at run
    have he : Ext w (w.drew.alloc (.cells ((([] : List Value) ++ news).toArray ++ Builtin.zeroCells z.cells (grownCap w (0 + m) 0 (elemT P t) - (0 + m))) (elemT P t))) := (Ext.drew w).trans (Ext.alloc _ _)
    have hnew := heap_alloc_new w.drew (.cells ((([] : List Value) ++ news).toArray ++ Builtin.zeroCells z.cells (grownCap w (0 + m) 0 (elemT P t) - (0 + m))) (elemT P t))
    obtain ⟨c1, p1, g1⟩ := c.addH he (l := news) (r := (Builtin.zeroCells z.cells (grownCap w (0 + m) 0 (elemT P t) - (0 + m))).toList) hnew (by simp)
    obtain ⟨k1, k2⟩ := isTip_fresh c
    have hzc : z.cells.size = e.size := by
      have h1 := tyF_size hP 11 (elemT P t)
      have h2 := ty_size hP (elemT P t)
      rw [‹e = _›, h1, ← h2, ← hcz]; simp
    have hnl : news.length = m * e.size := by rw [hs.newsLen, hsz]
    have hsize : ((([] : List Value) ++ news).toArray ++ Builtin.zeroCells z.cells (grownCap w (0 + m) 0 (elemT P t) - (0 + m))).size = grownCap w (0 + m) 0 (elemT P t) * e.size := by
      simp only [List.nil_append, Array.size_append, List.size_toArray, size_zeroCells, hzc, hnl, ← Nat.add_mul]
      congr 1; omega
    obtain ⟨c2, p2, g2⟩ := c1.addTok (t := n) hn (x := some (w.heap.size, news.length, grownCap w (0 + m) 0 (elemT P t) * e.size)) (L := ys.length) (fun b pos sz h => by
      cases h
      exact ⟨k1, k2, ⟨news, updN_same _ _ _, rfl⟩, _, _, hnew, hsize⟩)
    refine Does.val (run_append ho run) ⟨_, g1.trans g2, p1.trans p2, c2, (repV_one rfl rfl).2 ⟨?_, rfl⟩⟩
    simp only [RepX]
    rw [show 0 + m = m by omega] at hge hcm ⊢
    refine ⟨_, m, _, rfl, repC_mk_slice r1 hge hcm r3 (.inr ⟨w.heap.size, 0, news, rfl, updN_same _ _ _, by omega, fun i c' hi => ?_⟩), _, _, updN_same _ _ _, Nat.le_refl _, fun _ => ⟨rfl, hnl.symm, Nat.le_refl _⟩⟩
    rw [Nat.zero_add]
    exact (r4 i c' hi).mono p1.H

theorem do_append_tok (hP : allOk P = true) (c : Conc Γ w s) {o : Oper} {a : Act} {x y : Operand} {t t' : TypeId} {tk : Nat} {Y : V} {cs ys : List C} {eb : Nat} {e : Ty} (ho : appendOp o x y t t')
    (ht : ty P t = .slice eb e) (hz : zeroB P (elemT P t) = true) (hl : s.live tk = some cs.length)
    (hx : RepV Γ (.sl eb e cs tk) (a.eval x)) (hy : RepV Γ Y (a.eval y)) (hel : srcOf P s t' eb e Y ys) (hlen : (cs.length + ys.length) * eb ≤ 140737488355328) (hlen2 : cs.length + ys.length ≤ maxLen) :
    Does P o a w (Post Γ w { s with tk := (tk, some (cs.length + ys.length)) :: s.tk } (.sl eb e (cs ++ ys) tk)) := by
  obtain ⟨hu, he, heb, hE⟩ := ty_slice' hP ht
  obtain ⟨m, news, hs, r1, r2, r3, r4⟩ := src_any c hy hel
  obtain ⟨n, olds, hso, o1, o2, o3, o4⟩ := src_of (P := P) (tx := t) c hx (show elemsOf s (.sl eb e cs tk) = some (eb, e, cs) from rfl) hu
  obtain ⟨h1, _⟩ := (repV_one rfl rfl).1 hx
  simp only [RepX] at h1
  obtain ⟨aa, n', cap, hv, hrc, x0, L0, hτ, hL1, hL2⟩ := h1
  simp at hv
  obtain ⟨x1, hτ1, htok⟩ := c.tok tk _ hl
  rw [hτ] at hτ1; cases hτ1
  have hL2 := hL2 rfl
  obtain ⟨_, n1, cap1, e1, _, e2, hle, hcap, hnb, hm⟩ := repC_slice hrc
  simp at e1
  obtain ⟨rfl, rfl, rfl⟩ := e1
  simp only [C.elems] at e2 hm
  have hnn : n = n' := by omega
  subst hnn
  obtain ⟨i, z, hi, hzz, hzo, hzo2⟩ := zero_of hz
  have hcz := zeroOk_length hzo
  have hsz : i.size = e.size := by
    have := tyF_size hP 11 (elemT P t)
    rw [he, this]; simp [Program.cellsOf, hi]
  have hby : i.bytes = eb := by rw [heb]; simp [Program.bytesOf, hi]
  have hzc : z.cells.size = e.size := by
    have h1 := tyF_size hP 11 (elemT P t)
    have h2 := ty_size hP (elemT P t)
    rw [‹e = _›, h1, ← h2, ← hcz]; simp
  rw [← hsz] at hs hso
  have hnl : news.length = m * e.size := by rw [hs.newsLen, hsz]
  have hol : olds.length = n * e.size := by rw [hso.newsLen, hsz]
  by_cases hm0 : m = 0
  · subst hm0
    have hys : ys = [] := List.eq_nil_of_length_eq_zero r1
    subst hys
    refine Does.val (v := .slice aa n cap) (w' := w) (run_append ho ?_) ⟨Γ, .refl Γ, .refl Γ, ?_, ?_⟩
    · rw [hv]; exact run_append_zero_src hu hi hs hle
    · exact c.sameTok (by simpa using hl)
    · rw [List.append_nil, ← hv]; exact hx
  · have hys : 0 < ys.length := by omega
    have hlen' : (cs ++ ys).length = n + m := by rw [List.length_append, o1, r1]
    have hmx : n + m ≤ maxLen := by omega
    have hmx' : ((n + m : Nat) : Int) ≤ 9223372036854775807 := by unfold maxLen at hmx; omega
    have hbb : (n + m) * eb ≤ 140737488355328 := by rw [← o1, ← r1]; exact hlen
    by_cases hroom : n + m ≤ cap
    · -- in the room behind
      cases x0 with
      | none => simp only at hL2; omega
      | some y0 =>
        obtain ⟨b, pos, sz⟩ := y0
        simp only at hL2
        obtain ⟨rfl, hpos, hcs⟩ := hL2
        obtain ⟨⟨l, hH, hlp⟩, hκ⟩ := htok b pos sz rfl
        obtain ⟨hZ, _, arr, T, hw, has, _⟩ := c.hκ b _ _ hκ
        have hfit : n * e.size + m * e.size ≤ arr.size := by
          rw [has, ← Nat.add_mul]; exact Nat.le_trans (Nat.mul_le_mul_right _ hroom) hcs
        have run := run_append_room_src (P := P) w t t' o.type _ i hu hi b 0 n cap (a.eval y) m news hs hroom
          (fun j hj => by
            rw [hnl] at hj
            simp [World.cell?, hw]
            rw [hsz]; omega)
          (fun j hj => by simp [World.frozen?, hw])
        rw [← hv] at run
        rw [Nat.zero_add, hsz] at run
        obtain ⟨arr', hw', harr'⟩ := setCells_heap b news (n * e.size) w arr T (0, 0) hw (by rw [hnl]; exact hfit)
        obtain ⟨arr0, T0, fr0, r0, hw0, hl0⟩ := c.hH b l hH
        rw [hw] at hw0; cases hw0
        have hsplit : arr'.toList = l ++ news ++ r0.drop news.length := by
          rw [harr', hl0]
          unfold splice
          rw [hpos, ← hlp, List.take_left', List.drop_append, List.drop_eq_nil_of_le (by omega)]
          · simp
          · rfl
        obtain ⟨Γ', q1, q2, q3, q4, q5⟩ := c.growTip (w' := w.setCells b (n * e.size) news) hl hτ hw' hH hκ hsplit (by rw [← has, ← Array.length_toList, ← Array.length_toList, harr', splice_length (by rw [hnl]; simpa using hfit)])
          (fun b' hb' => setCells_other b news _ w b' hb') (show cs.length < cs.length + ys.length by omega) (by unfold oof; rw [World.os_setCells, World.output_setCells])
        refine Does.val (run_append ho run) ⟨Γ', q5, q4, q3, (repV_one rfl rfl).2 ⟨?_, rfl⟩⟩
        simp only [RepX]
        refine ⟨_, n + m, cap, rfl, repC_mk_slice hlen' hroom hcap hbb (.inr ⟨b, 0, l ++ news, rfl, q1, ?_, fun j c' hj => ?_⟩), _, _, q2, by rw [List.length_append]; exact Nat.le_refl _, fun _ => ⟨rfl, ?_, hcs⟩⟩
        · simp only [List.length_append, hnl, hlp]; rw [Nat.add_mul]; omega
        · rw [Nat.zero_add]
          have hold : ∀ i c', cs[i]? = some c' → RepC Γ'.H e (chunk l (i * e.size) e.size) c' := by
            intro i' c'' hi'
            rcases hm with hm | ⟨b1, off, l1, e1, hb1, hs1, hc1⟩
            · have := (List.getElem?_eq_some_iff.1 hi').1; omega
            · simp at e1
              obtain ⟨rfl, rfl⟩ := e1
              rw [hH] at hb1; cases hb1
              have := hc1 i' c'' hi'
              rw [Nat.zero_add] at this
              exact this.mono q4.H
          have hnew : ∀ i c', ys[i]? = some c' → RepC Γ'.H e (chunk news (i * e.size) e.size) c' := fun i c' hi => (r4 i c' hi).mono q4.H
          have := grown_block (rest := []) e2 r1 (by rw [hlp]; exact hpos.symm) hnl hold hnew j c' hj
          simpa using this
        · simp only [List.length_append, hnl, hlp, Nat.add_mul, hpos]
    · -- a new block
      have hge := grownCap_ge w (n + m) cap (elemT P t)
      have hcm := grownCap_le_maxLen w (n + m) cap (elemT P t) hmx
      have hold' : (Builtin.firstCells i.size n (.slice aa n cap)).run P w.drew = .ok olds.toArray w.drew := by rw [← hv]; exact hso.cellsD
      have run := run_append_grow_src (P := P) w t t' o.type _ i z hu hi hzz aa n cap olds hold' (a.eval y) m news hs (by omega) hmx' (by
        rw [hby]; exact growslice_fits (by omega) hbb)
      rw [← hv] at run
      have hext : Ext w (w.drew.alloc (.cells ((olds ++ news).toArray ++ Builtin.zeroCells z.cells (grownCap w (n + m) cap (elemT P t) - (n + m))) (elemT P t))) := (Ext.drew w).trans (Ext.alloc _ _)
      have hnew := heap_alloc_new w.drew (.cells ((olds ++ news).toArray ++ Builtin.zeroCells z.cells (grownCap w (n + m) cap (elemT P t) - (n + m))) (elemT P t))
      obtain ⟨c1, p1, g1⟩ := c.addH hext (l := olds ++ news) (r := (Builtin.zeroCells z.cells (grownCap w (n + m) cap (elemT P t) - (n + m))).toList) hnew (by simp)
      obtain ⟨k1, k2⟩ := isTip_fresh c
      have hsize : ((olds ++ news).toArray ++ Builtin.zeroCells z.cells (grownCap w (n + m) cap (elemT P t) - (n + m))).size = grownCap w (n + m) cap (elemT P t) * e.size := by
        simp only [Array.size_append, List.size_toArray, List.length_append, size_zeroCells, hzc, hnl, hol, ← Nat.add_mul]
        congr 1; omega
      obtain ⟨Γ', q1, q2, q3, q4, q5⟩ := c1.moveTok (t := tk) (L' := cs.length + ys.length) (show (Γ.addH w.heap.size (olds ++ news)).τ tk = some (x0, cs.length) from hτ) hnew (updN_same _ _ _) k1 k2 hsize (by omega)
      refine Does.val (run_append ho run) ⟨Γ', g1.trans q5, p1.trans q4, q3, (repV_one rfl rfl).2 ⟨?_, rfl⟩⟩
      simp only [RepX]
      have hll : (olds ++ news).length = (n + m) * e.size := by rw [List.length_append, hol, hnl, Nat.add_mul]
      refine ⟨_, n + m, _, rfl, repC_mk_slice hlen' hge hcm hbb (.inr ⟨w.heap.size, 0, olds ++ news, rfl, by rw [q1]; exact updN_same _ _ _, by omega, fun j c' hj => ?_⟩), _, _, q2, by rw [List.length_append]; exact Nat.le_refl _, fun _ => ⟨rfl, hll.symm, Nat.le_refl _⟩⟩
      rw [Nat.zero_add]
      have hold2 : ∀ i c', cs[i]? = some c' → RepC Γ'.H e (chunk olds (i * e.size) e.size) c' := fun i c' hi => (o4 i c' hi).mono (p1.trans q4).H
      have hnew2 : ∀ i c', ys[i]? = some c' → RepC Γ'.H e (chunk news (i * e.size) e.size) c' := fun i c' hi => (r4 i c' hi).mono (p1.trans q4).H
      have := grown_block (rest := []) e2 r1 hol hnl hold2 hnew2 j c' hj
      simpa using this
end
end Go.E


namespace Go.E
open Go

theorem flat_chunk {sz : Nat} : ∀ (vs : List Value) (i : Nat) (v : Value), (∀ v ∈ vs, v.cells.size = sz) → vs[i]? = some v → chunk (vs.flatMap fun v => v.cells.toList) (i * sz) sz = v.cells.toList
  | [], _, _, _, h => by simp at h
  | u :: vs, 0, v, hs, h => by
    simp at h; subst h
    have := hs u (by simp)
    simp only [chunk, Nat.zero_mul, List.drop_zero, List.flatMap_cons]
    rw [List.take_append_of_le_length (by simp [this]), List.take_of_length_le (by simp [this])]
  | u :: vs, i + 1, v, hs, h => by
    have hu := hs u (by simp)
    have ih := flat_chunk vs i v (fun v hv => hs v (by simp [hv])) (by simpa using h)
    simp only [chunk, List.flatMap_cons] at ih ⊢
    rw [List.drop_append, List.drop_eq_nil_of_le (by simp [hu, Nat.add_mul]), List.nil_append]
    rw [show (i + 1) * sz - u.cells.toList.length = i * sz by simp [hu, Nat.add_mul]]
    exact ih

theorem fold_set (off : Nat) : ∀ (l : List Value) (k : Nat) (cells : Array Value), off + k + l.length ≤ cells.size →
    ((l.zipIdx k).foldl (fun cs (p : Value × Nat) => cs.setIfInBounds (off + p.2) p.1) cells).toList = cells.toList.take (off + k) ++ l ++ cells.toList.drop (off + k + l.length)
  | [], k, cells, _ => by simp
  | v :: l, k, cells, h => by
    simp only [List.length_cons] at h
    simp only [List.zipIdx_cons, List.foldl_cons]
    rw [fold_set off l (k + 1) _ (by simp; omega)]
    have hlt : off + k < cells.toList.length := by simp; omega
    simp only [Array.toList_setIfInBounds, List.length_cons]
    rw [show off + (k + 1) = off + k + 1 by omega, List.take_add_one]
    simp only [List.getElem?_set, if_true, hlt]
    rw [List.take_set_of_le (Nat.le_refl _), List.drop_set_of_lt (by omega)]
    rw [show off + k + 1 + l.length = off + k + (l.length + 1) by omega]
    simp


theorem fill_one {place : Nat → Option (Nat × Nat)} {cells : Array Value} {i off size : Nat} {v : Value} {rest : List (Nat × Value)} (hp : place i = some (off, size)) (hv : v.cells.size = size) (hl : off + size ≤ cells.size) :
    ∃ cells', cells'.toList = splice cells.toList off v.cells.toList ∧ Instr.fill place cells ((i, v) :: rest) = Instr.fill place cells' rest := by
  refine ⟨v.cells.zipIdx.foldl (fun cs (c, j) => cs.setIfInBounds (off + j) c) cells, ?_, ?_⟩
  · rw [← Array.foldl_toList, Array.toList_zipIdx]
    have := fold_set off v.cells.toList 0 cells (by simp; omega)
    simpa [splice] using this
  · simp only [Instr.fill, hp]
    rw [if_neg]
    simp [hv]
    omega


def asTy (τ : Ty) (y : V) : V :=
  match y, τ with
  | .nilc, .slice eb e => .emp eb e
  | y, _ => y
def buildV (τ : Ty) : V → List (Nat × V) → V
  | x, [] => x
  | x, (i, v) :: rest => buildV τ (x.setAt [i] (asTy (τ.get i) v)) rest
def buildOk (τ : Ty) : V → List (Nat × V) → Prop
  | _, [] => True
  | x, (i, v) :: rest => (τ.child i).isSome = true ∧ (asTy (τ.get i) v).ty = τ.get i ∧ (asTy (τ.get i) v).plain = true ∧ x.at [i] ≠ .any ∧ buildOk τ (x.setAt [i] (asTy (τ.get i) v)) rest

section
variable {P : Program} {Γ : G} {w w' : World} {s : S}
theorem asTy_rep {τ : Ty} {y : V} {v : Value} (h : RepV Γ y v) : RepV Γ (asTy τ y) v := by
  unfold asTy
  split
  · rw [repV_nilc h]; exact repV_mk_emp
  · exact h
theorem run_loadVar {T : TypeId} {τ : Ty} (hP : allOk P = true) (ht : ty P T = τ) (hk : τ.known = true) {b off : Nat} {arr : Array Value} {E : TypeId} {fr : Nat × Nat} {w : World}
    (hb : w.heap[b]? = some (.cells arr E fr)) (hl : off + τ.size ≤ arr.size) (h1 : OneC (chunk arr.toList off τ.size)) :
    ∃ v, (loadVar T ⟨b, off, none⟩).run P w = .ok v w ∧ v.cells.toList = chunk arr.toList off τ.size ∧ isAggV v = τ.isAgg := by
  have hno : ∀ s, τ ≠ .opq s := by intro s e; subst e; simp [Ty.known] at hk
  have hagg := run_isAgg (w := w) ht hno
  have hsz := run_sizeOf (w := w) hP (T := T) (by intro s e; exact hno s (ht ▸ e))
  rw [ht] at hsz
  unfold loadVar
  cases ha : τ.isAgg with
  | true =>
    have hlen : (chunk arr.toList off τ.size).length = τ.size := chunk_length _ _ _ (by simpa using hl)
    have := run_loadCells_list (P := P) w ⟨b, off, none⟩ (chunk arr.toList off τ.size) (fun j v hv => by
      rw [addr_add]
      rw [chunk_getElem?] at hv
      split at hv
      · simp [World.cell?, hb]; simpa using hv
      · cases hv)
    rw [hlen] at this
    refine ⟨.agg (chunk arr.toList off τ.size).toArray, ?_, by simp [Value.cells], rfl⟩
    simp [hagg, ha, hsz, this]
  | false =>
    have h0 : τ.size = 1 := Ty.size_leaf hk ha
    have hlt : off < arr.size := by omega
    have hc : chunk arr.toList off τ.size = [arr[off]] := by
      rw [h0]; simp [chunk, List.drop_eq_getElem_cons (l := arr.toList) (i := off) (by simpa using hlt)]
    have hone : arr[off].oneCell' = true := h1 _ (by rw [hc]; simp)
    have hna : isAggV arr[off] = false := by cases hv : arr[off] <;> simp_all [Value.oneCell', isAggV]
    refine ⟨arr[off], ?_, by rw [cells_of_plain hna, hc], hna⟩
    have hcell : w.cell? ⟨b, off, none⟩ = some arr[off] := by simp [World.cell?, hb, Array.getElem?_eq_getElem hlt]
    simp [hagg, ha, hcell]


theorem load_ptr (hP : allOk P = true) (c : Conc Γ w s) {T : TypeId} {k : Key} {q : List Nat} {τ : Ty} {x : V} {v : Value}
    (hr : RepV Γ (.ptr k q τ) v) (ho : s.obj k = some (.box x)) (hne : x.at q ≠ .any) (ht : τ = ty P T) (hk : τ.known = true) :
    ∃ u, (Instr.loadAt T v).run P w = .ok u w ∧ RepV Γ (view (x.at q)) u := by
  obtain ⟨b, τ0, o, h1, h2, rfl⟩ := repV_ptr hr
  obtain ⟨b', cells, E, e1, _, _, hb, hsz, hrep, hxp, _⟩ := c.own (by assumption) ho
  rw [h1] at e1
  cases e1
  obtain ⟨g1, g2, g3⟩ := hrep.at_ h2 hne hxp
  have hcl : (chunk cells.toList 0 x.ty.size).length = x.ty.size := chunk_length _ _ _ (by simpa using hsz)
  rw [hcl] at g2
  have hch : chunk (chunk cells.toList 0 x.ty.size) o τ.size = chunk cells.toList o τ.size := by rw [chunk_chunk _ _ _ _ _ g2, Nat.zero_add]
  rw [hch] at g3
  have hpl := V.plain_of_rep g3 hne
  obtain ⟨u, r1, r2, r3⟩ := run_loadVar (T := T) (E := E) (fr := (0, 0)) hP ht.symm hk hb (by omega) (g3.one hpl)
  refine ⟨u, ?_, (repV_plain (by rw [view_plain]; exact hpl)).2 ⟨?_, by rw [view_ty, g1, r3]⟩⟩
  · simp [Instr.loadAt, Instr.sureAddr, r1]
  · rw [r2]; exact view_rep _ g3

theorem walk_unsnoc : ∀ {q : List Nat} {τ0 f : Ty} {o : Nat} {i : Nat}, τ0.walk (q ++ [i]) = some (o, f) → ∃ o1 τ o2, τ0.walk q = some (o1, τ) ∧ τ.child i = some (o2, f) ∧ o = o1 + o2
  | [], τ0, f, o, i, h => by
    simp only [List.nil_append, Ty.walk] at h
    cases hc : τ0.child i with
    | none => rw [hc] at h; cases h
    | some x =>
      obtain ⟨o2, f2⟩ := x
      rw [hc] at h
      simp only [Option.some.injEq, Prod.mk.injEq] at h
      obtain ⟨rfl, rfl⟩ := h
      exact ⟨0, τ0, o2, rfl, hc, by omega⟩
  | j :: q, τ0, f, o, i, h => by
    simp only [List.cons_append, Ty.walk] at h ⊢
    cases hc : τ0.child j with
    | none => rw [hc] at h; cases h
    | some x =>
      obtain ⟨o3, f3⟩ := x
      rw [hc] at h
      simp only at h ⊢
      cases hw : f3.walk (q ++ [i]) with
      | none => rw [hw] at h; cases h
      | some y =>
        obtain ⟨o4, f4⟩ := y
        rw [hw] at h
        simp only [Option.some.injEq, Prod.mk.injEq] at h
        obtain ⟨rfl, rfl⟩ := h
        obtain ⟨o1, τ, o2, h1, h2, rfl⟩ := walk_unsnoc hw
        exact ⟨o3 + o1, τ, o2, by rw [h1], h2, by omega⟩
theorem load_sub (hP : allOk P = true) (c : Conc Γ w s) {T : TypeId} {k : Key} {q : List Nat} {lo m M : Nat} {e : Ty} {x : V} {cc : C} {v : Value}
    (hr : RepV Γ (.ptr k (q ++ [lo]) e) v) (ho : s.obj k = some (.box x)) (hat : x.at q = .d (.arr M e) cc) (ht : ty P T = .arr m e) (hk : (Ty.arr m e).known = true) (hlo : lo + m ≤ M) :
    ∃ u, (Instr.loadAt T v).run P w = .ok u w ∧ RepV Γ (.d (.arr m e) (.agg ((cc.elems.drop lo).take m))) u := by
  obtain ⟨b, τ0, o, h1, h2, rfl⟩ := repV_ptr hr
  obtain ⟨b', cells, E, e1, _, _, hb, hsz, hrep, hxp, _⟩ := c.own (by assumption) ho
  rw [h1] at e1
  cases e1
  obtain ⟨o1, τ, o2, w1, w2, rfl⟩ := walk_unsnoc h2
  obtain ⟨g1, g2, g3⟩ := hrep.at_ w1 (by rw [hat]; simp) hxp
  have hcl : (chunk cells.toList 0 x.ty.size).length = x.ty.size := chunk_length _ _ _ (by simpa using hsz)
  rw [hcl] at g2
  have hch : chunk (chunk cells.toList 0 x.ty.size) o1 τ.size = chunk cells.toList o1 τ.size := by rw [chunk_chunk _ _ _ _ _ g2, Nat.zero_add]
  rw [hch, hat] at g3
  rw [hat] at g1
  simp only [V.ty] at g1
  subst g1
  simp only [RepX, RepC, Ty.size] at g3
  obtain ⟨cs, rfl, r1, r2, r3, r4⟩ := g3
  simp only [C.elems]
  simp only [Ty.child] at w2
  split at w2
  · rename_i hlM
    simp only [Option.some.injEq, Prod.mk.injEq, and_true] at w2
    subst w2
    simp only [Ty.size] at g2
    have hlen : ((cs.drop lo).take m).length = m := by simp; omega
    have hms : (lo + m) * e.size ≤ M * e.size := Nat.mul_le_mul_right _ hlo
    rw [Nat.add_mul] at hms
    have hcl2 : (chunk cells.toList (o1 + lo * e.size) (m * e.size)).length = m * e.size := chunk_length _ _ _ (by simp; omega)
    have hel : ∀ i c, ((cs.drop lo).take m)[i]? = some c → RepC Γ.H e (chunk (chunk cells.toList (o1 + lo * e.size) (m * e.size)) (i * e.size) e.size) c := by
      intro i c hi
      rw [List.getElem?_take] at hi
      split at hi
      · rename_i hin
        rw [List.getElem?_drop] at hi
        have h9 := r4 _ _ hi
        have hle : (i + 1) * e.size ≤ m * e.size := Nat.mul_le_mul_right _ hin
        rw [Nat.add_mul] at hle
        rw [Nat.add_mul] at h9
        rw [chunk_chunk _ _ _ _ _ (by omega)] at h9 ⊢
        rw [show o1 + lo * e.size + i * e.size = o1 + (lo * e.size + i * e.size) by omega]
        exact h9
      · cases hi
    have h4 : RepC Γ.H (.arr m e) (chunk cells.toList (o1 + lo * e.size) (Ty.arr m e).size) (.agg ((cs.drop lo).take m)) := by
      simp only [RepC, Ty.size]
      exact ⟨_, rfl, hlen, hcl2, one_elems hlen hcl2 hel, hel⟩
    obtain ⟨u, q1, q2, q3⟩ := run_loadVar (T := T) (E := E) (fr := (0, 0)) (off := o1 + lo * e.size) hP ht hk hb (by simp only [Ty.size]; omega) h4.one
    refine ⟨u, ?_, repV_d.2 ⟨by rw [q2]; exact h4, q3⟩⟩
    simp [Instr.loadAt, Instr.sureAddr, q1]
  · cases w2
theorem load_cptr (hP : allOk P = true) (c : Conc Γ w s) {T : TypeId} {τ : Ty} {cc : C} {v : Value}
    (hr : RepV Γ (.cptr τ cc) v) (ht : τ = ty P T) (hk : τ.known = true) :
    ∃ u, (Instr.loadAt T v).run P w = .ok u w ∧ RepV Γ (.d τ cc) u := by
  obtain ⟨b, off, l, rfl, h2, h3, h4⟩ := repV_cptr hr
  obtain ⟨arr, E, fr, r, hb, hl⟩ := c.hH b l h2
  have hch : chunk arr.toList off τ.size = chunk l off τ.size := by rw [hl, chunk_append _ _ _ _ h3]
  have hsz : off + τ.size ≤ arr.size := by rw [← Array.length_toList, hl, List.length_append]; omega
  obtain ⟨u, r1, r2, r3⟩ := run_loadVar (T := T) hP ht.symm hk hb hsz (by rw [hch]; exact h4.one)
  exact ⟨u, by simp [Instr.loadAt, Instr.sureAddr, r1], repV_d.2 ⟨by rw [r2, hch]; exact h4, r3⟩⟩

theorem zeroOk_bld {cells : Array Value} (h : zeroOk tBld cells.toList = true) : cells = #[.pointer none, .slice none 0 0] := by
  apply Array.ext'
  generalize cells.toList = l at h
  simp only [tBld, zeroOk, zeroOks, Bool.and_eq_true, beq_iff_eq, decide_eq_true_eq, Ty.size, chunk] at h
  obtain ⟨⟨h1, _⟩, ⟨_, h2⟩, ⟨_, h3⟩, _⟩ := h
  match l, h1 with
  | [a, b], _ =>
    simp only [List.drop_zero, List.take_succ_cons, List.take_zero, List.drop_succ_cons] at h2 h3
    cases a <;> simp [zeroLeaf] at h2
    cases b <;> simp [zeroLeaf] at h3
    obtain ⟨⟨rfl, rfl⟩, rfl⟩ := h3
    subst h2
    rfl
def objZ (τ : Ty) (T : TypeId) : O := bif Ty.beq τ tBld then .it [] T else .box (zeroX τ)
theorem do_alloc (c : Conc Γ w s) {o : Oper} {a : Act} {T : TypeId} {n : Nat} (ho : o.op = .alloc T) (hn : s.obj (.l n) = none) (hz : zeroB P T = true) :
    Does P o a w (Post Γ w { s with loc := (.l n, objZ (ty P T) T) :: s.loc } (.ptr (.l n) [] (ty P T))) := by
  obtain ⟨z, hrun, hzo, hag⟩ := run_zero hz
  have hlen := zeroOk_length hzo
  cases hB : Ty.beq (ty P T) tBld with
  | true =>
    have e := (Ty.beq_iff _ _).1 hB
    rw [e] at hzo
    have hz2 : z.cells = #[.pointer none, .slice none 0 0] := zeroOk_bld hzo
    obtain ⟨h1, h2, h3⟩ := c.addKey hn (Ext.alloc w (.cells z.cells T)) (τ := tBld) (o := .it [] T) fun Γ' hpr _ hι hH hZ => ⟨w.heap.size, .pointer none, .slice none 0 0, hι, hH, hZ, by rw [heap_alloc_new, hz2], .inl rfl, by simp, .inl ⟨rfl, rfl⟩⟩
    simp only [objZ, hB, cond_true]
    rw [e]
    refine Does.val (v := .pointer (some ⟨w.heap.size, 0, none⟩)) (w' := w.alloc (.cells z.cells T)) ?_ ⟨_, h3, h2, h1, (repV_plain rfl).2 ⟨?_, by simp [V.ty, Ty.isAgg, isAggV]⟩⟩
    · unfold execOp
      simp only [ho, Instr.alloc, Sem.run_bind, hrun, Result.andThen_ok]
      simp [newVar, newRow]
    · simp only [RepX]
      exact ⟨w.heap.size, tBld, 0, by simp [G.addKey, updK], rfl, by simp [Value.cells]⟩
  | false =>
  simp only [objZ, hB, cond_false]
  have hX : RepX Γ none [] (zeroX (ty P T)) z.cells.toList := zeroX_rep (ty P T) hzo
  have hb := new_box c hn (T := T) (x := zeroX (ty P T)) (cells := z.cells) (Ext.alloc w _) (heap_alloc_new w (.cells z.cells T)) (by rw [zeroX_ty, ← hlen]; simp) (by rw [zeroX_ty, ← hlen, chunk_all]; exact hX) (zeroX_plain _) (zeroX_noSl _)
  rw [zeroX_ty] at hb
  refine Does.val (v := .pointer (some ⟨w.heap.size, 0, none⟩)) (w' := w.alloc (.cells z.cells T)) ?_ hb
  unfold execOp
  simp only [ho, Instr.alloc, Sem.run_bind, hrun, Result.andThen_ok]
  simp [newVar, newRow]

theorem do_box (c : Conc Γ w s) {o : Oper} {a : Act} {T : TypeId} {x : Operand} {n : Nat} {y : V} (ho : o.op = .box T x) (hn : s.obj (.l n) = none) (hr : RepV Γ y (a.eval x)) (hpl : y.plain = true) (hns : y.noSl = true) :
    Does P o a w (Post Γ w { s with loc := (.l n, .box y) :: s.loc } (.ptr (.l n) [] y.ty)) := by
  obtain ⟨h1, _⟩ := (repV_plain hpl).1 hr
  have hlen := h1.length hpl
  have hb := new_box c hn (T := T) (x := y) (cells := (a.eval x).cells) (Ext.alloc w _) (heap_alloc_new w (.cells (a.eval x).cells T)) (by rw [← hlen]; simp) (by rw [← hlen, chunk_all]; exact h1) hpl hns
  refine Does.val (v := .pointer (some ⟨w.heap.size, 0, none⟩)) (w' := w.alloc (.cells (a.eval x).cells T)) ?_ hb
  unfold execOp
  simp only [ho, Instr.box]
  simp [newVar, newRow]

theorem do_boxF (c : Conc Γ w s) {o : Oper} {a : Act} {T : TypeId} {x : Operand} {y : V} {cc : C} (ho : o.op = .box T x) (hr : RepV Γ y (a.eval x)) (hpl : y.plain = true) (hc : closeV y = some cc) :
    Does P o a w (Post Γ w s (.cptr y.ty cc)) := by
  obtain ⟨h1, _⟩ := (repV_plain hpl).1 hr
  have hlen := h1.length hpl
  obtain ⟨c1, p1, g1⟩ := c.addH (l := (a.eval x).cells.toList) (r := []) (Ext.alloc w _) (heap_alloc_new w (.cells (a.eval x).cells T)) (by simp)
  refine Does.val (v := .pointer (some ⟨w.heap.size, 0, none⟩)) (w' := w.alloc (.cells (a.eval x).cells T)) ?_ ⟨_, g1, p1, c1, repV_mk_cptr (l := (a.eval x).cells.toList) (updN_same _ _ _) (by rw [hlen]; omega) ?_⟩
  · unfold execOp
    simp only [ho, Instr.box]
    simp [newVar, newRow]
  · have := (closeV_rep _ h1 hc).mono p1.H
    rw [← hlen, chunk_all]
    exact this

theorem Conc.write (c : Conc Γ w s) {k : Key} {x x' : V} {b : Nat} {τ : Ty} {cells' : Array Value} {T : TypeId}
    (ho : s.obj k = some (.box x)) (hι : Γ.ι k = some (b, τ)) (hnew : w'.heap[b]? = some (.cells cells' T (0, 0))) (hsame : ∀ b', b' ≠ b → w'.heap[b']? = w.heap[b']?) (hoo : oof w' = oof w)
    (hsz : x'.ty.size ≤ cells'.size) (hx : RepX Γ (some k) [] x' (chunk cells'.toList 0 x'.ty.size)) (ht : x'.ty = x.ty) (hp : x'.plain = true) (hns : x'.noSl = true)
    (hcs : ∀ arr T fr, w.heap[b]? = some (.cells arr T fr) → cells'.size = arr.size) :
    Conc Γ w' { s with loc := (k, .box x') :: s.loc } := by
  obtain ⟨hH, hZ, hlt, e2⟩ := c.ιlive hι ho rfl
  simp only [O.ty] at e2
  refine c.change (.refl Γ) rfl rfl rfl hoo (fun b' l h => ?_) (fun b' h => hsame b' (fun e => by subst e; exact h hZ)) (fun b' o sz h => ?_) (fun j o h => ?_) (fun _ h _ => h) (fun j h => ?_) (fun b' sz h => ?_) (c.injD (deadK_cons fun h => by rw [deadK_obj ho] at h; cases h)) c.tok c.tdom (size_same hnew hsame)
  · rw [hsame b' (fun e => by subst e; rw [hH] at h; cases h)]; exact c.hH b' l h
  · obtain ⟨a1, a2, a3⟩ := c.hκ b' o sz h
    rw [hsame b' (fun e => by subst e; exact a2 hH)]; exact ⟨a1, a2, a3⟩
  · rw [obj_cons] at h
    split at h
    · rename_i e
      subst e; cases h
      exact .inr ⟨b, cells', T, by rw [hι, e2, ht], hH, hZ, hnew, hsz, hx, hp, hns⟩
    · rename_i e
      refine .inl ⟨h, fun hd => ⟨fun _ _ _ _ => ⟨rfl, rfl⟩, fun b' τ' hb => ?_⟩⟩
      obtain ⟨a1, a2, a3, _⟩ := c.ιlive hb h hd
      refine ⟨hsame b' (fun e' => ?_), a1⟩
      subst e'
      exact e (c.inj' hι hb (by rw [deadK_obj ho]; rfl) (by rw [deadK_obj h]; exact hd))
  · rw [obj_cons]
    split
    · simp
    · exact c.dom j h
  · obtain ⟨arr, T1, fr, a1, a2⟩ := c.hσ b' sz h
    by_cases e : b' = b
    · subst e
      exact ⟨cells', T, (0, 0), hnew, by rw [hcs _ _ _ a1]; exact a2⟩
    · exact ⟨arr, T1, fr, by rw [hsame b' e]; exact a1, a2⟩

theorem run_storeVar {T : TypeId} {τ : Ty} (hP : allOk P = true) (ht : ty P T = τ) (hk : τ.known = true) {b off : Nat} {arr : Array Value} {E : TypeId} {v : Value}
    (hb : w.heap[b]? = some (.cells arr E (0, 0))) (hl : off + τ.size ≤ arr.size) (hv : v.cells.toList.length = τ.size) (h1 : OneC v.cells.toList) :
    (storeVar T ⟨b, off, none⟩ v).run P w = .ok () (w.setRow b (splice arr.toList off v.cells.toList).toArray) := by
  have hsz := run_sizeOf (w := w) hP (T := T) (by intro s e; rw [ht] at e; subst e; simp [Ty.known] at hk)
  rw [ht] at hsz
  have hv' : v.cells.size = τ.size := by simpa using hv
  have hst := run_storeCells_at P b off E v.cells.toList 0 arr w hb (by simp; omega) h1
  simp only [Nat.add_zero] at hst
  simp [storeVar, hsz, hv', hst, splice]

theorem splice_chunk0 (vs ws : List Value) {o n : Nat} (h : o + ws.length ≤ n) (hn : n ≤ vs.length) : chunk (splice vs o ws) 0 n = splice (chunk vs 0 n) o ws := by
  apply List.ext_getElem?
  intro i
  have hl : (chunk vs 0 n).length = n := chunk_length _ _ _ (by omega)
  rw [chunk_getElem?, splice_get (by omega), splice_get (by omega), chunk_getElem?]
  simp only [Nat.zero_add]
  by_cases hi : i < n
  · rw [if_pos hi, if_pos hi]
  · rw [if_neg hi, if_neg (by omega), if_neg hi]

theorem do_makeSlice (hP : allOk P = true) (c : Conc Γ w s) {o : Oper} {a : Act} {t : TypeId} {l cp : Operand} {L Cp : V} {k1 k2 : IntKind} {nl nc : Nat} {n : Nat} {eb : Nat} {e : Ty}
    (ho : o.op = .makeSlice t l cp) (ht : ty P t = .slice eb e) (hz : zeroB P (elemT P t) = true) (hn : s.obj (.l n) = none)
    (hl : a.eval l = .int k1 nl) (hc : a.eval cp = .int k2 nc) (h1 : nl ≤ nc) (h2 : nc ≤ maxLen) (hb : nc * eb ≤ 140737488355328) (hes : e.size ≠ 0) {cpv : Option Nat} (hcpv : ∀ c, cpv = some c → nc = c) :
    Does P o a w (Post Γ w { s with loc := (.l n, .box (.d (.arr nl e) (.agg (List.replicate nl (zeroC e))))) :: s.loc } (.sr (.l n) [] 0 nl cpv eb e)) := by
  obtain ⟨hu, he, heb, hE⟩ := ty_slice' hP ht
  obtain ⟨i, z, hi, hzz, hzo, hzo2⟩ := zero_of hz
  have hcz := zeroOk_length hzo
  have hsz : i.size = e.size := by
    have := tyF_size hP 11 (elemT P t)
    rw [he, this]; simp [Program.cellsOf, hi]
  have hby : i.bytes = eb := by rw [heb]; simp [Program.bytesOf, hi]
  have hzc : z.cells.size = e.size := by
    have h1 := tyF_size hP 11 (elemT P t)
    have h2 := ty_size hP (elemT P t)
    rw [he, h1, ← h2, ← hcz]; simp
  have w1 : IntKind.i64.wrap (nl : Int) = nl := IntWalk.i64_in _ (by unfold maxLen at h2; omega)
  have w2 : IntKind.i64.wrap (nc : Int) = nc := IntWalk.i64_in _ (by unfold maxLen at h2; omega)
  have hb' : ¬ (281474976710656 : Int) < (eb : Int) * (nc : Int) := by
    have : (eb : Int) * (nc : Int) = ((nc * eb : Nat) : Int) := by rw [Int.mul_comm]; push_cast; rfl
    rw [this]; omega
  have hrun : (Instr.makeSlice t (a.eval l) (a.eval cp)).run P w = .ok (.slice (some ⟨w.heap.size, 0, none⟩) nl nc) (w.alloc (.cells ((Array.range (nc * e.size)).map (z.cells[· % z.cells.size]!)) (elemT P t))) := by
    by_cases h0 : nc = 0
    · subst h0
      have : nl = 0 := by omega
      subst this
      have h00 : (Array.map (fun _ => (default : Value)) (Array.range 0)) = #[] := by apply Array.eq_empty_of_size_eq_zero; simp
      have h01 : (Array.map (fun x => z.cells[x % z.cells.size]!) (Array.range 0)) = #[] := by apply Array.eq_empty_of_size_eq_zero; simp
      have w0 : IntKind.i64.wrap 0 = 0 := by decide
      simp [Instr.makeSlice, hl, hc, run_underlying hu, asInt, asIntOf, typeInfo, hi, w0, sizeOf, hsz, newRow, h00, h01]
    · have h3 : ¬ (nc * e.size = 0) := Nat.mul_ne_zero h0 hes
      have h4 : ¬ ((nc : Int) < (nl : Int)) := by omega
      have h5 : ¬ ((nc : Int) < 0) := by omega
      have h6 : ¬ ((nl : Int) < 0) := by omega
      simp [Instr.makeSlice, hl, hc, run_underlying hu, asInt, asIntOf, typeInfo, hi, w1, w2, sizeOf, hsz, newRow, h3, hby, hb', h4, h5, h6, zeroValue, hzz]
  have hsize : ((Array.range (nc * e.size)).map (z.cells[· % z.cells.size]!)).size = nc * e.size := by rw [Array.size_map, Array.size_range]
  have hnl : nl * e.size ≤ nc * e.size := Nat.mul_le_mul_right _ h1
  have hX : ∀ j, j < nl → chunk ((Array.range (nc * e.size)).map (z.cells[· % z.cells.size]!)).toList (j * e.size) e.size = z.cells.toList := by
    intro j hlt
    apply List.ext_getElem?
    intro q
    rw [chunk_getElem?]
    have hb2 : (j + 1) * e.size ≤ nc * e.size := Nat.mul_le_mul_right _ (by omega)
    rw [Nat.add_mul] at hb2
    split
    · rename_i hq
      have e1 : (j * e.size + q) % z.cells.size = q := by rw [hzc, Nat.add_comm, Nat.add_mul_mod_self_right, Nat.mod_eq_of_lt hq]
      rw [Array.toList_map, List.getElem?_map, Array.toList_range, List.getElem?_range (by omega)]
      simp only [Option.map_some, e1]
      have : q < z.cells.size := by omega
      simp [getElem!_pos z.cells q this]
    · rw [List.getElem?_eq_none (by simp; omega)]
  have hrep : RepX Γ none [] (.d (.arr nl e) (.agg (List.replicate nl (zeroC e)))) (chunk ((Array.range (nc * e.size)).map (z.cells[· % z.cells.size]!)).toList 0 (V.d (.arr nl e) (.agg (List.replicate nl (zeroC e)))).ty.size) := by
    simp only [RepX, V.ty, Ty.size]
    have hlen : (chunk ((Array.range (nc * e.size)).map (z.cells[· % z.cells.size]!)).toList 0 (nl * e.size)).length = nl * e.size := chunk_length _ _ _ (by simp only [Array.length_toList, hsize]; omega)
    have hel : ∀ i c', (List.replicate nl (zeroC e))[i]? = some c' → RepC Γ.H e (chunk (chunk ((Array.range (nc * e.size)).map (z.cells[· % z.cells.size]!)).toList 0 (nl * e.size)) (i * e.size) e.size) c' := by
      intro i c' hi
      rw [List.getElem?_replicate] at hi
      split at hi
      · rename_i hlt
        cases hi
        have hb2 : (i + 1) * e.size ≤ nl * e.size := Nat.mul_le_mul_right _ hlt
        rw [Nat.add_mul] at hb2
        rw [chunk_chunk _ _ _ _ _ (by omega), Nat.zero_add, hX i hlt, he]
        exact zeroOk_rep hzo2
      · cases hi
    simp only [RepC]
    exact ⟨_, rfl, by simp, hlen, one_of_elems (by simp) hlen hel, hel⟩
  obtain ⟨Γ', q1, q2, q3, q4⟩ := new_box c hn (T := elemT P t) (Ext.alloc w _) (heap_alloc_new w (.cells ((Array.range (nc * e.size)).map (z.cells[· % z.cells.size]!)) (elemT P t))) (by rw [hsize]; exact hnl) hrep rfl rfl
  obtain ⟨y1, y2, y3⟩ := q3.addσ (heap_alloc_new w (.cells ((Array.range (nc * e.size)).map (z.cells[· % z.cells.size]!)) (elemT P t)))
  refine Does.val (v := .slice (some ⟨w.heap.size, 0, none⟩) nl nc) (w' := w.alloc (.cells ((Array.range (nc * e.size)).map (z.cells[· % z.cells.size]!)) (elemT P t))) ?_ ⟨_, q1.trans y3, q2.trans y2, y1, ?_⟩
  · unfold execOp
    simp only [ho, Sem.run_bind, hrun, Result.andThen_ok, Sem.run_pure]
  · obtain ⟨b, τ0, o', r1, r2, r3⟩ := repV_ptr q4
    simp at r3
    obtain ⟨rfl, rfl⟩ := r3
    exact repV_mk_sr (show (G.addσ Γ' _ _).ι (.l n) = _ from r1) r2 (by omega) (.inr (by simp)) h1 h2 (Nat.le_trans (Nat.mul_le_mul_right _ h1) hb) hcpv (fun _ => .inr ⟨_, updN_same _ _ _, by rw [hsize, Nat.zero_add, Nat.zero_add]; exact Nat.le_refl _⟩)

theorem do_buildSliceV (hP : allOk P = true) (c : Conc Γ w s) {o : Oper} {a : Act} {t : TypeId} {len : Nat} {parts : Array (Nat × Operand)} {cs : List C} {eb : Nat} {e : Ty}
    (ho : o.op = .buildSlice t len parts) (ht : ty P t = .slice eb e) (hz : zeroB P (elemT P t) = true) (hlen : 0 < len) (hes : e.size ≠ 0) (hsmall : len * e.size ≤ 16777216) (hb : len * eb ≤ 140737488355328)
    (hidx : parts.toList.map (·.1) = List.range len) (hcs : cs.length = len)
    (hx : ∀ (i : Nat) (x : Nat × Operand) (cc : C), parts.toList[i]? = some x → cs[i]? = some cc → RepV Γ (.d e cc) (a.eval x.2)) :
    Does P o a w (fun v w' => (∃ ad, v = .slice ad len len) ∧ Post Γ w s (.d (.slice eb e) (.slice cs)) v w') := by
  obtain ⟨hu, he, heb, hE⟩ := ty_slice' hP ht
  obtain ⟨i, z, hi, hzz, hzo, hzo2⟩ := zero_of hz
  have hcz := zeroOk_length hzo
  have hsz : i.size = e.size := by
    have := tyF_size hP 11 (elemT P t)
    rw [he, this]; simp [Program.cellsOf, hi]
  have hzc : z.cells.size = e.size := by
    have h1 := tyF_size hP 11 (elemT P t)
    have h2 := ty_size hP (elemT P t)
    rw [he, h1, ← h2, ← hcz]; simp
  have hpl : parts.toList.length = len := by have := congrArg List.length hidx; simpa using this
  -- the values
  have hvs : (parts.map fun (i, x) => (i, a.eval x)).toList = ((parts.toList.map fun x => a.eval x.2).zipIdx 0).map fun x => (x.2, x.1) := by
    apply List.ext_getElem?
    intro j
    simp only [Array.toList_map, List.getElem?_map, List.getElem?_zipIdx]
    cases hj : parts.toList[j]? with
    | none => simp
    | some x =>
      have : (parts.toList.map (·.1))[j]? = some x.1 := by simp [hj]
      rw [hidx] at this
      have hlt : j < len := by rw [← hpl]; exact (List.getElem?_eq_some_iff.1 hj).1
      simp [List.getElem?_range hlt] at this
      simp [this]
  have hrep : ∀ (j : Nat) (v : Value), (parts.toList.map fun x => a.eval x.2)[j]? = some v → ∃ cc, cs[j]? = some cc ∧ RepV Γ (.d e cc) v := by
    intro j v hj
    simp only [List.getElem?_map] at hj
    cases hx' : parts.toList[j]? with
    | none => simp [hx'] at hj
    | some x =>
      simp [hx'] at hj
      have hlt : j < len := by rw [← hpl]; exact (List.getElem?_eq_some_iff.1 hx').1
      have hcj : cs[j]? = some cs[j] := List.getElem?_eq_getElem (by omega)
      exact ⟨_, hcj, hj ▸ hx j x _ hx' hcj⟩
  have hsizes : ∀ v ∈ (parts.toList.map fun x => a.eval x.2), v.cells.size = e.size := by
    intro v hv
    obtain ⟨j, hj⟩ := List.mem_iff_getElem?.1 hv
    obtain ⟨cc, _, hr⟩ := hrep j v hj
    have := (repV_d.1 hr).1.length
    simpa using this
  have hf := Great.fill_whole (s := e.size) (by omega) (parts.toList.map fun x => a.eval x.2) ((Array.range (len * e.size)).map (z.cells[· % z.cells.size]!)) hsizes (by simp [hpl])
  have run := run_buildSlice (P := P) w t (elemT P t) len (parts.map fun (i, x) => (i, a.eval x)) _ i z hu hi hzz (by rw [hsz]; omega) (by rw [hsz]; exact Nat.mul_ne_zero (by omega) hes) (by rw [hsz, hvs]; exact hf)
  have hflen : ((parts.toList.map fun x => a.eval x.2).flatMap fun v => v.cells.toList).length = len * e.size := by
    simp only [List.length_flatMap]
    have : (List.map (fun v => v.cells.toList.length) (parts.toList.map fun x => a.eval x.2)) = List.replicate len e.size := by
      apply List.eq_replicate_iff.2
      refine ⟨by simp [hpl], fun b hb => ?_⟩
      obtain ⟨v, hv, rfl⟩ := List.mem_map.1 hb
      simpa using hsizes v hv
    rw [this]; simp
  obtain ⟨c1, p1, g1⟩ := c.addH (Ext.alloc w _) (l := (parts.toList.map fun x => a.eval x.2).flatMap fun v => v.cells.toList) (r := []) (heap_alloc_new w (.cells ((parts.toList.map fun x => a.eval x.2).flatMap fun v => v.cells.toList).toArray (elemT P t))) (by simp)
  refine Does.val (v := .slice (some ⟨w.heap.size, 0, none⟩) len len) (w' := w.alloc (.cells ((parts.toList.map fun x => a.eval x.2).flatMap fun v => v.cells.toList).toArray (elemT P t))) ?_ ⟨⟨_, rfl⟩, _, g1, p1, c1, repV_mk_slice (repC_mk_slice hcs (Nat.le_refl _) (by have := Nat.le_mul_of_pos_right len (Nat.pos_of_ne_zero hes); unfold maxLen; omega) hb (.inr ⟨w.heap.size, 0, _, rfl, updN_same _ _ _, by rw [hflen]; omega, fun j c' hj => ?_⟩))⟩
  · unfold execOp
    simp only [ho, Sem.run_bind, run, Result.andThen_ok, Sem.run_pure]
  · have hlt : j < len := by rw [← hcs]; exact (List.getElem?_eq_some_iff.1 hj).1
    have hv : (parts.toList.map fun x => a.eval x.2)[j]? = some ((parts.toList.map fun x => a.eval x.2)[j]'(by simp [hpl]; omega)) := List.getElem?_eq_getElem _
    obtain ⟨cc, hcc, hr⟩ := hrep j _ hv
    rw [hj] at hcc; cases hcc
    have := flat_chunk _ j _ hsizes hv
    rw [Nat.zero_add, this]
    exact (repV_d.1 hr).1.mono p1.H

theorem do_buildSlice (hP : allOk P = true) (c : Conc Γ w s) {o : Oper} {a : Act} {t : TypeId} {len : Nat} {parts : Array (Nat × Operand)} {cs : List C} {eb : Nat} {e : Ty}
    (ho : o.op = .buildSlice t len parts) (ht : ty P t = .slice eb e) (hz : zeroB P (elemT P t) = true) (hlen : 0 < len) (hes : e.size ≠ 0) (hsmall : len * e.size ≤ 16777216) (hb : len * eb ≤ 140737488355328)
    (hidx : parts.toList.map (·.1) = List.range len) (hcs : cs.length = len)
    (hx : ∀ (i : Nat) (x : Nat × Operand) (cc : C), parts.toList[i]? = some x → cs[i]? = some cc → RepV Γ (.d e cc) (a.eval x.2)) :
    Does P o a w (Post Γ w s (.d (.slice eb e) (.slice cs))) :=
  (do_buildSliceV hP c ho ht hz hlen hes hsmall hb hidx hcs hx).mono fun _ _ h => h.2
theorem do_buildSliceT (hP : allOk P = true) (c : Conc Γ w s) {o : Oper} {a : Act} {t : TypeId} {len : Nat} {parts : Array (Nat × Operand)} {cs : List C} {eb : Nat} {e : Ty} {n : Nat} (hn : s.known n = false)
    (ho : o.op = .buildSlice t len parts) (ht : ty P t = .slice eb e) (hz : zeroB P (elemT P t) = true) (hlen : 0 < len) (hes : e.size ≠ 0) (hsmall : len * e.size ≤ 16777216) (hb : len * eb ≤ 140737488355328)
    (hidx : parts.toList.map (·.1) = List.range len) (hcs : cs.length = len)
    (hx : ∀ (i : Nat) (x : Nat × Operand) (cc : C), parts.toList[i]? = some x → cs[i]? = some cc → RepV Γ (.d e cc) (a.eval x.2)) :
    Does P o a w (Post Γ w { s with tk := (n, some cs.length) :: s.tk } (.sl eb e cs n)) := by
  refine (do_buildSliceV hP c ho ht hz hlen hes hsmall hb hidx hcs hx).mono ?_
  rintro v w' ⟨⟨ad, rfl⟩, Γ', g1, p1, c1, hr⟩
  obtain ⟨c2, p2, g2⟩ := c1.addTok hn (x := none) (L := cs.length) (fun _ _ _ h => by cases h)
  refine ⟨_, g1.trans g2, p1.trans p2, c2, (repV_one rfl rfl).2 ⟨?_, rfl⟩⟩
  obtain ⟨h1, _⟩ := (repV_one rfl rfl).1 (hr.pres p2)
  simp only [RepX] at h1 ⊢
  exact ⟨ad, len, len, rfl, h1, none, cs.length, by simp [G.addTok, updN], Nat.le_refl _, fun _ => rfl⟩

theorem do_buildSlice0 (hP : allOk P = true) (c : Conc Γ w s) {o : Oper} {a : Act} {t : TypeId} {eb : Nat} {e : Ty} (ho : o.op = .buildSlice t 0 #[]) (ht : ty P t = .slice eb e) :
    Does P o a w (Post Γ w s (.emp eb e)) := by
  obtain ⟨hu, he, heb, hE⟩ := ty_slice' hP ht
  have hz := run_sizeF (f := 11) hP (w := w) hE
  refine Does.val (v := .slice (some ⟨w.heap.size, 0, none⟩) 0 0) (w' := w.alloc (.cells #[] (elemT P t))) ?_ (.ext c (Ext.alloc _ _) repV_mk_emp)
  have h0 : (Array.map (fun _ => (default : Value)) (Array.range 0)) = #[] := by apply Array.eq_empty_of_size_eq_zero; simp
  unfold execOp
  simp [ho, Instr.buildSlice, run_underlying hu, hz, Instr.fill, newRow, h0]


theorem fill_rep {place : Nat → Option (Nat × Nat)} {τ : Ty} (hd : τ.disj = true) (hpl : ∀ i o f, τ.child i = some (o, f) → place i = some (o, f.size)) {ρ : Operand → V} {ev : Operand → Value} :
    ∀ (L : List (Nat × Operand)) (x : V) (cells : Array Value), RepX Γ none [] x cells.toList → x.ty = τ → x.plain = true → (∀ p ∈ L, RepV Γ (ρ p.2) (ev p.2)) → buildOk τ x (L.map fun p => (p.1, ρ p.2)) →
    ∃ cells', Instr.fill place cells (L.map fun p => (p.1, ev p.2)) = some cells' ∧ RepX Γ none [] (buildV τ x (L.map fun p => (p.1, ρ p.2))) cells'.toList ∧ (buildV τ x (L.map fun p => (p.1, ρ p.2))).ty = τ ∧ (buildV τ x (L.map fun p => (p.1, ρ p.2))).plain = true
  | [], x, cells, hx, ht, hp, _, _ => ⟨cells, rfl, hx, ht, hp⟩
  | (i, y) :: L, x, cells, hx, ht, hp, hr, hok => by
    simp only [List.map_cons, buildOk] at hok
    obtain ⟨h1, h2, h3, h4, h6⟩ := hok
    obtain ⟨⟨o, f⟩, hc⟩ := Option.isSome_iff_exists.1 h1
    have hf := child_get hc
    rw [hf] at h2 h3 h6
    have hy := asTy_rep (τ := f) (hr (i, y) (by simp))
    obtain ⟨q1, q2⟩ := (repV_plain h3).1 hy
    have hwalk : x.ty.walk [i] = some (o, (asTy f (ρ y)).ty) := by rw [ht, h2]; simp [Ty.walk, hc]
    obtain ⟨g1, g2, _⟩ := hx.at_ hwalk h4 hp
    have hlen := q1.length h3
    rw [h2] at hlen g2
    have q3 : RepX Γ none ([] ++ [i]) (asTy f (ρ y)) (ev y).cells.toList := q1.any_home
    obtain ⟨r1, r2, r3⟩ := RepX.setAt hx hp (by rw [ht]; exact hd) hwalk h4 q3 h3
    obtain ⟨cells', e1, e2⟩ := fill_one (rest := L.map fun p => (p.1, ev p.2)) (hpl i o f hc) (by simpa using hlen) (by simpa using g2)
    simp only [List.map_cons, e2, buildV, hf]
    exact fill_rep hd hpl L _ cells' (by rw [e1]; exact r1) (by rw [r2, ht]) r3 (fun p hp' => hr p (by simp [hp'])) h6

theorem mapM_places {gs : List Field} : ∀ {places : List (Nat × Nat)} {j : Nat} {g : Field}, gs.mapM (fun f => (P.info? f.type).map fun i => (f.offset, i.size)) = some places → gs[j]? = some g → places[j]? = some (g.offset, P.cellsOf g.type) := by
  induction gs with
  | nil => intro places j g _ hj; simp at hj
  | cons g0 gs ih =>
    intro places j g h hj
    simp only [List.mapM_cons, Option.bind_eq_bind, Option.pure_def] at h
    cases hi : P.info? g0.type with
    | none => simp [hi] at h
    | some it =>
      cases hr : gs.mapM (fun f => (P.info? f.type).map fun i => (f.offset, i.size)) with
      | none => simp [hi, hr] at h
      | some rest =>
        simp [hi, hr] at h
        subst h
        cases j with
        | zero => simp at hj; subst hj; simp [Program.cellsOf, hi]
        | succ j => simpa using ih hr (by simpa using hj)


theorem mapM_some {gs : List Field} (h : ∀ g ∈ gs, g.type < P.types.size) : ∃ places, gs.mapM (fun f => (P.info? f.type).map fun i => (f.offset, i.size)) = some places := by
  induction gs with
  | nil => exact ⟨[], rfl⟩
  | cons g gs ih =>
    obtain ⟨rest, hr⟩ := ih fun g' hg' => h g' (by simp [hg'])
    have hlt := h g (by simp)
    cases hi : P.info? g.type with
    | none => simp [Tables.info?, hlt] at hi
    | some it => exact ⟨(g.offset, it.size) :: rest, by simp [List.mapM_cons, hi, hr]⟩

theorem do_build (hP : allOk P = true) {T : TypeId} {parts : Array (Nat × Operand)} {ρ : Operand → V} {ev : Operand → Value} (hz : zeroB P T = true) (hd : (ty P T).disj = true) (hs : (ty P T).isAgg = true)
    (hr : ∀ p ∈ parts.toList, RepV Γ (ρ p.2) (ev p.2)) (hok : buildOk (ty P T) (zeroX (ty P T)) (parts.toList.map fun p => (p.1, ρ p.2))) :
    ∃ v, (Instr.build T (parts.map fun p => (p.1, ev p.2))).run P w = .ok v w ∧ RepV Γ (buildV (ty P T) (zeroX (ty P T)) (parts.toList.map fun p => (p.1, ρ p.2))) v := by
  obtain ⟨it, z, hi, hzz, hzo, _⟩ := zero_of hz
  have hX : RepX Γ none [] (zeroX (ty P T)) z.cells.toList := zeroX_rep (ty P T) hzo
  have hXp := zeroX_plain (ty P T)
  cases hτ : ty P T with
  | struct sz os fs =>
    obtain ⟨gs, hu, rfl, rfl, hsz, hgs⟩ := ty_struct hP hτ
    obtain ⟨places, hpm⟩ := mapM_some (P := P) (gs := gs.toList) fun g hg => (hgs g hg).1
    have hpl : ∀ i o f, (ty P T).child i = some (o, f) → (places.toArray[i]?) = some (o, f.size) := by
      intro i o f hc
      rw [hτ] at hc
      simp only [Ty.child, List.getElem?_map] at hc
      cases hg : gs.toList[i]? with
      | none => rw [hg] at hc; simp at hc
      | some g =>
        rw [hg] at hc
        simp at hc
        obtain ⟨rfl, rfl⟩ := hc
        rw [tyF_size hP 11 g.type]
        simpa using mapM_places hpm hg
    obtain ⟨cells', e1, e2, e3, e4⟩ := fill_rep (Γ := Γ) hd hpl parts.toList (zeroX (ty P T)) z.cells hX (zeroX_ty _) hXp hr hok
    refine ⟨.agg cells', run_build w T _ cells' ?_, ?_⟩
    · simp only [Program.built, hi, hu, hzz, hpm, Array.toList_map]
      exact e1
    · rw [← hτ]
      refine (repV_plain e4).2 ⟨by simpa [Value.cells] using e2, ?_⟩
      rw [e3, hτ]; simp [isAggV, Ty.isAgg]
  | arr n e =>
    obtain ⟨E, hu, he⟩ := ty_arr hτ
    have hT : T < P.types.size := by
      rcases Nat.lt_or_ge T P.types.size with hh | hh
      · exact hh
      · unfold ty tyF at hτ; rw [if_neg (Nat.not_lt.2 hh)] at hτ; cases hτ
    have hok' := okT_of hP hT
    unfold okT at hok'
    simp only [hu] at hok'
    simp at hok'
    obtain ⟨ie, hie⟩ : ∃ i, P.info? E = some i := by
      cases hi : P.info? E with
      | none => simp [Tables.info?, hok'.2] at hi
      | some i => exact ⟨i, rfl⟩
    have hes : ie.size = e.size := by
      have := tyF_size hP 11 E
      rw [he, this]; simp [Program.cellsOf, hie]
    have hpl : ∀ i o f, (ty P T).child i = some (o, f) → (fun i => some (i * ie.size, ie.size) : Nat → Option (Nat × Nat)) i = some (o, f.size) := by
      intro i o f hc
      rw [hτ] at hc
      simp only [Ty.child] at hc
      split at hc
      · simp at hc; obtain ⟨rfl, rfl⟩ := hc; simp [hes]
      · cases hc
    obtain ⟨cells', e1, e2, e3, e4⟩ := fill_rep (Γ := Γ) hd hpl parts.toList (zeroX (ty P T)) z.cells hX (zeroX_ty _) hXp hr hok
    refine ⟨.agg cells', run_build w T _ cells' ?_, ?_⟩
    · simp only [Program.built, hi, hu, hzz, hie, Array.toList_map]
      exact e1
    · rw [← hτ]
      refine (repV_plain e4).2 ⟨by simpa [Value.cells] using e2, ?_⟩
      rw [e3, hτ]; simp [isAggV, Ty.isAgg]
  | int | bool | str | slice | ptr | map | func | iface | opq => rw [hτ] at hs; simp [Ty.isAgg] at hs

end
end Go.E


namespace Go.E
open Go

mutual
def V.sites (lv : Nat → Option Nat) : List Nat → V → List (Nat × List Nat)
  | p, .sl _ _ cs t => if lv t = some cs.length then [(t, p)] else []
  | p, .agg _ vs => V.sitess lv p 0 vs
  | _, _ => []
def V.sitess (lv : Nat → Option Nat) : List Nat → Nat → List V → List (Nat × List Nat)
  | _, _, [] => []
  | p, i, x :: xs => V.sites lv (p ++ [i]) x ++ V.sitess lv p (i + 1) xs
end
mutual
def V.homed (σ : List (Nat × List Nat)) (lv : Nat → Option Nat) : List Nat → V → V
  | p, .sl eb e cs t => if look σ t = some p ∧ lv t = some cs.length then .ts eb e cs else .d (.slice eb e) (.slice cs)
  | p, .agg τ vs => .agg τ (V.homeds σ lv p 0 vs)
  | _, x => x
def V.homeds (σ : List (Nat × List Nat)) (lv : Nat → Option Nat) : List Nat → Nat → List V → List V
  | _, _, [] => []
  | p, i, x :: xs => V.homed σ lv (p ++ [i]) x :: V.homeds σ lv p (i + 1) xs
end
theorem V.homeds_length (σ : List (Nat × List Nat)) (lv : Nat → Option Nat) : ∀ (p : List Nat) (i : Nat) (xs : List V), (V.homeds σ lv p i xs).length = xs.length
  | _, _, [] => rfl
  | p, i, x :: xs => by simp [V.homeds, V.homeds_length σ lv p (i + 1) xs]
theorem V.homed_ty (σ : List (Nat × List Nat)) (lv : Nat → Option Nat) (p : List Nat) (x : V) : (x.homed σ lv p).ty = x.ty := by
  cases x <;> simp only [V.homed] <;> (try split) <;> simp [V.ty]
theorem V.homed_plain (σ : List (Nat × List Nat)) (lv : Nat → Option Nat) (p : List Nat) (x : V) : (x.homed σ lv p).plain = x.plain := by
  cases x <;> simp only [V.homed] <;> (try split) <;> simp [V.plain]
mutual
def V.okH : V → Bool
  | .fn _ vs => V.noSls vs
  | .agg _ vs => V.okHs vs
  | .tup _ => false
  | _ => true
def V.okHs : List V → Bool
  | [] => true
  | x :: xs => x.okH && V.okHs xs
end
mutual
theorem V.homed_noSl (σ : List (Nat × List Nat)) (lv : Nat → Option Nat) : ∀ (x : V) (p : List Nat), x.okH = true → (x.homed σ lv p).noSl = true
  | .sl eb e cs t, p, _ => by simp only [V.homed]; split <;> rfl
  | .agg τ vs, p, h => by simp only [V.homed, V.noSl]; exact V.homeds_noSl σ lv vs p 0 (by simpa [V.okH] using h)
  | .fn f vs, p, h => by simpa [V.homed, V.noSl, V.okH] using h
  | .tup _, p, h => by simp [V.okH] at h
  | .d _ _, _, _ | .ts _ _ _, _, _ | .emp _ _, _, _ | .nilc, _, _ | .ptr _ _ _, _, _ | .cptr _ _, _, _ | .sr _ _ _ _ _ _ _, _, _ | .mp _, _, _ | .top _, _, _ | .any, _, _ => by simp [V.homed, V.noSl]
theorem V.homeds_noSl (σ : List (Nat × List Nat)) (lv : Nat → Option Nat) : ∀ (xs : List V) (p : List Nat) (i : Nat), V.okHs xs = true → V.noSls (V.homeds σ lv p i xs) = true
  | [], _, _, _ => rfl
  | x :: xs, p, i, h => by
    simp only [V.okHs, Bool.and_eq_true] at h
    simp only [V.homeds, V.noSls, Bool.and_eq_true]
    exact ⟨V.homed_noSl σ lv x _ h.1, V.homeds_noSl σ lv xs _ _ h.2⟩
end
def G.home (Γ : G) (k : Key) (σ : List (Nat × List Nat)) : G :=
  { Γ with κ := fun b => match Γ.κ b with
      | some (.tok t, sz) => match look σ t with
        | some p => some (.home k p, sz)
        | none => some (.tok t, sz)
      | x => x }
def deadTk (σ : List (Nat × List Nat)) : List (Nat × Option Nat) := σ.map fun x => (x.1, none)
theorem look_deadTk (σ : List (Nat × List Nat)) (tk : List (Nat × Option Nat)) (t : Nat) : look (deadTk σ ++ tk) t = match look σ t with | some _ => some none | none => look tk t := by
  induction σ with
  | nil => rfl
  | cons x σ ih =>
    obtain ⟨u, p⟩ := x
    simp only [deadTk, List.map_cons, List.cons_append, look] at ih ⊢
    split
    · rfl
    · exact ih

section
variable {P : Program} {Γ : G} {w w' : World} {s : S}
theorem Pres.home (Γ : G) (k : Key) (σ : List (Nat × List Nat)) : Pres Γ (Γ.home k σ) := ⟨Hp.le_refl _, fun _ _ h => h, fun t x L h => ⟨x, L, h, Nat.le_refl _, fun _ => rfl⟩, fun _ _ h => h⟩
mutual
theorem RepX.homed (c : Conc Γ w s) (k : Key) (σ : List (Nat × List Nat)) : ∀ (x : V) {p : List Nat} {vs : List Value}, RepX Γ none p x vs → RepX (Γ.home k σ) (some k) p (x.homed σ s.live p) vs
  | .sl eb e cs t, p, vs, h => by
    simp only [RepX] at h
    obtain ⟨a, n, cap, rfl, h2, x, L, h3, h4, h5⟩ := h
    simp only [V.homed]
    split
    · rename_i hc
      obtain ⟨hσ, hl⟩ := hc
      obtain ⟨x', h6, h7⟩ := c.tok t _ hl
      rw [h3] at h6; cases h6
      have h5 := h5 rfl
      simp only [RepX]
      refine ⟨a, n, cap, k, rfl, rfl, h2, ?_⟩
      cases x with
      | none => exact .inl h5
      | some y =>
        obtain ⟨b, pos, sz⟩ := y
        simp only at h5
        obtain ⟨⟨l, a1, a2⟩, a3⟩ := h7 b pos sz rfl
        exact .inr ⟨b, l, sz, h5.1, a1, by rw [a2]; exact h5.2.1, by simp [G.home, a3, hσ], h5.2.2⟩
    · simp only [RepX]; exact h2
  | .agg τ xs, p, vs, h => by
    simp only [RepX] at h
    simp only [V.homed, RepX]
    exact ⟨h.1, h.2.1, by rw [V.homeds_length]; exact h.2.2.1, h.2.2.2.1, RepXs.homed c k σ xs h.2.2.2.2⟩
  | .ts _ _ _, _, _, h => by
    simp only [RepX] at h
    obtain ⟨_, _, _, _, h0, _⟩ := h
    cases h0
  | .tup _, _, _, h => by simp only [RepX] at h
  | .d τ cc, _, _, h => by simp only [V.homed]; exact (RepX.pres (Pres.home Γ k σ) (hm := none) trivial _ h).any_home
  | .emp _ _, _, _, h => by simp only [V.homed]; exact (RepX.pres (Pres.home Γ k σ) (hm := none) trivial _ h).any_home
  | .nilc, _, _, h => by simp only [V.homed]; exact (RepX.pres (Pres.home Γ k σ) (hm := none) trivial _ h).any_home
  | .ptr _ _ _, _, _, h => by simp only [V.homed]; exact (RepX.pres (Pres.home Γ k σ) (hm := none) trivial _ h).any_home
  | .cptr _ _, _, _, h => by simp only [V.homed]; exact (RepX.pres (Pres.home Γ k σ) (hm := none) trivial _ h).any_home
  | .sr _ _ _ _ _ _ _, _, _, h => by simp only [V.homed]; exact (RepX.pres (Pres.home Γ k σ) (hm := none) trivial _ h).any_home
  | .mp _, _, _, h => by simp only [V.homed]; exact (RepX.pres (Pres.home Γ k σ) (hm := none) trivial _ h).any_home
  | .fn _ _, _, _, h => by simp only [V.homed]; exact (RepX.pres (Pres.home Γ k σ) (hm := none) trivial _ h).any_home
  | .top _, _, _, h => by simp only [V.homed]; exact (RepX.pres (Pres.home Γ k σ) (hm := none) trivial _ h).any_home
  | .any, _, _, _ => by simp only [V.homed, RepX]
theorem RepXs.homed (c : Conc Γ w s) (k : Key) (σ : List (Nat × List Nat)) : ∀ (xs : List V) {p : List Nat} {i : Nat} {τ : Ty} {vs : List Value}, RepXs Γ none p i τ xs vs → RepXs (Γ.home k σ) (some k) p i τ (V.homeds σ s.live p i xs) vs
  | [], _, _, _, _, _ => by simp only [V.homeds, RepXs]
  | x :: xs, _, _, _, _, h => by
    simp only [RepXs] at h
    simp only [V.homeds, RepXs, V.homed_ty]
    obtain ⟨⟨o, f, h1, h2, h3, h4⟩, h5⟩ := h
    exact ⟨⟨o, f, h1, h2, h3, RepX.homed c k σ x h4⟩, RepXs.homed c k σ xs h5⟩
end
theorem Conc.home (c : Conc Γ w s) (k : Key) (σ : List (Nat × List Nat)) : Conc (Γ.home k σ) w { s with tk := deadTk σ ++ s.tk } ∧ GLe Γ (Γ.home k σ) := by
  refine ⟨?_, ⟨Hp.le_refl _, rfl, fun _ _ => rfl, fun _ _ h => h, rfl, rfl, fun _ _ h => h, fun _ h => h⟩⟩
  have hlive : ∀ t L, S.live { s with tk := deadTk σ ++ s.tk } t = some L → look σ t = none ∧ s.live t = some L := by
    intro t L h
    unfold S.live liveT at h
    simp only [look_deadTk] at h
    cases hs : look σ t with
    | some p => simp [hs] at h
    | none => rw [hs] at h; exact ⟨rfl, h⟩
  refine c.change (Pres.home Γ k σ) rfl rfl rfl rfl c.hH (fun _ _ => rfl) (fun b o sz h => ?_) (fun j o h => ?_) (fun _ h _ => h) c.dom c.hσ c.inj (fun t L h => ?_) (fun t h => ?_) (Nat.le_refl _)
  · simp only [G.home] at h
    cases hk : Γ.κ b with
    | none => simp [hk] at h
    | some y =>
      obtain ⟨o', sz'⟩ := y
      have : sz' = sz := by
        cases o' with
        | home => simp [hk] at h; exact h.2
        | tok t => simp only [hk] at h; split at h <;> simp at h <;> exact h.2
      subst this
      obtain ⟨a1, a2, arr, T, a3, a4, a5⟩ := c.hκ b o' sz' hk
      refine ⟨a1, a2, arr, T, a3, a4, ?_⟩
      cases o' with
      | home => simp [hk] at h; rw [← h]; exact a5
      | tok t => simp only [hk] at h; split at h <;> simp at h <;> rw [← h] <;> trivial
  · refine .inl ⟨h, fun hd => ⟨fun b p sz hb => ⟨by simp [G.home, hb], rfl⟩, fun b τ hb => ?_⟩⟩
    obtain ⟨a1, _⟩ := c.ιlive hb h hd
    exact ⟨rfl, a1⟩
  · obtain ⟨h1, h2⟩ := hlive t L h
    obtain ⟨x, h3, h4⟩ := c.tok t L h2
    refine ⟨x, h3, fun b pos sz hx => ?_⟩
    obtain ⟨a1, a2⟩ := h4 b pos sz hx
    exact ⟨a1, by simp [G.home, a2, h1]⟩
  · have := c.tdom t h
    unfold S.known at this ⊢
    rw [look_deadTk]
    split
    · rfl
    · exact this

theorem new_boxH (c : Conc Γ w s) {n : Nat} (hn : s.obj (.l n) = none) {x : V} {cells : Array Value} {T : TypeId} (he : Ext w w') (hw : w'.heap[w.heap.size]? = some (.cells cells T (0, 0))) (hsz : x.ty.size ≤ cells.size)
    (hx : RepX Γ none [] x (chunk cells.toList 0 x.ty.size)) (hp : x.plain = true) (hok : x.okH = true) :
    Post Γ w { s with loc := (.l n, .box (x.homed (x.sites s.live []) s.live [])) :: s.loc, tk := deadTk (x.sites s.live []) ++ s.tk } (.ptr (.l n) [] x.ty) (.pointer (some ⟨w.heap.size, 0, none⟩)) w' := by
  obtain ⟨c0, g0⟩ := c.home (.l n) (x.sites s.live [])
  have p0 := Pres.home Γ (.l n) (x.sites s.live [])
  have hx' := hx.homed c (.l n) (x.sites s.live [])
  obtain ⟨h1, h2, h3⟩ := c0.addKey (k := .l n) hn he (τ := x.ty) (o := .box (x.homed (x.sites s.live []) s.live [])) fun Γ' hpr hkh hι hH hZ =>
    ⟨_, cells, T, by rw [V.homed_ty]; exact hι, hH, hZ, hw, by rw [V.homed_ty]; exact hsz, by rw [V.homed_ty]; exact hx'.pres hpr hkh, by rw [V.homed_plain]; exact hp, V.homed_noSl _ _ _ _ hok⟩
  exact ⟨_, g0.trans h3, p0.trans h2, h1, repV_mk_ptr (τ0 := x.ty) (by simp [G.addKey, updK]) rfl⟩

theorem do_boxH (c : Conc Γ w s) {o : Oper} {a : Act} {T : TypeId} {x : Operand} {n : Nat} {y : V} (ho : o.op = .box T x) (hn : s.obj (.l n) = none) (hr : RepV Γ y (a.eval x)) (hpl : y.plain = true) (hok : y.okH = true) :
    Does P o a w (Post Γ w { s with loc := (.l n, .box (y.homed (y.sites s.live []) s.live [])) :: s.loc, tk := deadTk (y.sites s.live []) ++ s.tk } (.ptr (.l n) [] y.ty)) := by
  obtain ⟨h1, _⟩ := (repV_plain hpl).1 hr
  have hlen := h1.length hpl
  have hb := new_boxH c hn (T := T) (x := y) (cells := (a.eval x).cells) (Ext.alloc w _) (heap_alloc_new w (.cells (a.eval x).cells T)) (by rw [← hlen]; simp) (by rw [← hlen, chunk_all]; exact h1) hpl hok
  refine Does.val (v := .pointer (some ⟨w.heap.size, 0, none⟩)) (w' := w.alloc (.cells (a.eval x).cells T)) ?_ hb
  unfold execOp
  simp only [ho, Instr.box]
  simp [newVar, newRow]

theorem noSls_set : ∀ {xs : List V} {i : Nat} {y : V}, V.noSls xs = true → y.noSl = true → V.noSls (xs.set i y) = true
  | [], _, _, _, _ => rfl
  | x :: xs, 0, y, h, hy => by simp [V.noSls] at h ⊢; exact ⟨hy, h.2⟩
  | x :: xs, i + 1, y, h, hy => by simp [V.noSls] at h ⊢; exact ⟨h.1, noSls_set h.2 hy⟩
theorem noSls_expand (c : C) : ∀ (j : Nat) (fs : List Ty), V.noSls (expandFrom c j fs) = true
  | _, [] => rfl
  | j, f :: fs => by simp [expandFrom, V.noSls, V.noSl, noSls_expand c (j + 1) fs]
theorem V.noSl_set : ∀ (x : V) (i : Nat) (y : V), x.noSl = true → y.noSl = true → (x.set i y).noSl = true
  | .d τ c, i, y, _, hy => by
    cases y <;> simp only [V.set] <;> first | rfl | (simp only [V.noSl]; exact noSls_set (noSls_expand _ _ _) hy)
  | .agg τ vs, i, y, hx, hy => by simp only [V.set, V.noSl]; exact noSls_set (by simpa [V.noSl] using hx) hy
  | .sl _ _ _ _, _, _, h, _ => by simp [V.noSl] at h
  | .ts _ _ _, _, _, _, _ | .emp _ _, _, _, _, _ | .nilc, _, _, _, _ | .ptr _ _ _, _, _, _, _ | .cptr _ _, _, _, _, _ | .sr _ _ _ _ _ _ _, _, _, _, _ | .mp _, _, _, _, _ | .fn _ _, _, _, _, _ | .tup _, _, _, _, _ | .top _, _, _, _, _ | .any, _, _, _, _ => by simp [V.set, V.noSl]
theorem noSls_get : ∀ {xs : List V} {i : Nat} {x : V}, V.noSls xs = true → xs[i]? = some x → x.noSl = true
  | [], _, _, _, h => by simp at h
  | y :: ys, 0, x, h, hx => by simp [V.noSls] at h; simp at hx; subst hx; exact h.1
  | y :: ys, i + 1, x, h, hx => by simp [V.noSls] at h; exact noSls_get h.2 (by simpa using hx)
theorem V.noSl_get {x : V} (h : x.noSl = true) (i : Nat) : (x.get i).noSl = true := by
  cases x <;> simp only [V.get] <;> (try rfl)
  case agg τ vs =>
    cases hi : vs[i]? with
    | none => simp [List.getD, hi, V.noSl]
    | some y => simp [List.getD, hi]; exact noSls_get (by simpa [V.noSl] using h) hi
theorem V.noSl_setAt : ∀ (q : List Nat) (x y : V), x.noSl = true → y.noSl = true → (x.setAt q y).noSl = true
  | [], _, _, _, hy => hy
  | i :: q, x, y, hx, hy => by simp only [V.setAt]; exact V.noSl_set x i _ hx (V.noSl_setAt q _ y (V.noSl_get hx i) hy)
theorem Conc.noSl (c : Conc Γ w s) {k : Key} {x : V} {y : Nat × Ty} (hι : Γ.ι k = some y) (h : s.obj k = some (.box x)) : x.noSl = true := by
  obtain ⟨_, _, _, _, _, _, _, _, _, _, h⟩ := c.own hι h
  exact h

theorem do_storeH (hP : allOk P = true) (c : Conc Γ w s) {o : Oper} {a : Act} {T : TypeId} {p y : Operand} {k : Key} {q : List Nat} {τ : Ty} {x Y : V}
    (ho : o.op = .store T p y) (hr : RepV Γ (.ptr k q τ) (a.eval p)) (hy : RepV Γ Y (a.eval y)) (hobj : s.obj k = some (.box x))
    (ht : τ = ty P T) (hk : τ.known = true) (hY : (asTy τ Y).ty = τ) (hYp : (asTy τ Y).plain = true) (hne : x.at q ≠ .any) (hd : x.ty.disj = true) (hok : (asTy τ Y).okH = true) :
    Does P o a w (Post Γ w { s with loc := (k, .box (x.setAt q ((asTy τ Y).homed ((asTy τ Y).sites s.live q) s.live q))) :: s.loc, tk := deadTk ((asTy τ Y).sites s.live q) ++ s.tk } .any) := by
  obtain ⟨c0, g0⟩ := c.home k ((asTy τ Y).sites s.live q)
  have p0 := Pres.home Γ k ((asTy τ Y).sites s.live q)
  obtain ⟨b, τ0, off, h1, h2, hpv⟩ := repV_ptr (hr.pres p0)
  obtain ⟨b2, cells, E, e1, e2, e3, e4, e5, e6, e7, e8⟩ := c0.own h1 hobj
  rw [h1] at e1
  cases e1
  obtain ⟨g1, g2, _⟩ := e6.at_ h2 hne e7
  have hcl : (chunk cells.toList 0 x.ty.size).length = x.ty.size := chunk_length _ _ _ (by simpa using e5)
  rw [hcl] at g2
  have hy' := asTy_rep (τ := τ) hy
  obtain ⟨q1, q2⟩ := (repV_plain hYp).1 hy'
  have hlen := q1.length hYp
  rw [hY] at hlen
  have q3 := (q1.any_home (hm := none) (p' := q)).homed c k ((asTy τ Y).sites s.live q)
  obtain ⟨r1, r2, r3⟩ := RepX.setAt (q := q) (p := []) (y := (asTy τ Y).homed ((asTy τ Y).sites s.live q) s.live q) e6 e7 hd (by rw [V.homed_ty, hY]; exact h2) hne q3 (by rw [V.homed_plain]; exact hYp)
  have hrun := run_storeVar (w := w) (T := T) (τ := τ) (v := a.eval y) (off := off) hP ht.symm hk e4 (by omega) hlen (q1.one hYp)
  have hlc : off + (a.eval y).cells.toList.length ≤ cells.toList.length := by rw [hlen]; simp; omega
  have hs2 : (splice cells.toList off (a.eval y).cells.toList).toArray.size = cells.size := by simp only [List.size_toArray, splice_length hlc]; simp
  have c' := c0.write (x' := x.setAt q ((asTy τ Y).homed ((asTy τ Y).sites s.live q) s.live q)) (cells' := (splice cells.toList off (a.eval y).cells.toList).toArray) (w' := w.setRow b (splice cells.toList off (a.eval y).cells.toList).toArray) hobj h1
    (setRow_heap w b cells _ E (0, 0) e4) (fun b' hb' => setRow_other w b b' _ hb') rfl (by rw [r2, hs2]; exact e5)
    (by rw [r2, List.toList_toArray, splice_chunk0 _ _ (by rw [hlen]; exact g2) (by simpa using e5)]; exact r1) r2 r3 (V.noSl_setAt q x _ (c0.noSl h1 hobj) (V.homed_noSl _ _ _ _ hok)) (fun arr T fr h => by rw [e4] at h; cases h; exact hs2)
  refine Does.skip (w' := w.setRow b (splice cells.toList off (a.eval y).cells.toList).toArray) ?_ ⟨_, g0, p0, c', by simp [RepV]⟩
  unfold execOp
  simp [ho, Instr.storeAt, hpv, Instr.sureAddr, hrun]

def V.notTs : V → Bool
  | .ts _ _ _ => false
  | _ => true
mutual
theorem RepX.presBut {Γ Γ' : G} (hp : Pres Γ Γ') {k : Key} {q : List Nat} (hk : ∀ b p sz, Γ.κ b = some (.home k p, sz) → p ≠ q → Γ'.κ b = Γ.κ b ∧ Γ'.H b = Γ.H b) :
    ∀ (x : V) {p : List Nat} {vs : List Value}, (∀ r, p ++ r = q → (x.at r).notTs = true) → RepX Γ (some k) p x vs → RepX Γ' (some k) p x vs
  | .ts eb e cs, p, _, hn, h => by
    simp only [RepX] at h ⊢
    obtain ⟨a, n, cap, k', h0, h1, h2, h3⟩ := h
    cases h0
    refine ⟨a, n, cap, k, rfl, h1, h2.mono hp.H, ?_⟩
    have hpq : p ≠ q := by
      intro e
      have := hn [] (by simpa using e)
      simp [V.at, V.notTs] at this
    rcases h3 with h3 | ⟨b, l, sz, a1, a2, a3, a4, a5⟩
    · exact .inl h3
    · obtain ⟨e1, e2⟩ := hk b p sz a4 (fun e => hpq (by injection e))
      exact .inr ⟨b, l, sz, a1, by rw [e2, a2], a3, by rw [e1, a4], a5⟩
  | .agg τ xs, p, vs, hn, h => by
    simp only [RepX] at h ⊢
    refine ⟨h.1, h.2.1, h.2.2.1, h.2.2.2.1, RepXs.presBut hp hk xs (fun i r hr => ?_) h.2.2.2.2⟩
    have := hn (i :: r) (by simpa using hr)
    simp only [V.at, V.get] at this
    simpa using this
  | .d _ _, _, _, _, h => by simp only [RepX] at h ⊢; exact h.mono hp.H
  | .sl eb e cs t, _, _, _, h => by
    simp only [RepX] at h ⊢
    obtain ⟨a, n, cap, h1, h2, h3⟩ := h
    exact ⟨a, n, cap, h1, h2.mono hp.H, h3.pres hp⟩
  | .emp _ _, _, _, _, h => by simpa only [RepX] using h
  | .nilc, _, _, _, h => by simpa only [RepX] using h
  | .ptr k q τ, _, _, _, h => by
    simp only [RepX] at h ⊢
    obtain ⟨b, τ0, o, h1, h2⟩ := h
    exact ⟨b, τ0, o, hp.ι _ _ h1, h2⟩
  | .cptr τ c, _, _, _, h => by
    simp only [RepX] at h ⊢
    obtain ⟨b, off, l, h1, h2, h3, h4⟩ := h
    obtain ⟨l', a1, a2, a3⟩ := cptr_pres hp.H h2 h3 h4
    exact ⟨b, off, l', h1, a1, a2, a3⟩
  | .sr _ _ _ _ _ _ _, _, _, _, h => by
    simp only [RepX] at h ⊢
    rcases h with h | ⟨b, τ0, o, m, cap, h1, h2, h3, h4, h5, h6, h7, h8, h9⟩
    · exact .inl h
    exact .inr ⟨b, τ0, o, m, cap, hp.ι _ _ h1, h2, h3, h4, h5, h6, h7, h8, fun e => (h9 e).imp id fun ⟨sz, a1, a2⟩ => ⟨sz, hp.σ _ _ a1, a2⟩⟩
  | .mp _, _, _, _, h => by
    simp only [RepX] at h ⊢
    obtain ⟨b, h1, h2⟩ := h
    exact ⟨b, hp.ι _ _ h1, h2⟩
  | .fn f caps, _, _, _, h => by
    simp only [RepX] at h ⊢
    obtain ⟨cv, h1, h2⟩ := h
    exact ⟨cv, h1, RepCaps.pres hp caps h2⟩
  | .tup _, _, _, _, h => by simp only [RepX] at h
  | .top _, _, _, _, h => by simpa only [RepX] using h
  | .any, _, _, _, _ => by simp only [RepX]
theorem RepXs.presBut {Γ Γ' : G} (hp : Pres Γ Γ') {k : Key} {q : List Nat} (hk : ∀ b p sz, Γ.κ b = some (.home k p, sz) → p ≠ q → Γ'.κ b = Γ.κ b ∧ Γ'.H b = Γ.H b) :
    ∀ (xs : List V) {p : List Nat} {i : Nat} {τ : Ty} {vs : List Value}, (∀ j r, p ++ [i + j] ++ r = q → ((xs.getD j .any).at r).notTs = true) → RepXs Γ (some k) p i τ xs vs → RepXs Γ' (some k) p i τ xs vs
  | [], _, _, _, _, _, _ => by simp only [RepXs]
  | x :: xs, p, i, τ, vs, hn, h => by
    simp only [RepXs] at h ⊢
    obtain ⟨⟨o, f, h1, h2, h3, h4⟩, h5⟩ := h
    refine ⟨⟨o, f, h1, h2, h3, RepX.presBut hp hk x (fun r hr => ?_) h4⟩, RepXs.presBut hp hk xs (fun j r hr => ?_) h5⟩
    · have := hn 0 r (by simpa using hr)
      simpa using this
    · have := hn (j + 1) r (by rw [show i + (j + 1) = i + 1 + j by omega]; exact hr)
      simpa using this
end
theorem V.at_setAt_d : ∀ (q : List Nat) (x : V) {τ : Ty} {c : C}, (∃ eb e cs, x.at q = .ts eb e cs) → (x.setAt q (.d τ c)).at q = .d τ c
  | [], _, _, _, _ => rfl
  | i :: q, x, τ, c, hx => by
    obtain ⟨eb, e, cs, hx⟩ := hx
    simp only [V.at] at hx
    have ih := V.at_setAt_d q (x.get i) (τ := τ) (c := c) ⟨eb, e, cs, hx⟩
    cases x <;> (try (simp only [V.get, V.at_any] at hx; cases hx; done))
    case d τ' c' =>
      exfalso
      have : ∀ (q : List Nat) (τ : Ty) (c : C), ∃ τ' c', (V.d τ c).at q = .d τ' c' := by
        intro q
        induction q with
        | nil => intro τ c; exact ⟨τ, c, rfl⟩
        | cons j q ih => intro τ c; simp only [V.at, V.get]; exact ih _ _
      obtain ⟨_, _, h⟩ := this q (τ'.get i) (c'.get i)
      simp only [V.get] at hx
      rw [h] at hx; cases hx
    case agg τ' vs =>
      have hlt : i < vs.length := by
        rcases Nat.lt_or_ge i vs.length with h | h
        · exact h
        · simp [V.get, List.getD, List.getElem?_eq_none h, V.at_any] at hx
      simp only [V.setAt, V.set, V.at]
      have : (V.agg τ' (vs.set i ((V.agg τ' vs).get i |>.setAt q (.d τ c)))).get i = ((V.agg τ' vs).get i).setAt q (.d τ c) := by
        simp [V.get, List.getD, hlt]
      rw [this]; exact ih
theorem Conc.take (c : Conc Γ w s) {k : Key} {q : List Nat} {x : V} {eb : Nat} {e : Ty} {cs : List C} {t b : Nat} {τ0 : Ty} {o0 : Nat} (ho : s.obj k = some (.box x)) (hx : x.at q = .ts eb e cs) (hd : x.ty.disj = true) (ht : s.known t = false)
    (hι : Γ.ι k = some (b, τ0)) (hw : τ0.walk q = some (o0, .slice eb e)) {a : Option Addr} {n cap : Nat} (hcell : w.cell? ⟨b, o0, none⟩ = some (.slice a n cap)) :
    ∃ Γ', GLe Γ Γ' ∧ Pres Γ Γ' ∧ Conc Γ' w { s with loc := (k, .box (x.setAt q (.d (.slice eb e) (.slice cs)))) :: s.loc, tk := (t, some cs.length) :: s.tk } ∧ RepV Γ' (.sl eb e cs t) (.slice a n cap) := by
  obtain ⟨b2, cells, E, e1, e2, e3, e4, e5, e6, e7, e8⟩ := c.own hι ho
  rw [hι] at e1
  cases e1
  obtain ⟨g1, g2, g3⟩ := e6.at_ hw (by rw [hx]; simp) e7
  have hcl : (chunk cells.toList 0 x.ty.size).length = x.ty.size := chunk_length _ _ _ (by simpa using e5)
  rw [hcl] at g2
  simp only [Ty.size] at g2 g3
  have hch : chunk (chunk cells.toList 0 x.ty.size) o0 1 = chunk cells.toList o0 1 := by rw [chunk_chunk _ _ _ _ _ (by omega), Nat.zero_add]
  have hce : chunk cells.toList o0 1 = [.slice a n cap] := by
    apply List.ext_getElem?
    intro j
    rw [chunk_getElem?]
    by_cases hj : j < 1
    · have : j = 0 := by omega
      subst this
      simp [World.cell?, e4] at hcell
      simpa using hcell
    · simp [hj]
  rw [hch, hce, hx] at g3
  simp only [RepX] at g3
  obtain ⟨a', n', cap', k', hk', hv, hrc, htip⟩ := g3
  simp at hk' hv
  subst hk'
  obtain ⟨rfl, rfl, rfl⟩ := hv
  have hself : splice (chunk cells.toList 0 x.ty.size) o0 [.slice a n cap] = chunk cells.toList 0 x.ty.size := by
    apply List.ext_getElem?
    intro j
    rw [splice_get (by simp; omega)]
    split
    · rename_i hj
      simp at hj
      have : j = o0 := by omega
      subst this
      have h0 : (chunk (chunk cells.toList 0 x.ty.size) j 1)[0]? = some (.slice a n cap) := by rw [hch, hce]; rfl
      rw [chunk_getElem?] at h0
      simp at h0 ⊢
      exact h0.symm
    · rfl
  have hw' : x.ty.walk q = some (o0, (V.d (.slice eb e) (.slice cs)).ty) := hw
  obtain ⟨r1, r2, r3⟩ := RepX.setAt (p := []) (ws := [.slice a n cap]) (y := .d (.slice eb e) (.slice cs)) e6 e7 hd hw' (by rw [hx]; simp) (by simpa only [RepX] using hrc) rfl
  rw [hself] at r1
  have hns : (x.setAt q (.d (.slice eb e) (.slice cs))).noSl = true := V.noSl_setAt q x _ e8 rfl
  -- the object as it is then, first under the old ghost
  have c1 : Conc Γ w { s with loc := (k, .box (x.setAt q (.d (.slice eb e) (.slice cs)))) :: s.loc } :=
    c.write ho hι e4 (fun _ _ => rfl) rfl (by rw [r2]; exact e5) (by rw [r2]; exact r1) r2 r3 hns (fun arr T fr h => by rw [e4] at h; cases h; rfl)
  obtain ⟨_, n1, cap1, f1, _, f2, f3, f4, f5, f6⟩ := repC_slice hrc
  simp at f1
  obtain ⟨rfl, rfl, rfl⟩ := f1
  simp only [C.elems] at f2
  rcases htip with htip | ⟨b1, l, sz, rfl, h1, h2, h3, h4⟩
  · obtain ⟨c2, p2, g2'⟩ := c1.addTok (t := t) (x := none) (L := cs.length) ht (fun _ _ _ h => by cases h)
    refine ⟨_, g2', p2, c2, (repV_one rfl rfl).2 ⟨?_, rfl⟩⟩
    simp only [RepX]
    exact ⟨a, n, cap, rfl, hrc, none, cs.length, updN_same _ _ _, Nat.le_refl _, fun _ => htip⟩
  · have hτ : Γ.τ t = none := c.τ_none ht
    obtain ⟨z1, z2, arr, T, z3, z4, _⟩ := c.hκ b1 _ _ h3
    have hp : Pres Γ { Γ with τ := updN Γ.τ t (some (b1, l.length, sz), cs.length), κ := updN Γ.κ b1 (.tok t, sz) } :=
      ⟨Hp.le_refl _, fun _ _ h => h, fun u y M h => by
        have : u ≠ t := by intro e; subst e; rw [hτ] at h; cases h
        exact ⟨y, M, (updN_ne _ _ this).trans h, Nat.le_refl _, fun _ => rfl⟩, fun _ _ h => h⟩
    have hne : ∀ b' o', Γ.κ b' = some o' → b' ≠ b1 → updN Γ.κ b1 (.tok t, sz) b' = some o' := fun b' o' h hb => (updN_ne _ _ hb).trans h
    refine ⟨{ Γ with τ := updN Γ.τ t (some (b1, l.length, sz), cs.length), κ := updN Γ.κ b1 (.tok t, sz) }, ⟨Hp.le_refl _, rfl, fun _ _ => rfl, fun _ _ h => h, rfl, rfl, fun _ _ h => h, fun _ h => h⟩, hp, ?_, (repV_one rfl rfl).2 ⟨?_, rfl⟩⟩
    · refine c1.change hp rfl rfl rfl rfl c.hH (fun _ _ => rfl) (fun b' o' sz' h => ?_) (fun j o' h => ?_) (fun _ h _ => h) c1.dom c.hσ c1.inj (fun u M h => ?_) (fun u h => ?_) (Nat.le_refl _)
      · by_cases e : b' = b1
        · subst e
          have h' : sz = sz' := by have := h; simp [updN] at this; exact this.2
          subst h'
          exact ⟨z1, z2, arr, T, z3, z4, by have := h; simp [updN] at this; rw [← this]; trivial⟩
        · exact c.hκ b' o' sz' ((updN_ne _ _ e).symm.trans h)
      · have h' : S.obj { s with loc := (k, .box (x.setAt q (.d (.slice eb e) (.slice cs)))) :: s.loc } j = some o' := h
        by_cases hj : k = j
        · subst hj
          rw [obj_cons, if_pos rfl] at h'
          cases h'
          refine .inr ⟨b, cells, E, by rw [r2]; exact hι, e2, e3, e4, by rw [r2]; exact e5, ?_, r3, hns⟩
          rw [r2]
          refine RepX.presBut (q := q) hp (fun b' p sz' hb hpq => ?_) _ (fun r hr => ?_) r1
          · have : b' ≠ b1 := by
              intro e; subst e; rw [h3] at hb; simp at hb; exact hpq hb.1.symm
            exact ⟨(hne b' _ hb this).trans hb.symm, rfl⟩
          · rw [List.nil_append] at hr
            subst hr
            have : (x.setAt r (.d (.slice eb e) (.slice cs))).at r = .d (.slice eb e) (.slice cs) := V.at_setAt_d r x ⟨_, _, _, hx⟩
            rw [this]; rfl
        · refine .inl ⟨h', fun hd => ⟨fun b' p sz' hb => ?_, fun b' τ hb => ?_⟩⟩
          · have : b' ≠ b1 := by
              intro e; subst e; rw [h3] at hb; simp at hb; exact hj hb.1.1
            exact ⟨(hne b' _ hb this).trans hb.symm, rfl⟩
          · obtain ⟨a1, _⟩ := c1.ιlive hb h' hd
            exact ⟨rfl, a1⟩
      · have h9 : (if t = u then some cs.length else s.live u) = some M := (live_cons { s with loc := (k, .box (x.setAt q (.d (.slice eb e) (.slice cs)))) :: s.loc } t u (some cs.length)).symm.trans h
        clear h
        split at h9
        · rename_i e
          subst e; cases h9
          refine ⟨_, updN_same _ _ _, fun b' pos sz' e => ?_⟩
          cases e
          exact ⟨⟨l, h1, rfl⟩, updN_same _ _ _⟩
        · rename_i e
          have e' : u ≠ t := fun h' => e h'.symm
          obtain ⟨y, a1, a2⟩ := c.tok u M h9
          refine ⟨y, (updN_ne _ _ e').trans a1, fun b' pos sz' hy => ?_⟩
          obtain ⟨a3, a4⟩ := a2 b' pos sz' hy
          exact ⟨a3, hne b' _ a4 (fun e => by subst e; rw [h3] at a4; cases a4)⟩
      · refine (known_cons { s with loc := (k, .box (x.setAt q (.d (.slice eb e) (.slice cs)))) :: s.loc } t u (some cs.length)).trans ?_
        by_cases e : t = u
        · simp [e]
        · have e' : u ≠ t := fun h' => e h'.symm
          simp only [e, decide_false, Bool.false_or]
          refine c.tdom u ?_
          simpa [updN, e'] using h
    · simp only [RepX]
      exact ⟨_, n, cap, rfl, hrc, _, _, updN_same _ _ _, Nat.le_refl _, fun _ => ⟨rfl, h2, h4⟩⟩
end
end Go.E

