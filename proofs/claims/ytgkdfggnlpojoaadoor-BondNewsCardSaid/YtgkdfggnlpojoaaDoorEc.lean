/-
  A framework for runs of Go code over abstract data: what it needs, and that it is sound, part 3.
  Conditions: none.
-/
import Derived.Test.YtgkdfggnlpojoaaDoorEb
import Derived.ScopeJumps
import Derived.ProofKit
import Derived.LaidMore
import Derived.OpenShut
import Derived.Stop.Joined
import Derived.ChangeStays
import Derived.Deep.DeepHandedRow
import Derived.Lib.LaidTab
import Derived.LoopN
set_option linter.all false
namespace Go.E
open Go

def depsOf (o : Oper) : List Nat := (o.after.toList.filter (Region.binds .any)).map (·.on)
def maskOf (acc : List Nat) (ds : List Nat) : Nat := ds.foldl (fun m k => m ||| 2 ^ k ||| acc.getD k 0) 0
def ancs : List Oper → List Nat → List Nat
  | [], acc => acc
  | o :: rest, acc => ancs rest (acc ++ [maskOf acc (depsOf o)])
def ancB (ops : List Oper) (j i : Nat) : Bool := ((ancs ops []).getD i 0).testBit j

theorem testBit_fold (acc : List Nat) (j : Nat) : ∀ (ds : List Nat) (m : Nat), (ds.foldl (fun m k => m ||| 2 ^ k ||| acc.getD k 0) m).testBit j = true → m.testBit j = true ∨ ∃ k ∈ ds, j = k ∨ (acc.getD k 0).testBit j = true
  | [], m, h => .inl h
  | k :: ds, m, h => by
    rcases testBit_fold acc j ds _ h with h1 | ⟨k', hk, h1⟩
    · simp only [Nat.testBit_or, Bool.or_eq_true, Nat.testBit_two_pow, decide_eq_true_eq] at h1
      rcases h1 with (h1 | h1) | h1
      · exact .inl h1
      · exact .inr ⟨k, by simp, .inl h1.symm⟩
      · exact .inr ⟨k, by simp, .inr h1⟩
    · exact .inr ⟨k', by simp [hk], h1⟩

theorem mem_depsOf {ops : List Oper} {i k : Nat} {o : Oper} (ho : ops[i]? = some o) (h : k ∈ depsOf o) : dep ops i k := by
  simp only [depsOf, List.mem_map, List.mem_filter] at h
  obtain ⟨e, ⟨h1, h2⟩, h3⟩ := h
  exact ⟨o, ho, e, by simpa using h1, h2, h3⟩
theorem depsOf_mem {ops : List Oper} {i k : Nat} {o : Oper} (ho : ops[i]? = some o) (h : dep ops i k) : k ∈ depsOf o := by
  obtain ⟨o', h1, e, h2, h3, h4⟩ := h
  rw [ho] at h1; cases h1
  simp only [depsOf, List.mem_map, List.mem_filter]
  exact ⟨e, ⟨by simpa using h2, h3⟩, h4⟩

theorem ancs_sound (ops : List Oper) : ∀ (rest done : List Oper) (acc : List Nat), ops = done ++ rest → acc.length = done.length → (∀ i j, (acc.getD i 0).testBit j = true → Anc ops j i) →
    ∀ i j, ((ancs rest acc).getD i 0).testBit j = true → Anc ops j i
  | [], _, acc, _, _, h => h
  | o :: rest, done, acc, he, hl, h => by
    refine ancs_sound ops rest (done ++ [o]) _ (by simp [he]) (by simp [hl]) ?_
    intro i j hij
    have ho : ops[acc.length]? = some o := by rw [he, hl]; simp
    simp only [List.getD_eq_getElem?_getD] at hij
    by_cases hi : i < acc.length
    · rw [List.getElem?_append_left hi] at hij
      exact h i j (by simpa [List.getD_eq_getElem?_getD] using hij)
    · by_cases hi2 : i = acc.length
      · subst hi2
        simp only [List.getElem?_concat_length, Option.getD_some] at hij
        rcases testBit_fold acc j _ _ hij with h1 | ⟨k, hk, h1⟩
        · simp at h1
        · have hd := mem_depsOf ho hk
          rcases h1 with rfl | h1
          · exact .one hd
          · exact .step hd (h k j h1)
      · rw [List.getElem?_eq_none (by simp; omega)] at hij
        simp at hij
theorem ancB_sound {ops : List Oper} {j i : Nat} (h : ancB ops j i = true) : Anc ops j i :=
  ancs_sound ops ops [] [] rfl rfl (fun i j h => by simp at h) i j h

def tmpsOf : List Operand → List Nat
  | [] => []
  | .tmp t :: l => t :: tmpsOf l
  | _ :: l => tmpsOf l
def lk (ops : Array Oper) (o : Oper) : List Nat :=
  tmpsOf o.op.operands.toList ++ (match o.guard with
    | some (g, _) => (match gslot ops g with | some t => [t] | none => [])
    | none => [])
theorem mem_tmpsOf {t : Nat} : ∀ {l : List Operand}, Operand.tmp t ∈ l → t ∈ tmpsOf l
  | [], h => by simp at h
  | y :: l, h => by
    rcases List.mem_cons.1 h with h1 | h1
    · subst h1; simp [tmpsOf]
    · have := mem_tmpsOf h1
      cases y <;> simp [tmpsOf, this]
theorem mem_lk {ops : Array Oper} {o : Oper} {t : Nat} (h : t ∈ o.looksAt ops) : t ∈ lk ops o := by
  simp only [Oper.looksAt, List.mem_append, List.mem_filterMap] at h
  simp only [lk, List.mem_append]
  rcases h with ⟨y, hy, ht⟩ | h
  · left
    cases y <;> simp at ht
    subst ht
    exact mem_tmpsOf hy
  · right
    cases hg : o.guard with
    | none => simp [hg] at h
    | some x =>
      obtain ⟨g, b⟩ := x
      simp only [hg] at h ⊢
      simp only [gslot]
      cases hs : (ops[g]?).bind (·.dst) with
      | none => simp [hs] at h
      | some t' => simpa [hs] using h

/-- The orders that a drawn region leaves open, by the operations' kinds. -/
def ordB (ops : List Oper) (ts : List Nat) : Bool :=
  let m := ancs ops []
  let anc := fun j i => (m.getD i 0).testBit j
  let ix := List.range ops.length
  let both := fun i j => (decide (j < i) && anc j i) || (decide (i < j) && anc i j)
  (ix.all fun i => match ops[i]? with | some o => (depsOf o).all fun k => decide (k < i) | none => true) &&
  (ix.all fun i => ts.getD i 0 != 2 || ix.all fun j => ts.getD j 0 == 0 || j == i || both i j) &&
  (ix.all fun j => match (ops[j]?).bind (·.dst) with
    | none => true
    | some t => ix.all fun i => j == i || ((match (ops[i]?).bind (·.dst) with | some t' => t' != t | none => true) &&
        (match ops[i]? with | some o => !(lk ops.toArray o).contains t || both i j | none => true)))

def s00 : S := ⟨[], [], fun _ => none, []⟩
theorem s00_obj (k : Key) : s00.obj k = none := by cases k <;> rfl
/-- An operation of a given kind: 0: it neither reads nor writes what may change, and makes nothing that has a name. -/
noncomputable def kop (X : Cx) (md : List (Nat × Nat)) (k : Option Nat) (base s : S) (o : Oper) (K0 : V → Prop) (K1 : V → List (Key × O) → List (Nat × Option Nat) → Prop) (K2 : V → S → Prop) : Prop :=
  match k with
  | some 0 => iop X md s00 (dstN o) o (evalA X.gl s) s00 fun v lo tn => lo = [] ∧ tn = [] ∧ K0 v
  | some 1 => iop X md base (dstN o) o (evalA X.gl s) s K1
  | some 2 => top X md (dstN o) o (evalA X.gl s) s K2
  | _ => False
/-- What a region must meet that draws its order: kinds as ts says. -/
noncomputable def vd (X : Cx) (md : List (Nat × Nat)) (ops : Array Oper) (Φ : S → Prop) : List Oper → List Nat → S → S → Prop
  | [], _, _, s => Φ s
  | o :: rest, ts, base, s =>
    match o.guard with
    | none => kop X md ts.head? base s o (fun v => vd X md ops Φ rest ts.tail base (s.set o.dst v))
        (fun v lo tn => freshL s lo ∧ freshT s tn ∧ vd X md ops Φ rest ts.tail base ((s.add lo tn).set o.dst v))
        (fun v s' => vd X md ops Φ rest ts.tail (s'.set o.dst v) (s'.set o.dst v))
    | some (j, want) => gx (gv ops s j) want (kop X md ts.head? base s o (fun v => vd X md ops Φ rest ts.tail base (s.set o.dst v))
            (fun v lo tn => freshL s lo ∧ freshT s tn ∧ vd X md ops Φ rest ts.tail base ((s.add lo tn).set o.dst v))
            (fun v s' => vd X md ops Φ rest ts.tail (s'.set o.dst v) (s'.set o.dst v)))
          (vd X md ops Φ rest ts.tail base (s.set o.dst (.tup [])))
end Go.E

namespace Go.E
open Go

def res0 : Res := ⟨0, .any, [], [], s00⟩
def rsOf (rl : List Res) (i : Nat) : Res := rl.getD i res0
def cst (s0 : S) (ops : List Oper) (rl : List Res) : Nat → S
  | 0 => s0
  | i + 1 => match ops[i]? with
    | some o => (cst s0 ops rl i).step o (rsOf rl i)
    | none => cst s0 ops rl i
theorem rsOf_append {rl q : List Res} {i : Nat} (h : i < rl.length) : rsOf (rl ++ q) i = rsOf rl i := by
  simp only [rsOf, List.getD_eq_getElem?_getD, List.getElem?_append_left h]
theorem rsOf_last (rl : List Res) (r : Res) : rsOf (rl ++ [r]) rl.length = r := by
  simp [rsOf, List.getD_eq_getElem?_getD]
theorem cst_append {s0 : S} {ops : List Oper} {rl q : List Res} : ∀ i, i ≤ rl.length → cst s0 ops (rl ++ q) i = cst s0 ops rl i
  | 0, _ => rfl
  | i + 1, h => by
    simp only [cst]
    rw [cst_append i (by omega), rsOf_append (by omega)]
theorem lastT_append {rl q : List Res} : ∀ i, i ≤ rl.length → lastT (rsOf (rl ++ q)) i = lastT (rsOf rl) i
  | 0, _ => rfl
  | i + 1, h => by
    simp only [lastT]
    rw [lastT_append i (by omega), rsOf_append (by omega)]

section
variable {X : Cx} {ops : List Oper} {s0 : S} {Φ : S → Prop} {ts0 : List Nat} {md : List (Nat × Nat)}
/-- What is known of the first operations. -/
structure Pre (X : Cx) (ops : List Oper) (s0 : S) (ts0 : List Nat) (pre : List Res) : Prop where
  ok : ∀ i o, i < pre.length → ops[i]? = some o → OkR X ops.toArray (cst s0 ops pre (lastT (rsOf pre) i)) (cst s0 ops pre i) o (rsOf pre i)
  kind : ∀ i, i < pre.length → (rsOf pre i).t = 0 ∨ (rsOf pre i).t = ts0.getD i 0
  tri : ∀ i, (rsOf pre i).t = 0 ∨ (rsOf pre i).t = 1 ∨ (rsOf pre i).t = 2

theorem Pre.snoc {pre : List Res} (p : Pre X ops s0 ts0 pre) {o : Oper} (ho : ops[pre.length]? = some o) {r : Res}
    (hok : OkR X ops.toArray (cst s0 ops pre (lastT (rsOf pre) pre.length)) (cst s0 ops pre pre.length) o r) (hk : r.t = 0 ∨ r.t = ts0.getD pre.length 0) (htri : r.t = 0 ∨ r.t = 1 ∨ r.t = 2) : Pre X ops s0 ts0 (pre ++ [r]) := by
  have rl : ∀ i, i < pre.length → rsOf (pre ++ [r]) i = rsOf pre i := fun i h => rsOf_append h
  have cl : ∀ i, i ≤ pre.length → cst s0 ops (pre ++ [r]) i = cst s0 ops pre i := fun i h => cst_append i h
  have tl : ∀ i, i ≤ pre.length → lastT (rsOf (pre ++ [r])) i = lastT (rsOf pre) i := fun i h => lastT_append i h
  have rlast : rsOf (pre ++ [r]) pre.length = r := rsOf_last pre r
  have cases_ : ∀ i, i < (pre ++ [r]).length → i < pre.length ∨ i = pre.length := by intro i h; simp at h; omega
  refine ⟨?_, ?_, ?_⟩
  · intro i o' hi ho'
    rcases cases_ i hi with h | rfl
    · rw [rl i h, cl i (by omega), tl i (by omega), cl _ (by have := lastT_le (rsOf pre) i; omega)]
      exact p.ok i o' h ho'
    · rw [ho] at ho'; cases ho'
      rw [rlast, cl _ (Nat.le_refl _), tl _ (Nat.le_refl _), cl _ (lastT_le _ _)]
      exact hok
  · intro i hi
    rcases cases_ i hi with h | rfl
    · rw [rl i h]; exact p.kind i h
    · rw [rlast]; exact hk
  · intro i
    by_cases h : i < pre.length
    · rw [rl i h]; exact p.tri i
    · by_cases h2 : i = pre.length
      · subst h2; rw [rlast]; exact htri
      · left
        simp only [rsOf, List.getD_eq_getElem?_getD]
        rw [List.getElem?_eq_none (by simp; omega)]
        rfl

theorem vd_run (hP : allOk X.P = true) : ∀ (rest : List Oper) (ts : List Nat) (pre : List Res) (done : List Oper),
    ops = done ++ rest → pre.length = done.length → ts = ts0.drop pre.length → Pre X ops s0 ts0 pre →
    vd X md ops.toArray Φ rest ts (cst s0 ops pre (lastT (rsOf pre) pre.length)) (cst s0 ops pre pre.length) →
    ∃ rl, rl.length = ops.length ∧ Pre X ops s0 ts0 rl ∧ Φ (cst s0 ops rl ops.length)
  | [], ts, pre, done, he, hl, _, p, h => by
    have : pre.length = ops.length := by rw [he, hl]; simp
    exact ⟨pre, this, p, by rw [← this]; simpa [vd] using h⟩
  | o :: rest, ts, pre, done, he, hl, hts, p, h => by
    have ho : ops[pre.length]? = some o := by rw [he, hl]; simp
    have next : ∀ (r : Res), Pre X ops s0 ts0 (pre ++ [r]) →
        vd X md ops.toArray Φ rest ts.tail (if r.t = 2 then (cst s0 ops pre pre.length).step o r else cst s0 ops pre (lastT (rsOf pre) pre.length)) ((cst s0 ops pre pre.length).step o r) →
        ∃ rl, rl.length = ops.length ∧ Pre X ops s0 ts0 rl ∧ Φ (cst s0 ops rl ops.length) := by
      intro r p' hv
      refine vd_run hP rest ts.tail (pre ++ [r]) (done ++ [o]) (by simp [he]) (by simp [hl]) ?_ p' ?_
      · rw [hts]; simp
      · have e1 : cst s0 ops (pre ++ [r]) (pre ++ [r]).length = (cst s0 ops pre pre.length).step o r := by
          rw [List.length_append]
          simp only [List.length_cons, List.length_nil, Nat.zero_add, cst, ho]
          rw [cst_append _ (Nat.le_refl _), rsOf_last]
        have e2 : cst s0 ops (pre ++ [r]) (lastT (rsOf (pre ++ [r])) (pre ++ [r]).length) = if r.t = 2 then (cst s0 ops pre pre.length).step o r else cst s0 ops pre (lastT (rsOf pre) pre.length) := by
          have e3 : (pre ++ [r]).length = pre.length + 1 := by simp
          rw [e3]
          simp only [lastT, rsOf_last]
          split
          · rw [← e3]; exact e1
          · rw [lastT_append _ (Nat.le_refl _), cst_append _ (lastT_le _ _)]
        rw [e1, e2]
        exact hv
    have kind : ∀ k, ts.head? = some k → k = ts0.getD pre.length 0 := by
      intro k hk
      rw [hts, List.head?_drop] at hk
      simp [List.getD_eq_getElem?_getD, hk]
    simp only [vd] at h
    generalize hs : cst s0 ops pre pre.length = s at *
    have skip : wantedD ops.toArray s o = some false → vd X md ops.toArray Φ rest ts.tail (cst s0 ops pre (lastT (rsOf pre) pre.length)) (s.set o.dst (.tup [])) →
        ∃ rl, rl.length = ops.length ∧ Pre X ops s0 ts0 rl ∧ Φ (cst s0 ops rl ops.length) := by
      intro hw hv
      exact next ⟨0, .tup [], [], [], s00⟩ (p.snoc ho (.inl ⟨by rw [hs]; exact hw, rfl, rfl⟩) (.inl rfl) (.inl rfl)) hv
    have go : wantedD ops.toArray s o = some true → kop X md ts.head? (cst s0 ops pre (lastT (rsOf pre) pre.length)) s o
            (fun v => vd X md ops.toArray Φ rest ts.tail (cst s0 ops pre (lastT (rsOf pre) pre.length)) (s.set o.dst v))
            (fun v lo tn => freshL s lo ∧ freshT s tn ∧ vd X md ops.toArray Φ rest ts.tail (cst s0 ops pre (lastT (rsOf pre) pre.length)) ((s.add lo tn).set o.dst v))
            (fun v s' => vd X md ops.toArray Φ rest ts.tail (s'.set o.dst v) (s'.set o.dst v)) → ∃ rl, rl.length = ops.length ∧ Pre X ops s0 ts0 rl ∧ Φ (cst s0 ops rl ops.length) := by
      intro hw hr
      unfold kop at hr
      split at hr
      · obtain ⟨v, lo, tn, ⟨rfl, rfl, hv⟩, hI⟩ := iop_sound hP hr
        have hd : PDoes X o (evalA X.gl s) v := fun Γ w a s' hgl c hops =>
          hI Γ w a s' hgl c ⟨fun k o h => (by rw [s00_obj] at h; cases h), fun k o h => (by rw [s00_obj] at h; cases h)⟩ ⟨fun k o h => (by simp [lookK] at h), fun t x h => (by simp [look] at h)⟩ hops
        exact next ⟨0, v, [], [], s00⟩ (p.snoc ho (.inr ⟨by rw [hs]; exact hw, .inl ⟨rfl, by rw [hs]; exact hd⟩⟩) (.inl rfl) (.inl rfl)) hv
      · rename_i hk
        obtain ⟨v, lo, tn, ⟨hf1, hf2, hv⟩, hI⟩ := iop_sound hP hr
        exact next ⟨1, v, lo, tn, s00⟩ (p.snoc ho (.inr ⟨by rw [hs]; exact hw, .inr (.inl ⟨rfl, by rw [hs]; exact hI, by rw [hs]; exact fresh_of hf1 hf2⟩)⟩) (.inr (kind 1 hk)) (.inr (.inl rfl))) hv
      · rename_i hk
        obtain ⟨v, s1, hv, hT⟩ := top_sound hP hr
        exact next ⟨2, v, [], [], s1⟩ (p.snoc ho (.inr ⟨by rw [hs]; exact hw, .inr (.inr ⟨rfl, by rw [hs]; exact hT⟩)⟩) (.inr (kind 2 hk)) (.inr (.inr rfl))) hv
      · exact hr.elim
    split at h
    · rename_i hg
      exact go (by simp [wantedD, hg]) h
    · rename_i j want hg
      cases ht : gslot ops.toArray j with
      | none => simp [gv, ht, gx] at h
      | some t =>
        simp only [gv, ht] at h
        unfold gx at h
        split at h
        · rename_i cb hb
          by_cases hbw : cb.toBool = want
          · exact go (by simp [wantedD, hg, ht, hb, hbw]) (h.1 hbw)
          · exact skip (by simp [wantedD, hg, ht, hb, hbw]) (h.2 hbw)
        · rename_i hb
          exact skip (by simp [wantedD, hg, ht, hb]) h
        · exact h.elim
end

section
variable {X : Cx} {n : Nat} {s : S} {Ψ : Exit → S → Prop}
theorem both_of {ops : List Oper} {i j : Nat} (h : ((decide (j < i) && ((ancs ops []).getD i 0).testBit j) || (decide (i < j) && ((ancs ops []).getD j 0).testBit i)) = true) : (j < i ∧ Anc ops j i) ∨ (i < j ∧ Anc ops i j) := by
  simp only [Bool.or_eq_true, Bool.and_eq_true, decide_eq_true_eq] at h
  rcases h with ⟨h1, h2⟩ | ⟨h1, h2⟩
  · exact .inl ⟨h1, ancB_sound h2⟩
  · exact .inr ⟨h1, ancB_sound h2⟩
theorem orders_of {ops : List Oper} {ts : List Nat} {s0 : S} {rl : List Res} (hl : rl.length = ops.length) (p : Pre X ops s0 ts rl) (h : ordB ops ts = true) :
    Orders ops (rsOf rl) := by
  simp only [ordB, Bool.and_eq_true, List.all_eq_true, List.mem_range] at h
  obtain ⟨⟨h1, h2⟩, h3⟩ := h
  refine ⟨?_, ?_, ?_, ?_⟩
  · intro i j hd
    obtain ⟨o, ho, _⟩ := id hd
    have hi : i < ops.length := (List.getElem?_eq_some_iff.1 ho).1
    have := h1 i hi
    rw [ho] at this
    simp only [List.all_eq_true, decide_eq_true_eq] at this
    exact this j (depsOf_mem ho hd)
  · intro i j hi hj ht htj hji
    have hk := p.kind i (by omega)
    have hti : ts.getD i 0 = 2 := by rcases hk with h | h <;> omega
    have htj' : ts.getD j 0 ≠ 0 := by
      rcases p.kind j (by omega) with h | h
      · exact absurd h htj
      · rw [← h]; exact htj
    have := h2 i hi
    rw [hti] at this
    simp only [bne_self_eq_false, Bool.false_or, List.all_eq_true, List.mem_range] at this
    have := this j hj
    have e1 : (ts.getD j 0 == 0) = false := by simpa using htj'
    have e2 : (j == i) = false := by simpa using hji
    rw [e1, e2] at this
    simp only [Bool.false_or] at this
    exact both_of this
  · rintro i j t hji ⟨o, ho, hd⟩ ⟨o', ho', hl'⟩
    have hj : j < ops.length := (List.getElem?_eq_some_iff.1 ho).1
    have hi : i < ops.length := (List.getElem?_eq_some_iff.1 ho').1
    have := h3 j hj
    rw [ho] at this
    simp only [Option.bind_some, hd, List.all_eq_true, List.mem_range] at this
    have := this i hi
    have e2 : (j == i) = false := by simpa using hji
    rw [e2, ho'] at this
    have e3 : (lk ops.toArray o').contains t = true := by simpa using mem_lk hl'
    simp only [Bool.false_or, Bool.and_eq_true, e3, Bool.not_true] at this
    exact both_of this.2
  · rintro i j t ⟨o, ho, hd⟩ ⟨o', ho', hd'⟩
    refine Classical.byContradiction fun hne => ?_
    have hi : i < ops.length := (List.getElem?_eq_some_iff.1 ho).1
    have hj : j < ops.length := (List.getElem?_eq_some_iff.1 ho').1
    have := h3 j hj
    rw [ho'] at this
    simp only [Option.bind_some, hd', List.all_eq_true, List.mem_range] at this
    have := this i hi
    have e2 : (j == i) = false := by simpa using fun e => hne e.symm
    rw [e2, ho] at this
    simp [hd] at this

/-- A region that draws its order. -/
theorem dc_drawn (hP : allOk X.P = true) (hm : X.P.follows .mixedOrders = true) (md : List (Nat × Nat)) {id : Nat} {l : List Oper} (ts : List Nat) (hok : l.all (opOk n) = true) (hord : ordB l ts = true)
    (h : vd X md l.toArray (fun s' => Ψ .normal s') l ts s s) : DC X n (.region id l.toArray true) s Ψ := by
  have p0 : Pre X l s ts [] := ⟨fun i o h => by simp at h, fun i h => by simp at h, fun i => .inl (by simp [rsOf, res0])⟩
  obtain ⟨rl, hl, p, hΦ⟩ := vd_run hP l ts [] [] rfl rfl (by simp) p0 h
  have K : Canon X l s (rsOf rl) (cst s l rl) := ⟨rfl, fun i o ho => by simp only [cst, ho], fun i o ho => p.ok i o (by rw [hl]; exact (List.getElem?_eq_some_iff.1 ho).1) ho, p.tri⟩
  exact dc_any hP hm K (orders_of hl p hord) (fun o ho => List.all_eq_true.1 hok o ho) hΦ
end
end Go.E

namespace Go.E
open Go

/-- pvBin, by its operands' type. -/
noncomputable def pvBinT (P : Program) (T : TypeId) (τ : Ty) (op : BinOp) (x y : V) (K : V → Prop) : Prop :=
  match τ with
  | .int k => x.isInt k ∧ (if BinOp.isShift op then y.isAnyInt ∧ shBin op k x.toInt y.toInt K else y.isInt k ∧ intBin op k x.toInt y.toInt K)
  | .bool => x.isBool ∧ y.isBool ∧ (match op with
      | .eql => K (.d .bool (.bool (x.toBool == y.toBool)))
      | .neq => K (.d .bool (.bool (!(x.toBool == y.toBool))))
      | _ => False)
  | .str => x.isStr ∧ y.isStr ∧ strBin op x.toStr y.toStr K
  | .ptr => (match op, x.nilQ, y.nilQ with
      | .eql, some a, some true => K (.d .bool (.bool a))
      | .neq, some a, some true => K (.d .bool (.bool (!a)))
      | .eql, some true, some b => K (.d .bool (.bool b))
      | .neq, some true, some b => K (.d .bool (.bool (!b)))
      | _, _, _ => False)
  | .arr n e => eqOk P T = true ∧ x.isData (.arr n e) ∧ y.isData (.arr n e) ∧ aggBin op (C.eqb x.toC y.toC) K
  | .struct sz os fs => eqOk P T = true ∧ x.isData (.struct sz os fs) ∧ y.isData (.struct sz os fs) ∧ aggBin op (C.eqb x.toC y.toC) K
  | .slice _ _ => (match op, x.nilS, y with
      | .eql, some r, .nilc => K (nilV r)
      | .neq, some r, .nilc => K (nilV (r.map (!·)))
      | _, _, _ => False)
  | _ => False
section
variable {P : Program} {T : TypeId} {x y : V} {K : V → Prop} {op : BinOp}
theorem pvBin_eq : pvBin P op T x y K = pvBinT P T (ty P T) op x y K := rfl
theorem pvBinT_int {k : IntKind} : pvBinT P T (.int k) op x y K = (x.isInt k ∧ (if BinOp.isShift op then y.isAnyInt ∧ shBin op k x.toInt y.toInt K else y.isInt k ∧ intBin op k x.toInt y.toInt K)) := rfl
theorem pvBinT_beq : pvBinT P T .bool .eql x y K = (x.isBool ∧ y.isBool ∧ K (.d .bool (.bool (x.toBool == y.toBool)))) := rfl
theorem pvBinT_bne : pvBinT P T .bool .neq x y K = (x.isBool ∧ y.isBool ∧ K (.d .bool (.bool (!(x.toBool == y.toBool))))) := rfl
theorem pvBinT_str : pvBinT P T .str op x y K = (x.isStr ∧ y.isStr ∧ strBin op x.toStr y.toStr K) := rfl
theorem pvBinT_ptr_eq {k : Key} {q : List Nat} {τ : Ty} : pvBinT P T .ptr .eql (.ptr k q τ) (.d .ptr .nil) K = K (.d .bool (.bool false)) := rfl
theorem pvBinT_ptr_ne {k : Key} {q : List Nat} {τ : Ty} : pvBinT P T .ptr .neq (.ptr k q τ) (.d .ptr .nil) K = K (.d .bool (.bool true)) := rfl
theorem pvBinT_nil_eq : pvBinT P T .ptr .eql (.d .ptr .nil) (.d .ptr .nil) K = K (.d .bool (.bool true)) := rfl
theorem pvBinT_nil_ne : pvBinT P T .ptr .neq (.d .ptr .nil) (.d .ptr .nil) K = K (.d .bool (.bool false)) := rfl
theorem pvBinT_sl_eq {eb : Nat} {e : Ty} {cs : List C} {t eb' : Nat} {e' : Ty} : pvBinT P T (.slice eb e) .eql (.sl eb' e' cs t) .nilc K = K (nilV (bif cs.isEmpty then none else some false)) := rfl
theorem pvBinT_sd_eq {eb : Nat} {e : Ty} {c : C} {eb' : Nat} {e' : Ty} : pvBinT P T (.slice eb e) .eql (.d (.slice eb' e') c) .nilc K = K (nilV (bif c.elems.isEmpty then none else some false)) := rfl
theorem pvBinT_sr_eq {eb : Nat} {e : Ty} {k : Key} {q : List Nat} {lo n : Nat} {cp : Option Nat} {eb' : Nat} {e' : Ty} : pvBinT P T (.slice eb e) .eql (.sr k q lo n cp eb' e') .nilc K = K (nilV (bif n == 0 then none else some false)) := rfl
theorem pvBinT_emp_eq {eb : Nat} {e : Ty} {eb' : Nat} {e' : Ty} : pvBinT P T (.slice eb e) .eql (.emp eb' e') .nilc K = K (.top .bool) := rfl
theorem pvBinT_nilc_eq {eb : Nat} {e : Ty} : pvBinT P T (.slice eb e) .eql .nilc .nilc K = K (.d .bool (.bool true)) := rfl
theorem pvBinT_arr {n : Nat} {e : Ty} : pvBinT P T (.arr n e) op x y K = (eqOk P T = true ∧ x.isData (.arr n e) ∧ y.isData (.arr n e) ∧ aggBin op (C.eqb x.toC y.toC) K) := rfl
end

theorem c_int (n : Int) : (C.int n).toInt = n := rfl
theorem c_bool (b : Bool) : (C.bool b).toBool = b := rfl
theorem c_str (l : List UInt8) : (C.str l).toStr = l := rfl
theorem c_slice (cs : List C) : (C.slice cs).elems = cs := rfl
theorem c_agg (cs : List C) : (C.agg cs).elems = cs := rfl
theorem c_get_agg (cs : List C) (i : Nat) : (C.agg cs).get i = cs.getD i .nil := rfl
theorem get_cons (i j : Nat) (x : V) (e : List (Nat × V)) (l : List (Key × O)) (A : Key → Option O) (tk : List (Nat × Option Nat)) : (S.mk ((i, x) :: e) l A tk).get j = if i = j then x else (S.mk e l A tk).get j := by
  simp only [S.get, look]
  split <;> rfl
theorem get_nil (j : Nat) (l : List (Key × O)) (A : Key → Option O) (tk : List (Nat × Option Nat)) : (S.mk [] l A tk).get j = .any := rfl
theorem set_some (e : List (Nat × V)) (l : List (Key × O)) (A : Key → Option O) (tk : List (Nat × Option Nat)) (d : Nat) (x : V) : (S.mk e l A tk).set (some d) x = S.mk (putN e d x) l A tk := rfl
theorem set_none (s : S) (x : V) : s.set none x = s := rfl
theorem put_mk (e : List (Nat × V)) (l : List (Key × O)) (A : Key → Option O) (tk : List (Nat × Option Nat)) (k : Key) (o : O) : (S.mk e l A tk).put k o = S.mk e (putK l k o) A tk := rfl
theorem tok_mk (e : List (Nat × V)) (l : List (Key × O)) (A : Key → Option O) (tk : List (Nat × Option Nat)) (t : Nat) (x : Option Nat) : (S.mk e l A tk).tok t x = S.mk e l A (putN tk t x) := rfl
theorem add_mk (e : List (Nat × V)) (l : List (Key × O)) (A : Key → Option O) (tk : List (Nat × Option Nat)) (lo : List (Key × O)) (tn : List (Nat × Option Nat)) : (S.mk e l A tk).add lo tn = S.mk e (lo ++ l) A (tn ++ tk) := rfl
theorem obj_mk_nil (e : List (Nat × V)) (A : Key → Option O) (tk : List (Nat × Option Nat)) (k : Key) : (S.mk e [] A tk).obj (.g k) = A k := rfl
theorem obj_mk_nil_l (e : List (Nat × V)) (A : Key → Option O) (tk : List (Nat × Option Nat)) (n : Nat) : (S.mk e [] A tk).obj (.l n) = none := rfl
theorem obj_mk_cons (e : List (Nat × V)) (l : List (Key × O)) (A : Key → Option O) (tk : List (Nat × Option Nat)) (j k : Key) (o : O) : (S.mk e ((j, o) :: l) A tk).obj k = if j = k then some o else (S.mk e l A tk).obj k := by
  simp only [S.obj, objOf, lookK]
  by_cases h : j = k <;> simp [h]
theorem live_mk (e : List (Nat × V)) (l : List (Key × O)) (A : Key → Option O) (tk : List (Nat × Option Nat)) (t : Nat) : (S.mk e l A tk).live t = liveT tk t := rfl
theorem liveT_nil (t : Nat) : liveT [] t = none := rfl
theorem liveT_cons (u : Nat) (x : Option Nat) (tk : List (Nat × Option Nat)) (t : Nat) : liveT ((u, x) :: tk) t = if u = t then x else liveT tk t := by
  simp only [liveT, look]
  by_cases h : u = t
  · simp only [if_pos h]; cases x <;> rfl
  · simp only [if_neg h]
theorem known_mk_nil (e : List (Nat × V)) (l : List (Key × O)) (A : Key → Option O) (t : Nat) : (S.mk e l A []).known t = false := rfl
theorem known_mk_cons (e : List (Nat × V)) (l : List (Key × O)) (A : Key → Option O) (u : Nat) (x : Option Nat) (tk : List (Nat × Option Nat)) (t : Nat) : (S.mk e l A ((u, x) :: tk)).known t = (decide (u = t) || (S.mk e l A tk).known t) := by
  simp only [S.known, look]
  by_cases h : u = t <;> simp [h]
theorem vget_d (τ : Ty) (c : C) (i : Nat) : (V.d τ c).get i = .d (τ.get i) (c.get i) := rfl
theorem vget_agg (τ : Ty) (vs : List V) (i : Nat) : (V.agg τ vs).get i = vs.getD i .any := rfl
theorem vat_nil (x : V) : x.at [] = x := by cases x <;> rfl
theorem vat_cons (x : V) (i : Nat) (q : List Nat) : x.at (i :: q) = (x.get i).at q := by rfl
theorem toInt_d (τ : Ty) (c : C) : (V.d τ c).toInt = c.toInt := rfl
theorem toBool_d (τ : Ty) (c : C) : (V.d τ c).toBool = c.toBool := rfl
theorem toStr_d (τ : Ty) (c : C) : (V.d τ c).toStr = c.toStr := rfl
theorem toC_d (τ : Ty) (c : C) : (V.d τ c).toC = c := rfl
theorem arr_get (n : Nat) (e : Ty) (i : Nat) : (Ty.arr n e).get i = e := rfl
theorem up_mk (e : List (Nat × V)) (l : List (Key × O)) (A : Key → Option O) (tk : List (Nat × Option Nat)) (k : Key) : (S.mk e l A tk).up k = ((S.mk e l A tk).obj k).map (O.ren .g) := rfl

theorem known_int (k : IntKind) : (Ty.int k).known = true := rfl
theorem isAgg_int (k : IntKind) : (Ty.int k).isAgg = false := rfl
theorem known_bool  : (Ty.bool).known = true := rfl
theorem isAgg_bool  : (Ty.bool).isAgg = false := rfl
theorem known_str  : (Ty.str).known = true := rfl
theorem isAgg_str  : (Ty.str).isAgg = false := rfl
theorem known_slice (n : Nat) (e : Ty) : (Ty.slice n e).known = true := rfl
theorem isAgg_slice (n : Nat) (e : Ty) : (Ty.slice n e).isAgg = false := rfl
theorem known_arr (n : Nat) (e : Ty) : (Ty.arr n e).known = true := rfl
theorem isAgg_arr (n : Nat) (e : Ty) : (Ty.arr n e).isAgg = true := rfl
theorem known_ptr  : (Ty.ptr).known = true := rfl
theorem isAgg_ptr  : (Ty.ptr).isAgg = false := rfl
theorem known_map  : (Ty.map).known = true := rfl
theorem isAgg_map  : (Ty.map).isAgg = false := rfl
theorem known_func  : (Ty.func).known = true := rfl
theorem isAgg_func  : (Ty.func).isAgg = false := rfl
theorem known_iface  : (Ty.iface).known = true := rfl
theorem isAgg_iface  : (Ty.iface).isAgg = false := rfl
theorem child_arr (n : Nat) (e : Ty) (i : Nat) : (Ty.arr n e).child i = if i < n then some (i * e.size, e) else none := rfl
theorem kidTys_arr (n : Nat) (e : Ty) : (Ty.arr n e).kidTys = List.replicate n e := rfl
theorem slice_get (n : Nat) (e : Ty) (i : Nat) : (Ty.slice n e).get i = e := rfl
theorem modeOf_nil (d : Nat) : modeOf [] d = 0 := rfl
theorem modeOf_cons (j m : Nat) (l : List (Nat × Nat)) (d : Nat) : modeOf ((j, m) :: l) d = if j = d then m else modeOf l d := by
  simp only [modeOf, look]
  split <;> rfl
/-- The same as vc; it is not unfolded. -/
noncomputable def vcR (X : Cx) (md : List (Nat × Nat)) (ops : Array Oper) (Φ : S → Prop) (l : List Oper) (s : S) : Prop := vc X md ops Φ l s
/-- As vc, but for so many operations alone. -/
noncomputable def vcN (X : Cx) (md : List (Nat × Nat)) (ops : Array Oper) (Φ : S → Prop) : List Unit → List Oper → S → Prop
  | _, [], s => Φ s
  | [], l, s => vcR X md ops Φ l s
  | _ :: n, o :: rest, s => match o.guard with
    | none => sop X md (dstN o) o s fun v s' => vcN X md ops Φ n rest (s'.set o.dst v)
    | some (j, want) => gx (gv ops s j) want (sop X md (dstN o) o s fun v s' => vcN X md ops Φ n rest (s'.set o.dst v)) (vcN X md ops Φ n rest (s.set o.dst (.tup [])))
theorem vcN_eq {X : Cx} {md : List (Nat × Nat)} {ops : Array Oper} {Φ : S → Prop} : ∀ (n : List Unit) (l : List Oper), vcN X md ops Φ n l = vc X md ops Φ l
  | [], [] => by funext s; simp only [vcN, vc]
  | [], o :: rest => by funext s; simp only [vcN, vcR]
  | _ :: n, [] => by funext s; simp only [vcN, vc]
  | _ :: n, o :: rest => by funext s; simp only [vcN, vc, vcN_eq n rest]; rfl
theorem vc_n {X : Cx} {md : List (Nat × Nat)} {ops : Array Oper} {Φ : S → Prop} (n : List Unit) {l : List Oper} {s : S} (h : vcN X md ops Φ n l s) : vc X md ops Φ l s := by rw [← vcN_eq n]; exact h
/-- One operation, and then so many more. -/
noncomputable def vcO (X : Cx) (md : List (Nat × Nat)) (ops : Array Oper) (Φ : S → Prop) (n : List Unit) (o : Oper) (rest : List Oper) (s : S) : Prop := sop X md (dstN o) o s fun v s' => vcN X md ops Φ n rest (s'.set o.dst v)
section
variable {X : Cx} {md : List (Nat × Nat)} {ops : Array Oper} {Φ : S → Prop} {o : Oper} {rest : List Oper} {s : S}
theorem vcR_n (n : List Unit) (h : vcN X md ops Φ n rest s) : vcR X md ops Φ rest s := vc_n n h
theorem vcR_op (n : List Unit) (hg : o.guard = none) (h : vcO X md ops Φ n o rest s) : vcR X md ops Φ (o :: rest) s := by
  unfold vcO at h
  rw [vcN_eq n] at h
  unfold vcR
  simp only [vc, hg]
  exact h
theorem vcR_guard (n : List Unit) {j t : Nat} {want : Bool} (b : Bool) (hg : o.guard = some (j, want)) (ht : gslot ops j = some t) (hb : s.get t = .d .bool (.bool b)) (h1 : b = want → vcO X md ops Φ n o rest s) (h2 : b ≠ want → vcR X md ops Φ rest (s.set o.dst (.tup []))) :
    vcR X md ops Φ (o :: rest) s := by
  unfold vcO at h1
  rw [vcN_eq n] at h1
  unfold vcR at h2 ⊢
  simp only [vc, hg, gv, ht, hb, gx_b]
  exact ⟨h1, h2⟩
theorem DCalls.mono {f : FuncId} {xs : List V} {A A' : Key → Option O} {v : V} {L : List (Key × O)} (h : DCalls X f xs A v L) (hA : ∀ k o, A k = some o → A' k = some o) : DCalls X f xs A' v L :=
  fun A'' Γ w args hAA => h A'' Γ w args fun k o hk => hAA k o (hA k o hk)
/-- A call of a function by its name. -/
theorem vcO_call (n : List Unit) {f : FuncId} {args : Array Operand} {ts : Array TypeId} {xs : List V} {v : V} {L : List (Key × O)} (D : DCalls X f xs s.up v L) (ho : o.op = .call { callee := .value (.func f), args := args, argTypes := ts }) (hc : callable X.P f = true) (hl : ts.toList.length = args.toList.length)
    (hx : argsOf X.P (modeOf md (dstN o) == 1) s ts.toList (args.toList.map (evalA X.gl s)) = xs) (hnd : nodupN (passed (modeOf md (dstN o) == 1) s (args.toList.map (evalA X.gl s))) = true)
    (hg : gOk s (dstN o) L) (ht : tOk s (dstN o) (v.tkR 2000)) (h : vcN X md ops Φ n rest ((s.ret (modeOf md (dstN o) == 1) (args.toList.map (evalA X.gl s)) (dstN o) v L).set o.dst ((v.slotR 2000).ren (dn (dstN o)) (rk (dstN o))))) :
    vcO X md ops Φ n o rest s := by
  unfold vcO sop top
  right
  rw [ho]
  simp only [evalA, callArgs, callTs, List.append_nil, List.length_nil, List.replicate_zero]
  exact ⟨hc, hl, hnd, v, L, by rw [hx]; exact D, hg, ht, h⟩
/-- A call of a function value. -/
theorem vcO_callv (n : List Unit) {f : FuncId} {caps : List V} {fo : Operand} {args : Array Operand} {ts : Array TypeId} {xs : List V} {v : V} {L : List (Key × O)} (D : DCalls X f xs s.up v L) (ho : o.op = .call { callee := .value fo, args := args, argTypes := ts }) (hf : evalA X.gl s fo = .fn f caps) (hc : callable X.P f = true) (hl : ts.toList.length = args.toList.length)
    (hx : argsOf X.P (modeOf md (dstN o) == 1) s (callTs ts.toList caps) (callArgs (args.toList.map (evalA X.gl s)) caps) = xs) (hnd : nodupN (passed (modeOf md (dstN o) == 1) s (callArgs (args.toList.map (evalA X.gl s)) caps)) = true)
    (hg : gOk s (dstN o) L) (ht : tOk s (dstN o) (v.tkR 2000)) (h : vcN X md ops Φ n rest ((s.ret (modeOf md (dstN o) == 1) (callArgs (args.toList.map (evalA X.gl s)) caps) (dstN o) v L).set o.dst ((v.slotR 2000).ren (dn (dstN o)) (rk (dstN o))))) :
    vcO X md ops Φ n o rest s := by
  unfold vcO sop top
  right
  rw [ho]
  simp only [hf]
  exact ⟨hc, hl, hnd, v, L, by rw [hx]; exact D, hg, ht, h⟩
end

/- The same for a region that draws its order. -/
noncomputable def vdR (X : Cx) (md : List (Nat × Nat)) (ops : Array Oper) (Φ : S → Prop) (l : List Oper) (ts : List Nat) (base s : S) : Prop := vd X md ops Φ l ts base s
noncomputable def vdN (X : Cx) (md : List (Nat × Nat)) (ops : Array Oper) (Φ : S → Prop) : List Unit → List Oper → List Nat → S → S → Prop
  | _, [], _, _, s => Φ s
  | [], l, ts, base, s => vdR X md ops Φ l ts base s
  | _ :: n, o :: rest, ts, base, s =>
    match o.guard with
    | none => kop X md ts.head? base s o (fun v => vdN X md ops Φ n rest ts.tail base (s.set o.dst v))
        (fun v lo tn => freshL s lo ∧ freshT s tn ∧ vdN X md ops Φ n rest ts.tail base ((s.add lo tn).set o.dst v))
        (fun v s' => vdN X md ops Φ n rest ts.tail (s'.set o.dst v) (s'.set o.dst v))
    | some (j, want) => gx (gv ops s j) want (kop X md ts.head? base s o (fun v => vdN X md ops Φ n rest ts.tail base (s.set o.dst v))
            (fun v lo tn => freshL s lo ∧ freshT s tn ∧ vdN X md ops Φ n rest ts.tail base ((s.add lo tn).set o.dst v))
            (fun v s' => vdN X md ops Φ n rest ts.tail (s'.set o.dst v) (s'.set o.dst v)))
          (vdN X md ops Φ n rest ts.tail base (s.set o.dst (.tup [])))
theorem vdN_eq {X : Cx} {md : List (Nat × Nat)} {ops : Array Oper} {Φ : S → Prop} : ∀ (n : List Unit) (l : List Oper), vdN X md ops Φ n l = vd X md ops Φ l
  | [], [] => by funext ts b s; simp only [vdN, vd]
  | [], o :: rest => by funext ts b s; simp only [vdN, vdR]
  | _ :: n, [] => by funext ts b s; simp only [vdN, vd]
  | _ :: n, o :: rest => by funext ts b s; simp only [vdN, vd, vdN_eq n rest] <;> rfl
theorem vd_n {X : Cx} {md : List (Nat × Nat)} {ops : Array Oper} {Φ : S → Prop} (n : List Unit) {l : List Oper} {ts : List Nat} {b s : S} (h : vdN X md ops Φ n l ts b s) : vd X md ops Φ l ts b s := by rw [← vdN_eq n]; exact h
/-- One operation of a kind, and then so many more. -/
noncomputable def vdO (X : Cx) (md : List (Nat × Nat)) (ops : Array Oper) (Φ : S → Prop) (n : List Unit) (o : Oper) (rest : List Oper) (ts : List Nat) (base s : S) : Prop :=
  kop X md ts.head? base s o (fun v => vdN X md ops Φ n rest ts.tail base (s.set o.dst v))
        (fun v lo tn => freshL s lo ∧ freshT s tn ∧ vdN X md ops Φ n rest ts.tail base ((s.add lo tn).set o.dst v))
        (fun v s' => vdN X md ops Φ n rest ts.tail (s'.set o.dst v) (s'.set o.dst v))
section
variable {X : Cx} {md : List (Nat × Nat)} {ops : Array Oper} {Φ : S → Prop} {o : Oper} {rest : List Oper} {ts : List Nat} {base s : S}
theorem vdR_n (n : List Unit) (h : vdN X md ops Φ n rest ts base s) : vdR X md ops Φ rest ts base s := vd_n n h
theorem vdR_op (n : List Unit) (hg : o.guard = none) (h : vdO X md ops Φ n o rest ts base s) : vdR X md ops Φ (o :: rest) ts base s := by
  unfold vdO at h
  rw [vdN_eq n] at h
  unfold vdR
  simp only [vd, hg]
  exact h
theorem vdR_guard (n : List Unit) {j t : Nat} {want : Bool} (b : Bool) (hg : o.guard = some (j, want)) (ht : gslot ops j = some t) (hb : s.get t = .d .bool (.bool b)) (h1 : b = want → vdO X md ops Φ n o rest ts base s) (h2 : b ≠ want → vdR X md ops Φ rest ts.tail base (s.set o.dst (.tup []))) :
    vdR X md ops Φ (o :: rest) ts base s := by
  unfold vdO at h1
  rw [vdN_eq n] at h1
  unfold vdR at h2 ⊢
  simp only [vd, hg, gv, ht, hb, gx_b]
  exact ⟨h1, h2⟩
/-- A call that writes. -/
theorem vdO_call (n : List Unit) {f : FuncId} {args : Array Operand} {ts' : Array TypeId} {xs : List V} {v : V} {L : List (Key × O)} (D : DCalls X f xs s.up v L) (hk : ts.head? = some 2) (ho : o.op = .call { callee := .value (.func f), args := args, argTypes := ts' }) (hc : callable X.P f = true) (hl : ts'.toList.length = args.toList.length)
    (hx : argsOf X.P (modeOf md (dstN o) == 1) s ts'.toList (args.toList.map (evalA X.gl s)) = xs) (hnd : nodupN (passed (modeOf md (dstN o) == 1) s (args.toList.map (evalA X.gl s))) = true)
    (hg : gOk s (dstN o) L) (ht : tOk s (dstN o) (v.tkR 2000)) (h : vdN X md ops Φ n rest ts.tail ((s.ret (modeOf md (dstN o) == 1) (args.toList.map (evalA X.gl s)) (dstN o) v L).set o.dst ((v.slotR 2000).ren (dn (dstN o)) (rk (dstN o)))) ((s.ret (modeOf md (dstN o) == 1) (args.toList.map (evalA X.gl s)) (dstN o) v L).set o.dst ((v.slotR 2000).ren (dn (dstN o)) (rk (dstN o))))) :
    vdO X md ops Φ n o rest ts base s := by
  unfold vdO kop top
  rw [hk]
  simp only
  rw [ho]
  simp only [evalA, callArgs, callTs, List.append_nil, List.length_nil, List.replicate_zero]
  exact ⟨hc, hl, hnd, v, L, by rw [hx]; exact D, hg, ht, h⟩
/-- A call that only makes, or reads what base has. -/
theorem vdO_calli (n : List Unit) {f : FuncId} {args : Array Operand} {ts' : Array TypeId} {xs : List V} {v : V} {L : List (Key × O)} (D : DCalls X f xs base.up v L) (hk : ts.head? = some 1) (ho : o.op = .call { callee := .value (.func f), args := args, argTypes := ts' }) (hc : callable X.P f = true) (hl : ts'.toList.length = args.toList.length)
    (hx : argsOf X.P false s ts'.toList (args.toList.map (evalA X.gl s)) = xs) (hL : onlyL L = true)
    (hf : freshL s (dnL (dstN o) L)) (ht : freshT s (dnT (dstN o) (v.tkR 2000))) (h : vdN X md ops Φ n rest ts.tail base ((s.add (dnL (dstN o) L) (dnT (dstN o) (v.tkR 2000))).set o.dst ((v.slotR 2000).ren (dn (dstN o)) (rk (dstN o))))) :
    vdO X md ops Φ n o rest ts base s := by
  unfold vdO kop iop
  rw [hk]
  simp only
  rw [ho]
  simp only [evalA, callArgs, callTs, List.append_nil, List.length_nil, List.replicate_zero]
  exact .inl ⟨hc, hl, v, L, by rw [hx]; exact D, hL, hf, ht, h⟩
/-- A call of a function without a body. -/
theorem vcO_ext (n : List Unit) {f : FuncId} {args : Array Operand} {ts' : Array TypeId} {xs : List V} {v : V} (D : EDoes X f xs v) (hm : modeOf md (dstN o) ≠ 1) (ho : o.op = .call { callee := .value (.func f), args := args, argTypes := ts' })
    (hx : args.toList.map (evalA X.gl s) = xs) (h : vcN X md ops Φ n rest (s.set o.dst v)) : vcO X md ops Φ n o rest s := by
  unfold vcO sop iop
  left
  rw [ho]
  simp only [evalA, callArgs, callTs, List.append_nil, List.length_nil, List.replicate_zero]
  exact ⟨hm, .inr ⟨trivial, v, by rw [hx]; exact D, trivial, trivial, h⟩⟩
theorem vdO_ext (n : List Unit) {f : FuncId} {args : Array Operand} {ts' : Array TypeId} {xs : List V} {v : V} (D : EDoes X f xs v) (hk : ts.head? = some 1) (ho : o.op = .call { callee := .value (.func f), args := args, argTypes := ts' })
    (hx : args.toList.map (evalA X.gl s) = xs) (h : vdN X md ops Φ n rest ts.tail base (s.set o.dst v)) : vdO X md ops Φ n o rest ts base s := by
  unfold vdO kop iop
  rw [hk]
  simp only
  rw [ho]
  simp only [evalA, callArgs, callTs, List.append_nil, List.length_nil, List.replicate_zero]
  exact .inr ⟨trivial, v, by rw [hx]; exact D, trivial, trivial, h⟩
end
end Go.E

namespace Go.E
open Go
section
variable {X : Cx} {md : List (Nat × Nat)} {ops : Array Oper} {Φ : S → Prop} {n : List Unit} {u : Unit} {o : Oper} {rest : List Oper} {ts : List Nat} {base s s' : S} {dst : Option Nat} {lo : List (Key × O)} {tn : List (Nat × Option Nat)} {d : Option Nat} {op : Op} {T : TypeId} {ps : String} {af : Array Edge} {j : Nat} {want : Bool}
theorem gx_b' (b want : Bool) (p q : Prop) : gx (.d .bool (.bool b)) want p q = gk b want p q := id rfl
theorem gx_u' (want : Bool) (p q : Prop) : gx (.tup []) want p q = q := id rfl
theorem gx_tt {x : V} {p q : Prop} (h : x = .d .bool (.bool true)) : gx x true p q = p := by subst h; exact gk_tt p q
theorem gx_tf {x : V} {p q : Prop} (h : x = .d .bool (.bool true)) : gx x false p q = q := by subst h; exact gk_tf p q
theorem gx_ft {x : V} {p q : Prop} (h : x = .d .bool (.bool false)) : gx x true p q = q := by subst h; exact gk_ft p q
theorem gx_ff {x : V} {p q : Prop} (h : x = .d .bool (.bool false)) : gx x false p q = p := by subst h; exact gk_ff p q
theorem gx_u2 {x : V} {want : Bool} {p q : Prop} (h : x = .tup []) : gx x want p q = q := by subst h; rfl
/- What follows a value: it waits until the value is known. -/
noncomputable def vcK (X : Cx) (md : List (Nat × Nat)) (ops : Array Oper) (Φ : S → Prop) (rest : List Oper) (dst : Option Nat) (v : V) (s : S) : Prop := vc X md ops Φ rest (s.set dst v)
noncomputable def vdK0 (X : Cx) (md : List (Nat × Nat)) (ops : Array Oper) (Φ : S → Prop) (rest : List Oper) (ts : List Nat) (base s : S) (dst : Option Nat) (v : V) : Prop := vd X md ops Φ rest ts base (s.set dst v)
noncomputable def vdK1 (X : Cx) (md : List (Nat × Nat)) (ops : Array Oper) (Φ : S → Prop) (rest : List Oper) (ts : List Nat) (base s : S) (dst : Option Nat) (v : V) (lo : List (Key × O)) (tn : List (Nat × Option Nat)) : Prop := freshL s lo ∧ freshT s tn ∧ vd X md ops Φ rest ts base ((s.add lo tn).set dst v)
noncomputable def vdK2 (X : Cx) (md : List (Nat × Nat)) (ops : Array Oper) (Φ : S → Prop) (rest : List Oper) (ts : List Nat) (dst : Option Nat) (v : V) (s : S) : Prop := vd X md ops Φ rest ts (s.set dst v) (s.set dst v)
@[go_sem] theorem vc_nil : vc X md ops Φ [] s = Φ s := id rfl
@[go_sem] theorem vc_c0 : vc X md ops Φ (⟨d, op, T, ps, af, none⟩ :: rest) s = sop X md (dstN ⟨d, op, T, ps, af, none⟩) ⟨d, op, T, ps, af, none⟩ s (vcK X md ops Φ rest d) := by simp only [vc]; exact id rfl
@[go_sem] theorem vc_c1 : vc X md ops Φ (⟨d, op, T, ps, af, some (j, want)⟩ :: rest) s = gx (gv ops s j) want (sop X md (dstN ⟨d, op, T, ps, af, some (j, want)⟩) ⟨d, op, T, ps, af, some (j, want)⟩ s (vcK X md ops Φ rest d)) (vc X md ops Φ rest (s.set d (.tup []))) := by simp only [vc]; exact id rfl
@[go_sem] theorem vd_nil : vd X md ops Φ [] ts base s = Φ s := id rfl
@[go_sem] theorem vd_c0 : vd X md ops Φ (⟨d, op, T, ps, af, none⟩ :: rest) ts base s = kop X md ts.head? base s ⟨d, op, T, ps, af, none⟩ (vdK0 X md ops Φ rest ts.tail base s d) (vdK1 X md ops Φ rest ts.tail base s d) (vdK2 X md ops Φ rest ts.tail d) := by simp only [vd]; exact id rfl
@[go_sem] theorem vd_c1 : vd X md ops Φ (⟨d, op, T, ps, af, some (j, want)⟩ :: rest) ts base s = gx (gv ops s j) want (kop X md ts.head? base s ⟨d, op, T, ps, af, some (j, want)⟩ (vdK0 X md ops Φ rest ts.tail base s d) (vdK1 X md ops Φ rest ts.tail base s d) (vdK2 X md ops Φ rest ts.tail d)) (vd X md ops Φ rest ts.tail base (s.set d (.tup []))) := by simp only [vd]; exact id rfl
@[go_sem] theorem vcK_d (τ : Ty) (c : C) : vcK X md ops Φ rest dst (.d τ c) s = vc X md ops Φ rest (s.set dst (.d τ c)) := id rfl
@[go_sem] theorem vdK0_d (τ : Ty) (c : C) : vdK0 X md ops Φ rest ts base s dst (.d τ c) = vd X md ops Φ rest ts base (s.set dst (.d τ c)) := id rfl
@[go_sem] theorem vdK1_d (τ : Ty) (c : C) : vdK1 X md ops Φ rest ts base s dst (.d τ c) lo tn = (freshL s lo ∧ freshT s tn ∧ vd X md ops Φ rest ts base ((s.add lo tn).set dst (.d τ c))) := id rfl
@[go_sem] theorem vdK2_d (τ : Ty) (c : C) : vdK2 X md ops Φ rest ts dst (.d τ c) s = vd X md ops Φ rest ts (s.set dst (.d τ c)) (s.set dst (.d τ c)) := id rfl
@[go_sem] theorem vcK_sl (eb : Nat) (e : Ty) (cs : List C) (t : Nat) : vcK X md ops Φ rest dst (.sl eb e cs t) s = vc X md ops Φ rest (s.set dst (.sl eb e cs t)) := id rfl
@[go_sem] theorem vdK0_sl (eb : Nat) (e : Ty) (cs : List C) (t : Nat) : vdK0 X md ops Φ rest ts base s dst (.sl eb e cs t) = vd X md ops Φ rest ts base (s.set dst (.sl eb e cs t)) := id rfl
@[go_sem] theorem vdK1_sl (eb : Nat) (e : Ty) (cs : List C) (t : Nat) : vdK1 X md ops Φ rest ts base s dst (.sl eb e cs t) lo tn = (freshL s lo ∧ freshT s tn ∧ vd X md ops Φ rest ts base ((s.add lo tn).set dst (.sl eb e cs t))) := id rfl
@[go_sem] theorem vdK2_sl (eb : Nat) (e : Ty) (cs : List C) (t : Nat) : vdK2 X md ops Φ rest ts dst (.sl eb e cs t) s = vd X md ops Φ rest ts (s.set dst (.sl eb e cs t)) (s.set dst (.sl eb e cs t)) := id rfl
@[go_sem] theorem vcK_ts (eb : Nat) (e : Ty) (cs : List C) : vcK X md ops Φ rest dst (.ts eb e cs) s = vc X md ops Φ rest (s.set dst (.ts eb e cs)) := id rfl
@[go_sem] theorem vdK0_ts (eb : Nat) (e : Ty) (cs : List C) : vdK0 X md ops Φ rest ts base s dst (.ts eb e cs) = vd X md ops Φ rest ts base (s.set dst (.ts eb e cs)) := id rfl
@[go_sem] theorem vdK1_ts (eb : Nat) (e : Ty) (cs : List C) : vdK1 X md ops Φ rest ts base s dst (.ts eb e cs) lo tn = (freshL s lo ∧ freshT s tn ∧ vd X md ops Φ rest ts base ((s.add lo tn).set dst (.ts eb e cs))) := id rfl
@[go_sem] theorem vdK2_ts (eb : Nat) (e : Ty) (cs : List C) : vdK2 X md ops Φ rest ts dst (.ts eb e cs) s = vd X md ops Φ rest ts (s.set dst (.ts eb e cs)) (s.set dst (.ts eb e cs)) := id rfl
@[go_sem] theorem vcK_emp (eb : Nat) (e : Ty) : vcK X md ops Φ rest dst (.emp eb e) s = vc X md ops Φ rest (s.set dst (.emp eb e)) := id rfl
@[go_sem] theorem vdK0_emp (eb : Nat) (e : Ty) : vdK0 X md ops Φ rest ts base s dst (.emp eb e) = vd X md ops Φ rest ts base (s.set dst (.emp eb e)) := id rfl
@[go_sem] theorem vdK1_emp (eb : Nat) (e : Ty) : vdK1 X md ops Φ rest ts base s dst (.emp eb e) lo tn = (freshL s lo ∧ freshT s tn ∧ vd X md ops Φ rest ts base ((s.add lo tn).set dst (.emp eb e))) := id rfl
@[go_sem] theorem vdK2_emp (eb : Nat) (e : Ty) : vdK2 X md ops Φ rest ts dst (.emp eb e) s = vd X md ops Φ rest ts (s.set dst (.emp eb e)) (s.set dst (.emp eb e)) := id rfl
@[go_sem] theorem vcK_nilc  : vcK X md ops Φ rest dst .nilc s = vc X md ops Φ rest (s.set dst .nilc) := id rfl
@[go_sem] theorem vdK0_nilc  : vdK0 X md ops Φ rest ts base s dst .nilc = vd X md ops Φ rest ts base (s.set dst .nilc) := id rfl
@[go_sem] theorem vdK1_nilc  : vdK1 X md ops Φ rest ts base s dst .nilc lo tn = (freshL s lo ∧ freshT s tn ∧ vd X md ops Φ rest ts base ((s.add lo tn).set dst .nilc)) := id rfl
@[go_sem] theorem vdK2_nilc  : vdK2 X md ops Φ rest ts dst .nilc s = vd X md ops Φ rest ts (s.set dst .nilc) (s.set dst .nilc) := id rfl
@[go_sem] theorem vcK_ptr (k : Key) (q : List Nat) (τ : Ty) : vcK X md ops Φ rest dst (.ptr k q τ) s = vc X md ops Φ rest (s.set dst (.ptr k q τ)) := id rfl
@[go_sem] theorem vdK0_ptr (k : Key) (q : List Nat) (τ : Ty) : vdK0 X md ops Φ rest ts base s dst (.ptr k q τ) = vd X md ops Φ rest ts base (s.set dst (.ptr k q τ)) := id rfl
@[go_sem] theorem vdK1_ptr (k : Key) (q : List Nat) (τ : Ty) : vdK1 X md ops Φ rest ts base s dst (.ptr k q τ) lo tn = (freshL s lo ∧ freshT s tn ∧ vd X md ops Φ rest ts base ((s.add lo tn).set dst (.ptr k q τ))) := id rfl
@[go_sem] theorem vdK2_ptr (k : Key) (q : List Nat) (τ : Ty) : vdK2 X md ops Φ rest ts dst (.ptr k q τ) s = vd X md ops Φ rest ts (s.set dst (.ptr k q τ)) (s.set dst (.ptr k q τ)) := id rfl
@[go_sem] theorem vcK_cptr (τ : Ty) (c : C) : vcK X md ops Φ rest dst (.cptr τ c) s = vc X md ops Φ rest (s.set dst (.cptr τ c)) := id rfl
@[go_sem] theorem vdK0_cptr (τ : Ty) (c : C) : vdK0 X md ops Φ rest ts base s dst (.cptr τ c) = vd X md ops Φ rest ts base (s.set dst (.cptr τ c)) := id rfl
@[go_sem] theorem vdK1_cptr (τ : Ty) (c : C) : vdK1 X md ops Φ rest ts base s dst (.cptr τ c) lo tn = (freshL s lo ∧ freshT s tn ∧ vd X md ops Φ rest ts base ((s.add lo tn).set dst (.cptr τ c))) := id rfl
@[go_sem] theorem vdK2_cptr (τ : Ty) (c : C) : vdK2 X md ops Φ rest ts dst (.cptr τ c) s = vd X md ops Φ rest ts (s.set dst (.cptr τ c)) (s.set dst (.cptr τ c)) := id rfl
@[go_sem] theorem vcK_sr (k : Key) (q : List Nat) (l0 m : Nat) (cp : Option Nat) (eb : Nat) (e : Ty) : vcK X md ops Φ rest dst (.sr k q l0 m cp eb e) s = vc X md ops Φ rest (s.set dst (.sr k q l0 m cp eb e)) := id rfl
@[go_sem] theorem vdK0_sr (k : Key) (q : List Nat) (l0 m : Nat) (cp : Option Nat) (eb : Nat) (e : Ty) : vdK0 X md ops Φ rest ts base s dst (.sr k q l0 m cp eb e) = vd X md ops Φ rest ts base (s.set dst (.sr k q l0 m cp eb e)) := id rfl
@[go_sem] theorem vdK1_sr (k : Key) (q : List Nat) (l0 m : Nat) (cp : Option Nat) (eb : Nat) (e : Ty) : vdK1 X md ops Φ rest ts base s dst (.sr k q l0 m cp eb e) lo tn = (freshL s lo ∧ freshT s tn ∧ vd X md ops Φ rest ts base ((s.add lo tn).set dst (.sr k q l0 m cp eb e))) := id rfl
@[go_sem] theorem vdK2_sr (k : Key) (q : List Nat) (l0 m : Nat) (cp : Option Nat) (eb : Nat) (e : Ty) : vdK2 X md ops Φ rest ts dst (.sr k q l0 m cp eb e) s = vd X md ops Φ rest ts (s.set dst (.sr k q l0 m cp eb e)) (s.set dst (.sr k q l0 m cp eb e)) := id rfl
@[go_sem] theorem vcK_mp (k : Key) : vcK X md ops Φ rest dst (.mp k) s = vc X md ops Φ rest (s.set dst (.mp k)) := id rfl
@[go_sem] theorem vdK0_mp (k : Key) : vdK0 X md ops Φ rest ts base s dst (.mp k) = vd X md ops Φ rest ts base (s.set dst (.mp k)) := id rfl
@[go_sem] theorem vdK1_mp (k : Key) : vdK1 X md ops Φ rest ts base s dst (.mp k) lo tn = (freshL s lo ∧ freshT s tn ∧ vd X md ops Φ rest ts base ((s.add lo tn).set dst (.mp k))) := id rfl
@[go_sem] theorem vdK2_mp (k : Key) : vdK2 X md ops Φ rest ts dst (.mp k) s = vd X md ops Φ rest ts (s.set dst (.mp k)) (s.set dst (.mp k)) := id rfl
@[go_sem] theorem vcK_agg (τ : Ty) (vs : List V) : vcK X md ops Φ rest dst (.agg τ vs) s = vc X md ops Φ rest (s.set dst (.agg τ vs)) := id rfl
@[go_sem] theorem vdK0_agg (τ : Ty) (vs : List V) : vdK0 X md ops Φ rest ts base s dst (.agg τ vs) = vd X md ops Φ rest ts base (s.set dst (.agg τ vs)) := id rfl
@[go_sem] theorem vdK1_agg (τ : Ty) (vs : List V) : vdK1 X md ops Φ rest ts base s dst (.agg τ vs) lo tn = (freshL s lo ∧ freshT s tn ∧ vd X md ops Φ rest ts base ((s.add lo tn).set dst (.agg τ vs))) := id rfl
@[go_sem] theorem vdK2_agg (τ : Ty) (vs : List V) : vdK2 X md ops Φ rest ts dst (.agg τ vs) s = vd X md ops Φ rest ts (s.set dst (.agg τ vs)) (s.set dst (.agg τ vs)) := id rfl
@[go_sem] theorem vcK_fn (f : FuncId) (caps : List V) : vcK X md ops Φ rest dst (.fn f caps) s = vc X md ops Φ rest (s.set dst (.fn f caps)) := id rfl
@[go_sem] theorem vdK0_fn (f : FuncId) (caps : List V) : vdK0 X md ops Φ rest ts base s dst (.fn f caps) = vd X md ops Φ rest ts base (s.set dst (.fn f caps)) := id rfl
@[go_sem] theorem vdK1_fn (f : FuncId) (caps : List V) : vdK1 X md ops Φ rest ts base s dst (.fn f caps) lo tn = (freshL s lo ∧ freshT s tn ∧ vd X md ops Φ rest ts base ((s.add lo tn).set dst (.fn f caps))) := id rfl
@[go_sem] theorem vdK2_fn (f : FuncId) (caps : List V) : vdK2 X md ops Φ rest ts dst (.fn f caps) s = vd X md ops Φ rest ts (s.set dst (.fn f caps)) (s.set dst (.fn f caps)) := id rfl
@[go_sem] theorem vcK_tup (vs : List V) : vcK X md ops Φ rest dst (.tup vs) s = vc X md ops Φ rest (s.set dst (.tup vs)) := id rfl
@[go_sem] theorem vdK0_tup (vs : List V) : vdK0 X md ops Φ rest ts base s dst (.tup vs) = vd X md ops Φ rest ts base (s.set dst (.tup vs)) := id rfl
@[go_sem] theorem vdK1_tup (vs : List V) : vdK1 X md ops Φ rest ts base s dst (.tup vs) lo tn = (freshL s lo ∧ freshT s tn ∧ vd X md ops Φ rest ts base ((s.add lo tn).set dst (.tup vs))) := id rfl
@[go_sem] theorem vdK2_tup (vs : List V) : vdK2 X md ops Φ rest ts dst (.tup vs) s = vd X md ops Φ rest ts (s.set dst (.tup vs)) (s.set dst (.tup vs)) := id rfl
@[go_sem] theorem vcK_top (τ : Ty) : vcK X md ops Φ rest dst (.top τ) s = vc X md ops Φ rest (s.set dst (.top τ)) := id rfl
@[go_sem] theorem vdK0_top (τ : Ty) : vdK0 X md ops Φ rest ts base s dst (.top τ) = vd X md ops Φ rest ts base (s.set dst (.top τ)) := id rfl
@[go_sem] theorem vdK1_top (τ : Ty) : vdK1 X md ops Φ rest ts base s dst (.top τ) lo tn = (freshL s lo ∧ freshT s tn ∧ vd X md ops Φ rest ts base ((s.add lo tn).set dst (.top τ))) := id rfl
@[go_sem] theorem vdK2_top (τ : Ty) : vdK2 X md ops Φ rest ts dst (.top τ) s = vd X md ops Φ rest ts (s.set dst (.top τ)) (s.set dst (.top τ)) := id rfl
@[go_sem] theorem vcK_any  : vcK X md ops Φ rest dst .any s = vc X md ops Φ rest (s.set dst .any) := id rfl
@[go_sem] theorem vdK0_any  : vdK0 X md ops Φ rest ts base s dst .any = vd X md ops Φ rest ts base (s.set dst .any) := id rfl
@[go_sem] theorem vdK1_any  : vdK1 X md ops Φ rest ts base s dst .any lo tn = (freshL s lo ∧ freshT s tn ∧ vd X md ops Φ rest ts base ((s.add lo tn).set dst .any)) := id rfl
@[go_sem] theorem vdK2_any  : vdK2 X md ops Φ rest ts dst .any s = vd X md ops Φ rest ts (s.set dst .any) (s.set dst .any) := id rfl
noncomputable def vcKN (X : Cx) (md : List (Nat × Nat)) (ops : Array Oper) (Φ : S → Prop) (n : List Unit) (rest : List Oper) (dst : Option Nat) (v : V) (s : S) : Prop := vcN X md ops Φ n rest (s.set dst v)
noncomputable def vdK0N (X : Cx) (md : List (Nat × Nat)) (ops : Array Oper) (Φ : S → Prop) (n : List Unit) (rest : List Oper) (ts : List Nat) (base s : S) (dst : Option Nat) (v : V) : Prop := vdN X md ops Φ n rest ts base (s.set dst v)
noncomputable def vdK1N (X : Cx) (md : List (Nat × Nat)) (ops : Array Oper) (Φ : S → Prop) (n : List Unit) (rest : List Oper) (ts : List Nat) (base s : S) (dst : Option Nat) (v : V) (lo : List (Key × O)) (tn : List (Nat × Option Nat)) : Prop := freshL s lo ∧ freshT s tn ∧ vdN X md ops Φ n rest ts base ((s.add lo tn).set dst v)
noncomputable def vdK2N (X : Cx) (md : List (Nat × Nat)) (ops : Array Oper) (Φ : S → Prop) (n : List Unit) (rest : List Oper) (ts : List Nat) (dst : Option Nat) (v : V) (s : S) : Prop := vdN X md ops Φ n rest ts (s.set dst v) (s.set dst v)
@[go_sem] theorem vcN_nil : vcN X md ops Φ n [] s = Φ s := by simp only [vcN]
@[go_sem] theorem vcN_stop : vcN X md ops Φ [] (o :: rest) s = vcR X md ops Φ (o :: rest) s := by simp only [vcN]
@[go_sem] theorem vcN_c0 : vcN X md ops Φ (u :: n) (⟨d, op, T, ps, af, none⟩ :: rest) s = sop X md (dstN ⟨d, op, T, ps, af, none⟩) ⟨d, op, T, ps, af, none⟩ s (vcKN X md ops Φ n rest d) := by simp only [vcN]; exact id rfl
@[go_sem] theorem vcN_c1 : vcN X md ops Φ (u :: n) (⟨d, op, T, ps, af, some (j, want)⟩ :: rest) s = gx (gv ops s j) want (sop X md (dstN ⟨d, op, T, ps, af, some (j, want)⟩) ⟨d, op, T, ps, af, some (j, want)⟩ s (vcKN X md ops Φ n rest d)) (vcN X md ops Φ n rest (s.set d (.tup []))) := by simp only [vcN]; exact id rfl
@[go_sem] theorem vdN_nil : vdN X md ops Φ n [] ts base s = Φ s := by simp only [vdN]
@[go_sem] theorem vdN_stop : vdN X md ops Φ [] (o :: rest) ts base s = vdR X md ops Φ (o :: rest) ts base s := by simp only [vdN]
@[go_sem] theorem vdN_c0 : vdN X md ops Φ (u :: n) (⟨d, op, T, ps, af, none⟩ :: rest) ts base s = kop X md ts.head? base s ⟨d, op, T, ps, af, none⟩ (vdK0N X md ops Φ n rest ts.tail base s d) (vdK1N X md ops Φ n rest ts.tail base s d) (vdK2N X md ops Φ n rest ts.tail d) := by simp only [vdN]; exact id rfl
@[go_sem] theorem vdN_c1 : vdN X md ops Φ (u :: n) (⟨d, op, T, ps, af, some (j, want)⟩ :: rest) ts base s = gx (gv ops s j) want (kop X md ts.head? base s ⟨d, op, T, ps, af, some (j, want)⟩ (vdK0N X md ops Φ n rest ts.tail base s d) (vdK1N X md ops Φ n rest ts.tail base s d) (vdK2N X md ops Φ n rest ts.tail d)) (vdN X md ops Φ n rest ts.tail base (s.set d (.tup []))) := by simp only [vdN]; exact id rfl
@[go_sem] theorem vcKN_d (τ : Ty) (c : C) : vcKN X md ops Φ n rest dst (.d τ c) s = vcN X md ops Φ n rest (s.set dst (.d τ c)) := id rfl
@[go_sem] theorem vdK0N_d (τ : Ty) (c : C) : vdK0N X md ops Φ n rest ts base s dst (.d τ c) = vdN X md ops Φ n rest ts base (s.set dst (.d τ c)) := id rfl
@[go_sem] theorem vdK1N_d (τ : Ty) (c : C) : vdK1N X md ops Φ n rest ts base s dst (.d τ c) lo tn = (freshL s lo ∧ freshT s tn ∧ vdN X md ops Φ n rest ts base ((s.add lo tn).set dst (.d τ c))) := id rfl
@[go_sem] theorem vdK2N_d (τ : Ty) (c : C) : vdK2N X md ops Φ n rest ts dst (.d τ c) s = vdN X md ops Φ n rest ts (s.set dst (.d τ c)) (s.set dst (.d τ c)) := id rfl
@[go_sem] theorem vcKN_sl (eb : Nat) (e : Ty) (cs : List C) (t : Nat) : vcKN X md ops Φ n rest dst (.sl eb e cs t) s = vcN X md ops Φ n rest (s.set dst (.sl eb e cs t)) := id rfl
@[go_sem] theorem vdK0N_sl (eb : Nat) (e : Ty) (cs : List C) (t : Nat) : vdK0N X md ops Φ n rest ts base s dst (.sl eb e cs t) = vdN X md ops Φ n rest ts base (s.set dst (.sl eb e cs t)) := id rfl
@[go_sem] theorem vdK1N_sl (eb : Nat) (e : Ty) (cs : List C) (t : Nat) : vdK1N X md ops Φ n rest ts base s dst (.sl eb e cs t) lo tn = (freshL s lo ∧ freshT s tn ∧ vdN X md ops Φ n rest ts base ((s.add lo tn).set dst (.sl eb e cs t))) := id rfl
@[go_sem] theorem vdK2N_sl (eb : Nat) (e : Ty) (cs : List C) (t : Nat) : vdK2N X md ops Φ n rest ts dst (.sl eb e cs t) s = vdN X md ops Φ n rest ts (s.set dst (.sl eb e cs t)) (s.set dst (.sl eb e cs t)) := id rfl
@[go_sem] theorem vcKN_ts (eb : Nat) (e : Ty) (cs : List C) : vcKN X md ops Φ n rest dst (.ts eb e cs) s = vcN X md ops Φ n rest (s.set dst (.ts eb e cs)) := id rfl
@[go_sem] theorem vdK0N_ts (eb : Nat) (e : Ty) (cs : List C) : vdK0N X md ops Φ n rest ts base s dst (.ts eb e cs) = vdN X md ops Φ n rest ts base (s.set dst (.ts eb e cs)) := id rfl
@[go_sem] theorem vdK1N_ts (eb : Nat) (e : Ty) (cs : List C) : vdK1N X md ops Φ n rest ts base s dst (.ts eb e cs) lo tn = (freshL s lo ∧ freshT s tn ∧ vdN X md ops Φ n rest ts base ((s.add lo tn).set dst (.ts eb e cs))) := id rfl
@[go_sem] theorem vdK2N_ts (eb : Nat) (e : Ty) (cs : List C) : vdK2N X md ops Φ n rest ts dst (.ts eb e cs) s = vdN X md ops Φ n rest ts (s.set dst (.ts eb e cs)) (s.set dst (.ts eb e cs)) := id rfl
@[go_sem] theorem vcKN_emp (eb : Nat) (e : Ty) : vcKN X md ops Φ n rest dst (.emp eb e) s = vcN X md ops Φ n rest (s.set dst (.emp eb e)) := id rfl
@[go_sem] theorem vdK0N_emp (eb : Nat) (e : Ty) : vdK0N X md ops Φ n rest ts base s dst (.emp eb e) = vdN X md ops Φ n rest ts base (s.set dst (.emp eb e)) := id rfl
@[go_sem] theorem vdK1N_emp (eb : Nat) (e : Ty) : vdK1N X md ops Φ n rest ts base s dst (.emp eb e) lo tn = (freshL s lo ∧ freshT s tn ∧ vdN X md ops Φ n rest ts base ((s.add lo tn).set dst (.emp eb e))) := id rfl
@[go_sem] theorem vdK2N_emp (eb : Nat) (e : Ty) : vdK2N X md ops Φ n rest ts dst (.emp eb e) s = vdN X md ops Φ n rest ts (s.set dst (.emp eb e)) (s.set dst (.emp eb e)) := id rfl
@[go_sem] theorem vcKN_nilc  : vcKN X md ops Φ n rest dst .nilc s = vcN X md ops Φ n rest (s.set dst .nilc) := id rfl
@[go_sem] theorem vdK0N_nilc  : vdK0N X md ops Φ n rest ts base s dst .nilc = vdN X md ops Φ n rest ts base (s.set dst .nilc) := id rfl
@[go_sem] theorem vdK1N_nilc  : vdK1N X md ops Φ n rest ts base s dst .nilc lo tn = (freshL s lo ∧ freshT s tn ∧ vdN X md ops Φ n rest ts base ((s.add lo tn).set dst .nilc)) := id rfl
@[go_sem] theorem vdK2N_nilc  : vdK2N X md ops Φ n rest ts dst .nilc s = vdN X md ops Φ n rest ts (s.set dst .nilc) (s.set dst .nilc) := id rfl
@[go_sem] theorem vcKN_ptr (k : Key) (q : List Nat) (τ : Ty) : vcKN X md ops Φ n rest dst (.ptr k q τ) s = vcN X md ops Φ n rest (s.set dst (.ptr k q τ)) := id rfl
@[go_sem] theorem vdK0N_ptr (k : Key) (q : List Nat) (τ : Ty) : vdK0N X md ops Φ n rest ts base s dst (.ptr k q τ) = vdN X md ops Φ n rest ts base (s.set dst (.ptr k q τ)) := id rfl
@[go_sem] theorem vdK1N_ptr (k : Key) (q : List Nat) (τ : Ty) : vdK1N X md ops Φ n rest ts base s dst (.ptr k q τ) lo tn = (freshL s lo ∧ freshT s tn ∧ vdN X md ops Φ n rest ts base ((s.add lo tn).set dst (.ptr k q τ))) := id rfl
@[go_sem] theorem vdK2N_ptr (k : Key) (q : List Nat) (τ : Ty) : vdK2N X md ops Φ n rest ts dst (.ptr k q τ) s = vdN X md ops Φ n rest ts (s.set dst (.ptr k q τ)) (s.set dst (.ptr k q τ)) := id rfl
@[go_sem] theorem vcKN_cptr (τ : Ty) (c : C) : vcKN X md ops Φ n rest dst (.cptr τ c) s = vcN X md ops Φ n rest (s.set dst (.cptr τ c)) := id rfl
@[go_sem] theorem vdK0N_cptr (τ : Ty) (c : C) : vdK0N X md ops Φ n rest ts base s dst (.cptr τ c) = vdN X md ops Φ n rest ts base (s.set dst (.cptr τ c)) := id rfl
@[go_sem] theorem vdK1N_cptr (τ : Ty) (c : C) : vdK1N X md ops Φ n rest ts base s dst (.cptr τ c) lo tn = (freshL s lo ∧ freshT s tn ∧ vdN X md ops Φ n rest ts base ((s.add lo tn).set dst (.cptr τ c))) := id rfl
@[go_sem] theorem vdK2N_cptr (τ : Ty) (c : C) : vdK2N X md ops Φ n rest ts dst (.cptr τ c) s = vdN X md ops Φ n rest ts (s.set dst (.cptr τ c)) (s.set dst (.cptr τ c)) := id rfl
@[go_sem] theorem vcKN_sr (k : Key) (q : List Nat) (l0 m : Nat) (cp : Option Nat) (eb : Nat) (e : Ty) : vcKN X md ops Φ n rest dst (.sr k q l0 m cp eb e) s = vcN X md ops Φ n rest (s.set dst (.sr k q l0 m cp eb e)) := id rfl
@[go_sem] theorem vdK0N_sr (k : Key) (q : List Nat) (l0 m : Nat) (cp : Option Nat) (eb : Nat) (e : Ty) : vdK0N X md ops Φ n rest ts base s dst (.sr k q l0 m cp eb e) = vdN X md ops Φ n rest ts base (s.set dst (.sr k q l0 m cp eb e)) := id rfl
@[go_sem] theorem vdK1N_sr (k : Key) (q : List Nat) (l0 m : Nat) (cp : Option Nat) (eb : Nat) (e : Ty) : vdK1N X md ops Φ n rest ts base s dst (.sr k q l0 m cp eb e) lo tn = (freshL s lo ∧ freshT s tn ∧ vdN X md ops Φ n rest ts base ((s.add lo tn).set dst (.sr k q l0 m cp eb e))) := id rfl
@[go_sem] theorem vdK2N_sr (k : Key) (q : List Nat) (l0 m : Nat) (cp : Option Nat) (eb : Nat) (e : Ty) : vdK2N X md ops Φ n rest ts dst (.sr k q l0 m cp eb e) s = vdN X md ops Φ n rest ts (s.set dst (.sr k q l0 m cp eb e)) (s.set dst (.sr k q l0 m cp eb e)) := id rfl
@[go_sem] theorem vcKN_mp (k : Key) : vcKN X md ops Φ n rest dst (.mp k) s = vcN X md ops Φ n rest (s.set dst (.mp k)) := id rfl
@[go_sem] theorem vdK0N_mp (k : Key) : vdK0N X md ops Φ n rest ts base s dst (.mp k) = vdN X md ops Φ n rest ts base (s.set dst (.mp k)) := id rfl
@[go_sem] theorem vdK1N_mp (k : Key) : vdK1N X md ops Φ n rest ts base s dst (.mp k) lo tn = (freshL s lo ∧ freshT s tn ∧ vdN X md ops Φ n rest ts base ((s.add lo tn).set dst (.mp k))) := id rfl
@[go_sem] theorem vdK2N_mp (k : Key) : vdK2N X md ops Φ n rest ts dst (.mp k) s = vdN X md ops Φ n rest ts (s.set dst (.mp k)) (s.set dst (.mp k)) := id rfl
@[go_sem] theorem vcKN_agg (τ : Ty) (vs : List V) : vcKN X md ops Φ n rest dst (.agg τ vs) s = vcN X md ops Φ n rest (s.set dst (.agg τ vs)) := id rfl
@[go_sem] theorem vdK0N_agg (τ : Ty) (vs : List V) : vdK0N X md ops Φ n rest ts base s dst (.agg τ vs) = vdN X md ops Φ n rest ts base (s.set dst (.agg τ vs)) := id rfl
@[go_sem] theorem vdK1N_agg (τ : Ty) (vs : List V) : vdK1N X md ops Φ n rest ts base s dst (.agg τ vs) lo tn = (freshL s lo ∧ freshT s tn ∧ vdN X md ops Φ n rest ts base ((s.add lo tn).set dst (.agg τ vs))) := id rfl
@[go_sem] theorem vdK2N_agg (τ : Ty) (vs : List V) : vdK2N X md ops Φ n rest ts dst (.agg τ vs) s = vdN X md ops Φ n rest ts (s.set dst (.agg τ vs)) (s.set dst (.agg τ vs)) := id rfl
@[go_sem] theorem vcKN_fn (f : FuncId) (caps : List V) : vcKN X md ops Φ n rest dst (.fn f caps) s = vcN X md ops Φ n rest (s.set dst (.fn f caps)) := id rfl
@[go_sem] theorem vdK0N_fn (f : FuncId) (caps : List V) : vdK0N X md ops Φ n rest ts base s dst (.fn f caps) = vdN X md ops Φ n rest ts base (s.set dst (.fn f caps)) := id rfl
@[go_sem] theorem vdK1N_fn (f : FuncId) (caps : List V) : vdK1N X md ops Φ n rest ts base s dst (.fn f caps) lo tn = (freshL s lo ∧ freshT s tn ∧ vdN X md ops Φ n rest ts base ((s.add lo tn).set dst (.fn f caps))) := id rfl
@[go_sem] theorem vdK2N_fn (f : FuncId) (caps : List V) : vdK2N X md ops Φ n rest ts dst (.fn f caps) s = vdN X md ops Φ n rest ts (s.set dst (.fn f caps)) (s.set dst (.fn f caps)) := id rfl
@[go_sem] theorem vcKN_tup (vs : List V) : vcKN X md ops Φ n rest dst (.tup vs) s = vcN X md ops Φ n rest (s.set dst (.tup vs)) := id rfl
@[go_sem] theorem vdK0N_tup (vs : List V) : vdK0N X md ops Φ n rest ts base s dst (.tup vs) = vdN X md ops Φ n rest ts base (s.set dst (.tup vs)) := id rfl
@[go_sem] theorem vdK1N_tup (vs : List V) : vdK1N X md ops Φ n rest ts base s dst (.tup vs) lo tn = (freshL s lo ∧ freshT s tn ∧ vdN X md ops Φ n rest ts base ((s.add lo tn).set dst (.tup vs))) := id rfl
@[go_sem] theorem vdK2N_tup (vs : List V) : vdK2N X md ops Φ n rest ts dst (.tup vs) s = vdN X md ops Φ n rest ts (s.set dst (.tup vs)) (s.set dst (.tup vs)) := id rfl
@[go_sem] theorem vcKN_top (τ : Ty) : vcKN X md ops Φ n rest dst (.top τ) s = vcN X md ops Φ n rest (s.set dst (.top τ)) := id rfl
@[go_sem] theorem vdK0N_top (τ : Ty) : vdK0N X md ops Φ n rest ts base s dst (.top τ) = vdN X md ops Φ n rest ts base (s.set dst (.top τ)) := id rfl
@[go_sem] theorem vdK1N_top (τ : Ty) : vdK1N X md ops Φ n rest ts base s dst (.top τ) lo tn = (freshL s lo ∧ freshT s tn ∧ vdN X md ops Φ n rest ts base ((s.add lo tn).set dst (.top τ))) := id rfl
@[go_sem] theorem vdK2N_top (τ : Ty) : vdK2N X md ops Φ n rest ts dst (.top τ) s = vdN X md ops Φ n rest ts (s.set dst (.top τ)) (s.set dst (.top τ)) := id rfl
@[go_sem] theorem vcKN_any  : vcKN X md ops Φ n rest dst .any s = vcN X md ops Φ n rest (s.set dst .any) := id rfl
@[go_sem] theorem vdK0N_any  : vdK0N X md ops Φ n rest ts base s dst .any = vdN X md ops Φ n rest ts base (s.set dst .any) := id rfl
@[go_sem] theorem vdK1N_any  : vdK1N X md ops Φ n rest ts base s dst .any lo tn = (freshL s lo ∧ freshT s tn ∧ vdN X md ops Φ n rest ts base ((s.add lo tn).set dst .any)) := id rfl
@[go_sem] theorem vdK2N_any  : vdK2N X md ops Φ n rest ts dst .any s = vdN X md ops Φ n rest ts (s.set dst .any) (s.set dst .any) := id rfl
end
end Go.E

namespace Go.E
open Go

/- What data of a type look like. -/
mutual
def C.wf : Ty → C → Prop
  | .int k, c => c = .int c.toInt ∧ k.min ≤ c.toInt ∧ c.toInt ≤ k.max
  | .bool, c => c = .bool c.toBool
  | .str, c => c = .str c.toStr ∧ c.toStr.length ≤ 140737488355328
  | .slice eb e, c => c = .slice c.elems ∧ c.elems.length * eb ≤ 140737488355328 ∧ c.elems.length ≤ 9223372036854775807 ∧ ∀ x ∈ c.elems, C.wf e x
  | .arr n e, c => c = .agg c.elems ∧ c.elems.length = n ∧ ∀ x ∈ c.elems, C.wf e x
  | .struct _ _ fs, c => c = .agg c.elems ∧ C.wfs fs c.elems
  | .opq _, _ => False
  | _, c => c = .nil
def C.wfs : List Ty → List C → Prop
  | [], cs => cs = []
  | f :: fs, cs => ∃ c cs', cs = c :: cs' ∧ C.wf f c ∧ C.wfs fs cs'
end
theorem C.wfs_length : ∀ {fs : List Ty} {cs : List C}, C.wfs fs cs → cs.length = fs.length
  | [], _, h => by simp only [C.wfs] at h; simp [h]
  | f :: fs, cs, h => by
    simp only [C.wfs] at h
    obtain ⟨c, cs', rfl, _, h⟩ := h
    simp [C.wfs_length h]
theorem C.wfs_get : ∀ {fs : List Ty} {cs : List C} {i : Nat} {f : Ty}, C.wfs fs cs → fs[i]? = some f → C.wf f (cs.getD i .nil)
  | [], _, _, _, _, h => by simp at h
  | g :: fs, cs, i, f, h, hi => by
    simp only [C.wfs] at h
    obtain ⟨c, cs', rfl, h1, h2⟩ := h
    cases i with
    | zero => simp at hi; subst hi; simpa using h1
    | succ i => simpa using C.wfs_get h2 (show fs[i]? = some f by simpa using hi)
theorem C.wf_field {sz : Nat} {os : List Nat} {fs : List Ty} {c : C} {i : Nat} {f : Ty} (h : C.wf (.struct sz os fs) c) (hi : fs[i]? = some f) : C.wf f (c.get i) := by
  simp only [C.wf] at h
  rw [h.1]
  exact C.wfs_get h.2 hi
theorem C.wf_kid {τ f : Ty} {c : C} {i : Nat} (h : C.wf τ c) (hs : τ.isStruct = true) (hf : τ.get i = f) (hn : (τ.child i).isSome = true) : C.wf f (c.get i) := by
  cases τ <;> simp [Ty.isStruct] at hs
  rename_i sz os fs
  refine C.wf_field h ?_
  simp only [Ty.get] at hf
  simp only [Ty.child] at hn
  cases ho : os[i]? with
  | none => simp [ho] at hn
  | some o =>
    cases hg : fs[i]? with
    | none => simp [ho, hg] at hn
    | some g => rw [List.getD_eq_getElem?_getD, hg] at hf; simpa using hf
theorem C.wf_item {n : Nat} {e : Ty} {c : C} {i : Nat} (h : C.wf (.arr n e) c) (hi : i < n) : C.wf e (c.get i) := by
  simp only [C.wf] at h
  obtain ⟨h1, h2, h3⟩ := h
  rw [h1]
  simp only [c_get_agg]
  have : i < c.elems.length := by omega
  rw [List.getD_eq_getElem?_getD, List.getElem?_eq_getElem this]
  exact h3 _ (List.getElem_mem this)
theorem C.wf_elem {eb : Nat} {e : Ty} {c : C} {i : Nat} (h : C.wf (.slice eb e) c) (hi : i < c.elems.length) : C.wf e (c.elems.getD i .nil) := by
  simp only [C.wf] at h
  rw [List.getD_eq_getElem?_getD, List.getElem?_eq_getElem hi]
  exact h.2.2.2 _ (List.getElem_mem hi)
mutual
theorem RepC.wf {H : Hp} : ∀ {τ : Ty} {vs : List Value} {c : C}, RepC H τ vs c → C.wf τ c
  | .int k, vs, c, h => by
    simp only [RepC] at h
    obtain ⟨n, rfl, _, h1, h2⟩ := h
    exact ⟨rfl, h1, h2⟩
  | .bool, vs, c, h => by
    simp only [RepC] at h
    obtain ⟨n, rfl, _⟩ := h
    rfl
  | .str, vs, c, h => by
    simp only [RepC] at h
    obtain ⟨n, rfl, _, h1⟩ := h
    exact ⟨rfl, h1⟩
  | .slice eb e, vs, c, h => by
    simp only [RepC] at h
    obtain ⟨a, n, cap, cs, rfl, rfl, h1, h2, h3, h4, h5⟩ := h
    simp only [C.wf, C.elems]
    refine ⟨trivial, by rw [h1]; exact h4, by unfold maxLen at h3; omega, fun x hx => ?_⟩
    obtain ⟨i, hi⟩ := List.getElem?_of_mem hx
    rcases h5 with h5 | ⟨b, off, l, _, _, _, hr⟩
    · subst h5; have := (List.getElem?_eq_some_iff.1 hi).1; omega
    · exact RepC.wf (hr i x hi)
  | .arr n e, vs, c, h => by
    simp only [RepC] at h
    obtain ⟨cs, rfl, h1, h2, h4, h3⟩ := h
    simp only [C.wf, C.elems]
    refine ⟨trivial, h1, fun x hx => ?_⟩
    obtain ⟨i, hi⟩ := List.getElem?_of_mem hx
    exact RepC.wf (h3 i x hi)
  | .struct sz os fs, vs, c, h => by
    simp only [RepC] at h
    obtain ⟨cs, rfl, _, _, h2⟩ := h
    simp only [C.wf, C.elems]
    exact ⟨trivial, RepFs.wf h2⟩
  | .ptr, vs, c, h | .map, vs, c, h | .func, vs, c, h | .iface, vs, c, h => by
    simp only [RepC] at h
    simp only [C.wf]; exact h.1
  | .opq _, _, _, h => by simp only [RepC] at h
theorem RepFs.wf {H : Hp} : ∀ {fs : List Ty} {os : List Nat} {vs : List Value} {cs : List C}, RepFs H fs os vs cs → C.wfs fs cs
  | [], _, _, _, h => by simp only [RepFs] at h; simp only [C.wfs]; exact h
  | f :: fs, o :: os, vs, cs, h => by
    simp only [RepFs] at h
    obtain ⟨c, cs', rfl, _, h2, h3⟩ := h
    simp only [C.wfs]
    exact ⟨c, cs', rfl, RepC.wf h2, RepFs.wf h3⟩
  | _ :: _, [], _, _, h => by simp [RepFs] at h
end
mutual
def V.wf : V → Prop
  | .d τ c => C.wf τ c
  | .sl eb e cs _ => C.wf (.slice eb e) (.slice cs)
  | .ts eb e cs => C.wf (.slice eb e) (.slice cs)
  | .sr _ _ _ n _ eb _ => n * eb ≤ 140737488355328 ∧ n ≤ 9223372036854775807
  | .cptr τ c => C.wf τ c
  | .agg _ vs => V.wfs vs
  | _ => True
def V.wfs : List V → Prop
  | [] => True
  | x :: xs => x.wf ∧ V.wfs xs
end
mutual
theorem RepX.wf {Γ : G} {hm : Option Key} : ∀ {x : V} {p : List Nat} {vs : List Value}, RepX Γ hm p x vs → x.wf
  | .d τ c, _, _, h => by simp only [RepX] at h; exact h.wf
  | .sl eb e cs t, _, _, h => by simp only [RepX] at h; obtain ⟨a, n, cap, _, h, _⟩ := h; exact h.wf
  | .ts eb e cs, _, _, h => by simp only [RepX] at h; obtain ⟨a, n, cap, k, _, _, h, _⟩ := h; exact h.wf
  | .sr _ _ _ n _ eb _, _, _, h => by
    simp only [RepX] at h
    obtain ⟨b, τ0, o, m, cap, _, _, _, _, h1, h2, h3, _⟩ := h
    exact ⟨h3, by unfold maxLen at h2; omega⟩
  | .cptr τ c, _, _, h => by simp only [RepX] at h; obtain ⟨b, off, l, _, _, _, h⟩ := h; exact h.wf
  | .agg _ vs, _, _, h => by simp only [RepX] at h; exact RepXs.wf h.2.2.2.2
  | .emp _ _, _, _, _ | .nilc, _, _, _ | .ptr _ _ _, _, _, _ | .mp _, _, _, _ | .fn _ _, _, _, _ | .tup _, _, _, _ | .top _, _, _, _ | .any, _, _, _ => by simp only [V.wf]
theorem RepXs.wf {Γ : G} {hm : Option Key} : ∀ {xs : List V} {p : List Nat} {i : Nat} {τ : Ty} {vs : List Value}, RepXs Γ hm p i τ xs vs → V.wfs xs
  | [], _, _, _, _, _ => by simp only [V.wfs]
  | x :: xs, _, _, _, _, h => by
    simp only [RepXs] at h
    obtain ⟨⟨o, f, _, _, _, h1⟩, h2⟩ := h
    exact ⟨RepX.wf h1, RepXs.wf h2⟩
end
def V.wfT : V → Prop
  | .tup xs => V.wfs xs
  | x => x.wf
theorem RepCaps.wf {Γ : G} : ∀ {xs : List V} {vs : List Value}, RepCaps Γ xs vs → V.wfs xs
  | [], _, _ => by simp only [V.wfs]
  | x :: xs, _, h => by
    simp only [RepCaps] at h
    obtain ⟨v, vs', _, h1, _, h2⟩ := h
    exact ⟨RepX.wf h1, RepCaps.wf h2⟩
theorem RepV.wf {Γ : G} {x : V} {v : Value} (h : RepV Γ x v) : x.wfT := by
  cases x
  case any => simp only [V.wfT, V.wf]
  case tup xs => obtain ⟨vs, _, h⟩ := h; exact h.wf
  all_goals exact RepX.wf h.1
def O.wf : O → Prop
  | .box x => x.wf
  | .map _ _ es => ∀ c ∈ es, c.2.wf
/-- What is true in any state that a call may stand in. -/
structure WF (s : S) : Prop where
  slot : ∀ t, (s.get t).wfT
  obj : ∀ k x, s.obj k = some (.box x) → x.wf
section
variable {X : Cx} {n : Nat} {s : S} {Ψ : Exit → S → Prop} {c : Code}
theorem At.wf {Γ0 : G} {a : Act} {w : World} (h : At X n Γ0 s a w) : WF s := by
  obtain ⟨Γ, _, _, c, hs, _⟩ := h
  refine ⟨fun t => (hs t).wf, fun k x hk => ?_⟩
  obtain ⟨b, cells, T, _, _, _, _, _, h, _⟩ := c.obj k _ hk
  exact h.wf
theorem dc_facts (h : WF s → DC X n c s Ψ) : DC X n c s Ψ := fun Γ0 a w hat => h hat.wf Γ0 a w hat
theorem WF.at {t : Nat} {x : V} (h : WF s) (ht : s.get t = x) : x.wfT := ht ▸ h.slot t
end
theorem wrap_id {k : IntKind} {n : Int} (h1 : k.min ≤ n) (h2 : n ≤ k.max) : k.wrap n = n := by
  cases k <;> simp [IntKind.wrap, IntKind.min, IntKind.max, IntKind.bits, IntKind.signed] at h1 h2 ⊢ <;> omega
end Go.E

namespace Go.E
open Go

attribute [go_sem] eq_self Option.bind_some Option.bind_none Option.map_some Option.map_none Bool.not_true Bool.not_false decide_true decide_false forall_const true_implies false_implies
attribute [go_sem] implies_true not_true not_false_iff sop iop kop lk List.head?_cons List.tail_cons List.head?_nil
attribute [go_sem] strOf Ty.isU8 Op.operands Call.operands freshL freshT top modeOf_nil modeOf_cons pv pvFieldAddr pvLen pvUn pvConv
attribute [go_sem] pvBuiltin pvIndexAddr pvSlice boundI V.asSl cut pvBin_eq pvBinT_int pvBinT_beq pvBinT_bne pvBinT_str pvBinT_ptr_eq
attribute [go_sem] pvBinT_ptr_ne pvBinT_nil_eq pvBinT_nil_ne pvBinT_sl_eq pvBinT_sd_eq pvBinT_sr_eq pvBinT_emp_eq pvBinT_nilc_eq nilV pvBinT_arr Bool.false_eq_true if_true if_false intBin strBin shBin aggBin BinOp.isShift
attribute [go_sem] dstN evalA constV numbered slots V.slot tksOf V.tkOf V.slotR V.tkR S.start get_cons
attribute [go_sem] get_nil set_some set_none put_mk tok_mk add_mk obj_mk_nil obj_mk_nil_l obj_mk_cons live_mk liveT_nil liveT_cons
attribute [go_sem] known_mk_nil known_mk_cons up_mk O.ren V.ren V.rens putN hasN replN putK hasK replK
attribute [go_sem] E.look lookK Nat.zero_ne_one Nat.one_ne_zero argsOf argOf argTk passed nodupN callArgs callTs gOk
attribute [go_sem] tOk S.ret putL putT dieT dn rk dnL dnT killT srcK elemsOf
attribute [go_sem] V.sites V.sitess V.homed V.homeds V.okH V.okHs V.detok V.detoks gslot Option.getD_some Option.getD_none or_false
attribute [go_sem] false_or and_true true_and and_self or_true true_or or_self List.nil_append List.cons_append List.append_nil V.isInt V.isAnyInt
attribute [go_sem] V.isBool V.isStr V.isData toInt_d toBool_d toStr_d toC_d c_int c_bool c_str c_slice c_agg
attribute [go_sem] c_get_agg vat_nil vat_cons vget_d vget_agg arr_get V.setAt V.set C.set expandFrom asTy buildV
attribute [go_sem] buildOk V.ty V.plain V.noSl V.noSls V.nilQ view views closeV closeVs List.map_cons List.map_nil
attribute [go_sem] List.getD_cons_zero List.getD_cons_succ List.set_cons_zero List.set_cons_succ List.all_cons List.all_nil Array.getD_eq_getD_getElem? ne_eq not_false_eq_true not_true_eq_false Ty.size known_int
attribute [go_sem] isAgg_int known_bool isAgg_bool known_str isAgg_str known_slice isAgg_slice known_arr isAgg_arr known_ptr isAgg_ptr known_map
attribute [go_sem] isAgg_map known_func isAgg_func known_iface isAgg_iface child_arr kidTys_arr slice_get Option.isSome_some Option.isSome_none List.getElem?_toArray List.getElem?_cons_zero
attribute [go_sem] List.getElem?_cons_succ List.size_toArray List.length_cons List.length_nil Nat.lt_add_one Nat.zero_lt_succ Bool.and_true Bool.true_and Bool.or_true Bool.true_or Bool.or_false Bool.false_or
attribute [go_sem] cond_true cond_false Key.l.injEq Key.g.injEq Bool.and_eq_true List.contains_nil List.contains_cons Bool.and_self decide_eq_true_eq Nat.not_lt_zero List.replicate List.replicate_zero
/- Zero values of arrays stay as they are. -/
@[go_sem] theorem zeroC_int (k : IntKind) : zeroC (.int k) = .int 0 := rfl
@[go_sem] theorem zeroC_bool : zeroC .bool = .bool false := rfl
@[go_sem] theorem zeroC_str : zeroC .str = .str [] := rfl
@[go_sem] theorem zeroC_slice (eb : Nat) (e : Ty) : zeroC (.slice eb e) = .slice [] := rfl
@[go_sem] theorem zeroC_ptr : zeroC .ptr = .nil := rfl
@[go_sem] theorem zeroC_map : zeroC .map = .nil := rfl
@[go_sem] theorem zeroC_func : zeroC .func = .nil := rfl
@[go_sem] theorem zeroC_iface : zeroC .iface = .nil := rfl
theorem zeroC_arr (n : Nat) (e : Ty) : zeroC (.arr n e) = .agg (List.replicate n (zeroC e)) := rfl
attribute [go_sem] zeroX V.d.injEq V.emp.injEq
attribute [go_sem] false_and and_false s00_obj gk_tt gk_ff gk_tf gk_ft gx_b' gx_u' gv
attribute [go_sem] locW locOk allG ressChk resChk ress resOf retV resIntos resInto resTk somes V.into V.intos O.into V.ok V.oks V.oksM O.ok hasL none0 List.isEmpty_nil List.isEmpty_cons Option.isSome_some Option.isSome_none
section
variable {X : Cx} {n : Nat} {c : Code} {Ψ : Exit → S → Prop} {md : List (Nat × Nat)} {ops : Array Oper} {Φ : S → Prop} {m : List Unit} {l : List Oper} {ts : List Nat} {dst : Nat} {o : Oper} {K : V → S → Prop} {s s' b b' : S}
@[congr] theorem DC.cg (h : s = s') : DC X n c s Ψ = DC X n c s' Ψ := by rw [h]
@[congr] theorem vcN.cg (h : s = s') : vcN X md ops Φ m l s = vcN X md ops Φ m l s' := by rw [h]
@[congr] theorem vc.cg (h : s = s') : vc X md ops Φ l s = vc X md ops Φ l s' := by rw [h]
@[congr] theorem vcR.cg (h : s = s') : vcR X md ops Φ l s = vcR X md ops Φ l s' := by rw [h]
@[congr] theorem vdN.cg (h : b = b') (h' : s = s') : vdN X md ops Φ m l ts b s = vdN X md ops Φ m l ts b' s' := by rw [h, h']
@[congr] theorem vd.cg (h : b = b') (h' : s = s') : vd X md ops Φ l ts b s = vd X md ops Φ l ts b' s' := by rw [h, h']
@[congr] theorem vdR.cg (h : b = b') (h' : s = s') : vdR X md ops Φ l ts b s = vdR X md ops Φ l ts b' s' := by rw [h, h']
@[congr] theorem sop.cg (h : s = s') : sop X md dst o s K = sop X md dst o s' K := by rw [h]
end
end Go.E

namespace Go.E
open Go

section
variable {X : Cx} {n : Nat} {s : S} {Ψ : Exit → S → Prop}
/-- Of a family of states, one with the least measure that a call stands in. -/
theorem least_at {Γ0 : G} {ι : Type} (I : ι → S) (μ : ι → Nat) {a : Act} {w : World} (h : ∃ i, At X n Γ0 (I i) a w) : ∃ m, ∃ i, At X n Γ0 (I i) a w ∧ μ i = m ∧ ∀ j, At X n Γ0 (I j) a w → m ≤ μ j := by
  obtain ⟨i, hi⟩ := h
  have : ∀ m i, μ i = m → At X n Γ0 (I i) a w → ∃ m, ∃ i, At X n Γ0 (I i) a w ∧ μ i = m ∧ ∀ j, At X n Γ0 (I j) a w → m ≤ μ j := by
    intro m
    induction m using Nat.strongRecOn with
    | _ m ih =>
      intro i hm hi
      by_cases h : ∃ j, At X n Γ0 (I j) a w ∧ μ j < m
      · obtain ⟨j, hj, hlt⟩ := h
        exact ih _ hlt j rfl hj
      · exact ⟨m, i, hi, hm, fun j hj => Nat.le_of_not_lt fun hlt => h ⟨j, hj, hlt⟩⟩
  exact this _ i rfl hi

/-- A scope with one label that the run jumps back to. -/
theorem dc_scope {c rest : Code} (l : Nat) (hf : findLabel c l = some rest) {ι : Type} (I : ι → S) (μ : ι → Nat)
    (first : DC X n c s fun e s' => match e with | .goto l' => l' = l ∧ ∃ i, Weak X n s' (I i) | e => Ψ e s')
    (pass : ∀ i, DC X n rest (I i) fun e s' => match e with | .goto l' => l' = l ∧ ∃ j, Weak X n s' (I j) ∧ μ j < μ i | e => Ψ e s') : DC X n (.scope c) s Ψ := by
  intro Γ0 a w hat
  open Classical in
  refine wp_scope_jumps l (fun a w => ∃ i, At X n Γ0 (I i) a w) (fun a w => if h : ∃ i, At X n Γ0 (I i) a w then Classical.choose (least_at I μ h) else 0) hf ?_ ?_
  · refine wp_mono (first Γ0 a w hat) ?_
    rintro e a' w' ⟨s', h1, h2⟩
    cases e with
    | goto l' =>
      obtain ⟨e1, i, hi⟩ := h1
      exact ⟨e1, i, hi Γ0 a' w' h2⟩
    | normal | exit _ | ret | panic _ | outgrown => exact ⟨s', h1, h2⟩
  · intro a w hI
    obtain ⟨i, hi, hm, hmin⟩ := Classical.choose_spec (least_at I μ hI)
    refine wp_mono (pass i Γ0 a w hi) ?_
    rintro e a' w' ⟨s', h1, h2⟩
    cases e with
    | goto l' =>
      obtain ⟨e1, j, hj, hlt⟩ := h1
      have hat' := hj Γ0 a' w' h2
      have hI' : ∃ i, At X n Γ0 (I i) a' w' := ⟨j, hat'⟩
      refine ⟨e1, hI', ?_⟩
      obtain ⟨i', hi', hm', hmin'⟩ := Classical.choose_spec (least_at I μ hI')
      have := hmin' j hat'
      rw [dif_pos hI', dif_pos hI]
      omega
    | normal | exit _ | ret | panic _ | outgrown => exact ⟨s', h1, h2⟩
/-- A scope through which the run goes without a jump. -/
theorem dc_scope_straight {c : Code} (h : DC X n c s fun e s' => match e with | .goto _ => False | e => Ψ e s') : DC X n (.scope c) s Ψ := by
  intro Γ0 a w hat
  refine wp_scope_straight (wp_mono (h Γ0 a w hat) ?_)
  rintro e a' w' ⟨s', h1, h2⟩
  cases e with
  | goto l' => exact h1.elim
  | normal | exit _ | ret | panic _ | outgrown => exact ⟨s', h1, h2⟩

/-- A condition of which nothing is known. -/
theorem dc_cond_top {t : Nat} {c c' : Code} (hb : s.get t = .top .bool) (h1 : DC X n c s Ψ) (h2 : DC X n c' s Ψ) : DC X n (.cond (.tmp t) c c') s Ψ := by
  intro Γ0 a w hat
  have key : ∃ b, a.eval (.tmp t) = .bool b := by
    obtain ⟨Γ, _, _, _, hs, _⟩ := hat
    have := hs t
    rw [hb] at this
    obtain ⟨h1, h2⟩ := (repV_plain rfl).1 this
    rw [cells_of_plain (by simpa [V.ty, Ty.isAgg] using h2)] at h1
    simp only [RepX] at h1
    obtain ⟨b, hv⟩ := h1.2.2 trivial
    exact ⟨b, by simp only [List.cons.injEq, and_true] at hv; exact hv⟩
  obtain ⟨b, hv⟩ := key
  refine wp_cond (t := b) hv ?_
  cases b with
  | true => exact h1 Γ0 a w hat
  | false => exact h2 Γ0 a w hat
/-- A slice without room gets a token. -/
theorem weak_tok {t u eb : Nat} {e : Ty} (hu : s.known u = false) (ht : s.get t = .nilc ∨ s.get t = .emp eb e) : Weak X n s (S.set { s with tk := (u, some 0) :: s.tk } (some t) (.sl eb e [] u)) := by
  rintro Γ0 a w ⟨Γ, g1, g3, c, hs, hn, hf, hA⟩
  obtain ⟨c1, p1, g2⟩ := c.addTok hu (x := none) (L := 0) (fun _ _ _ h => by cases h)
  refine ⟨Γ.addTok u none 0, g1.trans g2, g2.gl.trans g3, conc_set c1 _ _, fun i => ?_, hn, hf, hA⟩
  rw [get_set]
  split
  · rename_i e1
    cases e1
    have h0 := hs t
    obtain ⟨a0, ha⟩ : ∃ a0, a.tmps.getD t undef = .slice a0 0 0 := by
      rcases ht with h | h
      · rw [h] at h0; exact ⟨none, repV_nilc h0⟩
      · rw [h] at h0
        obtain ⟨h1, _⟩ := (repV_one rfl rfl).1 h0
        simp only [RepX] at h1
        obtain ⟨a0, h1⟩ := h1
        exact ⟨a0, by simpa using h1⟩
    rw [ha]
    refine (repV_one rfl rfl).2 ⟨?_, rfl⟩
    simp only [RepX]
    exact ⟨a0, 0, 0, rfl, repC_mk_slice rfl (Nat.le_refl _) (Nat.zero_le _) (by rw [Nat.zero_mul]; exact Nat.zero_le _) (.inl rfl), none, 0, by simp [G.addTok, updN], Nat.le_refl _, fun _ => rfl⟩
  · exact (hs i).pres p1
/-- Cases that hold of a state. -/
theorem dc_or {c : Code} {p q : Prop} (h : p ∨ q) (h1 : p → DC X n c s Ψ) (h2 : q → DC X n c s Ψ) : DC X n c s Ψ := h.elim h1 h2
/-- A loop whose states are told by a count upward, with what is known at each count. -/
theorem dc_count {c : Code} (I : Nat → S) (m : Nat) (p : Nat → Prop) (h0 : Weak X n s (I 0)) (hp : p 0)
    (round : ∀ i, i ≤ m → p i → DC X n c (I i) fun e s' => match e with | .normal => i < m ∧ p (i + 1) ∧ Weak X n s' (I (i + 1)) | e => Ψ e s') : DC X n (.loop c) s Ψ := by
  refine dc_loop (ι := { i : Nat // i ≤ m ∧ p i }) (fun i => I i.1) (fun i => m - i.1) ⟨0, Nat.zero_le _, hp⟩ h0 ?_
  rintro ⟨i, hi, hpi⟩
  refine (round i hi hpi).mono ?_
  intro e s' h
  cases e with
  | normal => exact ⟨⟨i + 1, h.1, h.2.1⟩, h.2.2, by have := h.1; simp only; omega⟩
  | goto _ | exit _ | ret | panic _ | outgrown => exact h
/-- A loop whose states are told by a value, with what is known of it, and what remains to do. -/
theorem dc_while {c : Code} {ι : Type} (I : ι → S) (μ : ι → Nat) (p : ι → Prop) (i0 : ι) (h0 : Weak X n s (I i0)) (hp : p i0)
    (round : ∀ i, p i → DC X n c (I i) fun e s' => match e with | .normal => ∃ j, p j ∧ μ j < μ i ∧ Weak X n s' (I j) | e => Ψ e s') : DC X n (.loop c) s Ψ := by
  refine dc_loop (ι := { i : ι // p i }) (fun i => I i.1) (fun i => μ i.1) ⟨i0, hp⟩ h0 ?_
  rintro ⟨i, hpi⟩
  refine (round i hpi).mono ?_
  intro e s' h
  cases e with
  | normal => obtain ⟨j, h1, h2, h3⟩ := h; exact ⟨⟨j, h1⟩, h3, h2⟩
  | goto _ | exit _ | ret | panic _ | outgrown => exact h
end
attribute [go_sem] envW tkW hasT
end Go.E

namespace Go.E
open Go

theorem C.eqb_symm (a b : C) : C.eqb a b = C.eqb b a := by
  rw [Bool.eq_iff_iff, C.eqb_iff, C.eqb_iff]; exact eq_comm
theorem lookM_put {α : Type} : ∀ (es : List (C × α)) (c : C) (v : α) (c' : C), lookM (putM es c v) c' = if C.eqb c' c = true then some v else lookM es c'
  | [], c, v, c' => by simp only [putM, lookM]
  | (k, u) :: es, c, v, c' => by
    simp only [putM]
    by_cases h : C.eqb c k = true
    · rw [if_pos h]
      have := C.eqb_iff.1 h
      subst this
      simp only [lookM]
      split <;> rfl
    · rw [if_neg h]
      simp only [lookM]
      by_cases h' : C.eqb c' k = true
      · rw [if_pos h', if_pos h']
        have := C.eqb_iff.1 h'
        subst this
        have : C.eqb c' c = false := by
          cases hh : C.eqb c' c with
          | false => rfl
          | true => rw [C.eqb_symm] at hh; exact absurd hh h
        rw [this]; simp
      · rw [if_neg h', if_neg h', lookM_put es c v c']
noncomputable def updC (nx : C → C) (c v : C) : C → C := fun c' => if C.eqb c' c = true then v else nx c'
/-- What a map's entries say, as a function on data. -/
structure MapF (P : Program) (et : TypeId) (τ : Ty) (es : List (C × V)) (nx : C → C) : Prop where
  look : ∀ c, lookV P et es c = .d τ (nx c)
  all : ∀ f g, V.oksM f g es = true
theorem oksM_put {f g : Nat → Bool} : ∀ {es : List (C × V)} {c : C} {v : V}, V.oksM f g es = true → v.ok f g = true → V.oksM f g (putM es c v) = true
  | [], c, v, _, hv => by simp only [putM, V.oksM, hv, Bool.and_true]
  | (k, u) :: es, c, v, h, hv => by
    simp only [V.oksM, Bool.and_eq_true] at h
    simp only [putM]
    split
    · simp only [V.oksM, hv, h.2, Bool.and_true]
    · simp only [V.oksM, h.1, oksM_put h.2 hv, Bool.and_true]
theorem MapF.put {P : Program} {et : TypeId} {τ : Ty} {es : List (C × V)} {nx : C → C} (h : MapF P et τ es nx) (c v : C) : MapF P et τ (putM es c (.d τ v)) (updC nx c v) := by
  refine ⟨fun c' => ?_, fun f g => oksM_put (h.all f g) rfl⟩
  have := h.look c'
  unfold lookV at this ⊢
  rw [lookM_put]
  unfold updC
  by_cases e : C.eqb c' c = true
  · rw [if_pos e, if_pos e]; rfl
  · rw [if_neg e, if_neg e]; exact this
theorem MapF.nil {P : Program} {et : TypeId} {τ : Ty} (h : zeroX (ty P et) = .d τ (zeroC τ)) : MapF P et τ [] (fun _ => zeroC τ) := ⟨fun c => by
  unfold lookV; simp only [lookM, Option.getD_none]; exact h, fun _ _ => rfl⟩
section
variable {X : Cx} {n : Nat} {s : S} {Ψ : Exit → S → Prop}
/-- A scope with one label, states told by a value with what is known of it. -/
theorem dc_scopeP {c rest : Code} (l : Nat) (hf : findLabel c l = some (Code.skip.seq rest)) {ι : Type} (I : ι → S) (μ : ι → Nat) (p : ι → Prop)
    (pass : ∀ i, p i → DC X n rest (I i) fun e s' => match e with | .goto l' => l' = l ∧ ∃ j, p j ∧ μ j < μ i ∧ Weak X n s' (I j) | e => Ψ e s')
    (first : (∀ i, p i → DC X n rest (I i) fun e s' => match e with | .goto l' => l' = l ∧ ∃ j, p j ∧ Weak X n s' (I j) | e => Ψ e s') → DC X n c s fun e s' => match e with | .goto l' => l' = l ∧ ∃ i, p i ∧ Weak X n s' (I i) | e => Ψ e s') : DC X n (.scope c) s Ψ := by
  have first := first fun i hi => (pass i hi).mono fun e s' h => by
    cases e with
    | goto l' => obtain ⟨h1, j, h2, _, h4⟩ := h; exact ⟨h1, j, h2, h4⟩
    | normal | exit _ | ret | panic _ | outgrown => exact h
  refine dc_scope l hf (ι := { i : ι // p i }) (fun i => I i.1) (fun i => μ i.1) ?_ ?_
  · refine first.mono fun e s' h => ?_
    cases e with
    | goto l' => obtain ⟨h1, i, h2, h3⟩ := h; exact ⟨h1, ⟨i, h2⟩, h3⟩
    | normal | exit _ | ret | panic _ | outgrown => exact h
  · rintro ⟨i, hi⟩
    refine dc_seq (dc_skip ((pass i hi).mono fun e s' h => ?_))
    cases e with
    | goto l' => obtain ⟨h1, j, h2, h3, h4⟩ := h; exact ⟨h1, ⟨j, h2⟩, h4, h3⟩
    | normal | exit _ | ret | panic _ | outgrown => exact h
end
attribute [go_sem] Ty.flat V.detok V.detoks
end Go.E

namespace Go.E
open Go

/- Empty slices of an object, said as such behind whose end one may write. -/
mutual
def V.emps : V → V
  | .emp eb e => .ts eb e []
  | .agg τ vs => .agg τ (V.empss vs)
  | x => x
def V.empss : List V → List V
  | [] => []
  | x :: xs => x.emps :: V.empss xs
end
theorem V.emps_ty (x : V) : x.emps.ty = x.ty := by cases x <;> simp [V.emps, V.ty]
theorem V.emps_plain (x : V) : x.emps.plain = x.plain := by cases x <;> simp [V.emps, V.plain]
theorem V.empss_length : ∀ xs : List V, (V.empss xs).length = xs.length
  | [] => rfl
  | x :: xs => by simp [V.empss, V.empss_length xs]
mutual
theorem V.emps_noSl : ∀ x : V, x.emps.noSl = x.noSl
  | .agg τ vs => by simp only [V.emps, V.noSl]; exact V.empss_noSl vs
  | .emp _ _ | .sl _ _ _ _ | .ptr _ _ _ | .sr _ _ _ _ _ _ _ | .mp _ | .d _ _ | .ts _ _ _ | .nilc | .cptr _ _ | .top _ | .any | .fn _ _ | .tup _ => by simp [V.emps, V.noSl]
theorem V.empss_noSl : ∀ xs : List V, V.noSls (V.empss xs) = V.noSls xs
  | [] => rfl
  | x :: xs => by simp only [V.empss, V.noSls, V.emps_noSl x, V.empss_noSl xs]
end
section
variable {Γ : G} {k : Key}
mutual
theorem RepX.emps : ∀ (x : V) {p : List Nat} {vs : List Value}, RepX Γ (some k) p x vs → RepX Γ (some k) p x.emps vs
  | .emp eb e, p, vs, h => by
    simp only [RepX, V.emps] at h ⊢
    obtain ⟨a, rfl⟩ := h
    exact ⟨a, 0, 0, k, rfl, rfl, repC_mk_slice rfl (Nat.le_refl _) (Nat.zero_le _) (by rw [Nat.zero_mul]; exact Nat.zero_le _) (.inl rfl), .inl rfl⟩
  | .agg τ xs, p, vs, h => by
    simp only [RepX, V.emps] at h ⊢
    exact ⟨h.1, h.2.1, by rw [V.empss_length]; exact h.2.2.1, h.2.2.2.1, RepXs.emps xs h.2.2.2.2⟩
  | .sl _ _ _ _, _, _, h | .ptr _ _ _, _, _, h | .sr _ _ _ _ _ _ _, _, _, h | .mp _, _, _, h | .d _ _, _, _, h | .ts _ _ _, _, _, h | .nilc, _, _, h | .cptr _ _, _, _, h | .top _, _, _, h | .any, _, _, h | .fn _ _, _, _, h | .tup _, _, _, h => h
theorem RepXs.emps : ∀ (xs : List V) {p : List Nat} {i : Nat} {τ : Ty} {vs : List Value}, RepXs Γ (some k) p i τ xs vs → RepXs Γ (some k) p i τ (V.empss xs) vs
  | [], _, _, _, _, _ => by simp only [V.empss, RepXs]
  | x :: xs, _, _, _, _, h => by
    simp only [RepXs, V.empss, V.emps_ty] at h ⊢
    obtain ⟨⟨o, f, h1, h2, h3, h4⟩, h5⟩ := h
    exact ⟨⟨o, f, h1, h2, h3, RepX.emps x h4⟩, RepXs.emps xs h5⟩
end
end
theorem weak_emps {X : Cx} {n : Nat} {s : S} {k : Key} {x : V} (h : s.obj k = some (.box x)) : Weak X n s (s.put k (.box x.emps)) := by
  rintro Γ0 a w ⟨Γ, g1, g3, c, hs, hn, hf, hA⟩
  refine ⟨Γ, g1, g3, ⟨c.hH, c.hZ, c.hκ, fun j o hj => ?_, fun j hj => ?_, c.inj, c.tok, c.tdom, c.hgl, c.hoo⟩, hs, hn, hf, hA⟩
  · rw [obj_put] at hj
    split at hj
    · rename_i e
      subst e; cases hj
      obtain ⟨b, cells, T, h1, h2, h3, h4, h5, h6, h7, h8⟩ := c.obj _ _ h
      exact ⟨b, cells, T, by rw [V.emps_ty]; exact h1, h2, h3, h4, by rw [V.emps_ty]; exact h5, by rw [V.emps_ty]; exact RepX.emps x h6, by rw [V.emps_plain]; exact h7, by rw [V.emps_noSl]; exact h8⟩
    · exact c.obj j o hj
  · rw [obj_put]
    split
    · simp
    · exact c.dom j hj
attribute [go_sem] V.emps V.empss
end Go.E

namespace Go.E
open Go

/-- A block that no one owns any more is frozen. -/
theorem Conc.freeze {Γ : G} {w : World} {s : S} (c : Conc Γ w s) {b : Nat} {cells : Array Value} {T : TypeId} {fr : Nat × Nat} (hw : w.heap[b]? = some (.cells cells T fr)) (hH : Γ.H b = none) (hι : ∀ k τ, Γ.ι k ≠ some (b, τ)) :
    Conc (Γ.addH b cells.toList) w s ∧ Pres Γ (Γ.addH b cells.toList) ∧ Γ.H.le (Γ.addH b cells.toList).H := by
  have oH : ∀ b', b' ≠ b → (Γ.addH b cells.toList).H b' = Γ.H b' := fun b' hb => updN_ne _ _ hb
  have nb : ∀ b', Γ.H b' ≠ none → b' ≠ b := fun b' h e => h (e ▸ hH)
  have hle : Γ.H.le (Γ.addH b cells.toList).H := fun b' l' h => ⟨[], by rw [oH b' (nb b' (by rw [h]; simp)), h]; simp⟩
  have hp : Pres Γ (Γ.addH b cells.toList) := ⟨hle, fun _ _ h => h, fun t x L h => ⟨x, L, h, Nat.le_refl _, fun _ => rfl⟩⟩
  refine ⟨?_, hp, hle⟩
  refine c.change hp rfl rfl rfl rfl (fun b' l' h => ?_) (fun _ _ => rfl) (fun b' o sz h => ?_) (fun k o h => ?_) c.dom c.inj (fun t L h => ?_) c.tdom
  · by_cases hb : b' = b
    · subst hb
      simp [G.addH, updN] at h; subst h
      exact ⟨cells, T, fr, [], hw, by simp⟩
    · rw [oH b' hb] at h
      exact c.hH b' l' h
  · have h' : Γ.κ b' = some (o, sz) := h
    obtain ⟨a1, a2, a3⟩ := c.hκ b' o sz h'
    exact ⟨a1, by rw [oH b' (nb b' a2)]; exact a2, a3⟩
  · refine .inl ⟨h, fun b' p sz hb => ⟨rfl, ?_⟩, fun b' τ hb => ⟨rfl, ?_⟩⟩
    · exact oH b' (nb b' (c.hκ b' _ sz hb).2.1)
    · obtain ⟨o', _, a1, _⟩ := c.ιblock hb
      rw [oH b' (fun e => hι k τ (e ▸ hb))]; exact a1
  · obtain ⟨x, h1, h2⟩ := c.tok t L h
    refine ⟨x, h1, fun b' pos sz hx => ?_⟩
    obtain ⟨⟨l, a1, a2⟩, a3⟩ := h2 b' pos sz hx
    exact ⟨⟨l, by rw [oH b' (nb b' (by rw [a1]; simp))]; exact a1, a2⟩, a3⟩
/-- A part of a state, with its ghost. -/
theorem to_part {X : Cx} {n : Nat} {s s' : S} {Γ0 Γ : G} {a : Act} {w : World} (g1 : GLe Γ0 Γ) (g3 : Γ.gl = X.gl) (c : Conc Γ w s) (hs : Slots Γ s a.tmps) (hn : a.tmps.size = n) (hf : a.defers = []) (hAok : AOk s.A) (hA : s'.A = s.A) (hloc : locW s s'.loc) (hlok : locOk (hasL s'.loc) (hasT s'.tk) s'.loc = true) (hg : allG s'.loc s.A s.loc)
    (htk : tkW s s'.tk) (henv : envW (hasL s'.loc) (hasT s'.tk) s s'.env) : GLe Γ0 (Γ.part (hasL s'.loc) (hasT s'.tk)) ∧ (Γ.part (hasL s'.loc) (hasT s'.tk)).gl = X.gl ∧ Conc (Γ.part (hasL s'.loc) (hasT s'.tk)) w s' ∧ Slots (Γ.part (hasL s'.loc) (hasT s'.tk)) s' a.tmps ∧ a.tmps.size = n ∧ a.defers = [] ∧ AOk s'.A := by
  have sub : Sub Γ (Γ.part (hasL s'.loc) (hasT s'.tk)) (hasL s'.loc) (hasT s'.tk) :=
    ⟨rfl, rfl, rfl, rfl, fun _ => rfl, fun n h => by simp [G.part, h], fun t h => by simp [G.part, h], fun _ _ _ _ _ => rfl⟩
  refine ⟨⟨g1.H, g1.Z, g1.ZH, g1.g, g1.gl, g1.oo⟩, g3, c.sub sub rfl (fun n h => by simp [G.part, h]) hA hAok hloc hlok hg (fun b o sz h => ⟨o, h⟩) (fun t L h => ?_) (fun t h => ?_), fun i => ?_, hn, hf, by rw [hA]; exact hAok⟩
  · unfold S.live liveT at h
    cases hl : look s'.tk t with
    | none => simp [hl] at h
    | some x =>
      cases x with
      | none => simp [hl] at h
      | some M =>
        simp [hl] at h; subst h
        have hlive : s.live t = some M := tkW_look htk hl
        obtain ⟨x, a1, a2⟩ := c.tok t M hlive
        exact ⟨x, by simp [G.part, hasT, hl, a1], fun b pos sz hx => a2 b pos sz hx⟩
  · cases hh : hasT s'.tk t with
    | true => exact hh
    | false => simp [G.part, hh] at h
  · cases hl : look s'.env i with
    | none => simp [S.get, hl, RepV]
    | some x =>
      obtain ⟨e1, e2, e3⟩ := envW_look henv hl
      have hget : s'.get i = x := by simp [S.get, hl]
      rw [hget]
      by_cases hx : x = .any
      · subst hx; trivial
      · have hr := hs i
        have e3 := e3.resolve_left hx
        refine RepV.sub sub e2 ?_
        cases hsi : s.get i with
        | any =>
          rw [hsi] at e1
          cases x <;> simp [V.into, closeV] at e1 hx
        | tup us =>
          rw [hsi] at e1 hr
          cases x <;> simp [V.into, closeV] at e1 hx
          subst e1; exact hr
        | _ =>
          rw [hsi] at e1 hr e3
          have hpl : RepX Γ none [] _ (a.tmps.getD i undef).cells.toList ∧ _ := hr
          obtain ⟨r1, r2⟩ := RepX.into x _ e1 hpl.1
          have hxp := V.plain_of_rep r1 hx
          exact (repV_plain hxp).2 ⟨r1, by rw [e3]; exact hpl.2⟩

/-- A local variable that is not written any more is data: slot t, which points to it, points to data then. -/
theorem weak_freeze {X : Cx} {n : Nat} {s s' : S} {t j : Nat} {τ : Ty} {x : V} {cc : C} (hslot : s.get t = .ptr (.l j) [] τ) (hobj : s.obj (.l j) = some (.box x)) (hcl : closeV x = some cc) (hτ : x.ty = τ) (hj : hasL s'.loc j = false)
    (hA : s'.A = s.A) (hloc : locW s s'.loc) (hlok : locOk (hasL s'.loc) (hasT s'.tk) s'.loc = true) (hg : allG s'.loc s.A s.loc)
    (htk : tkW s s'.tk) (henv : envW (hasL s'.loc) (hasT s'.tk) s s'.env) : Weak X n s (s'.set (some t) (.cptr τ cc)) := by
  rintro Γ0 a w ⟨Γ, g1, g3, c, hs, hn, hf, hAok⟩
  obtain ⟨p1, p2, p3, p4, p5, p6, p7⟩ := to_part (X := X) (n := n) (s' := s') g1 g3 c hs hn hf hAok hA hloc hlok hg htk henv
  obtain ⟨b, cells, T, e1, e2, e3, e4, e5, e6, e7, e8⟩ := c.obj _ _ hobj
  have hst := hs t
  rw [hslot] at hst
  obtain ⟨b2, τ0, off, i1, i2, hv⟩ := repV_ptr hst
  rw [e1] at i1; cases i1
  simp only [Ty.walk, Option.some.injEq, Prod.mk.injEq] at i2
  obtain ⟨rfl, _⟩ := i2
  have hno : ∀ k τ, (Γ.part (hasL s'.loc) (hasT s'.tk)).ι k ≠ some (b, τ) := by
    intro k τ' hk
    have hk' : Γ.ι k = some (b, τ') ∧ k ≠ .l j := by
      cases k with
      | g k => exact ⟨hk, by simp⟩
      | l m =>
        simp only [G.part] at hk
        split at hk
        · rename_i hm
          refine ⟨hk, fun e => ?_⟩
          cases e; rw [hj] at hm; cases hm
        · cases hk
    exact hk'.2 (c.inj _ _ _ _ _ hk'.1 e1)
  obtain ⟨q1, q2, q3⟩ := p3.freeze e4 e2 hno
  have hrc : RepC Γ.H x.ty (chunk cells.toList 0 x.ty.size) cc := closeV_rep _ e6 hcl
  refine ⟨_, ⟨Hp.le_trans p1.H q3, p1.Z, fun b' hb' => ?_, p1.g, p1.gl, p1.oo⟩, p2, conc_set q1 _ _, fun i => ?_, p5, p6, p7⟩
  · refine (updN_ne _ _ fun e => ?_).trans (p1.ZH b' hb')
    subst e
    exact hb' (by rw [← g1.Z]; exact e3)
  · rw [get_set]
    split
    · rename_i e
      cases e
      rw [hv]
      refine repV_mk_cptr (l := cells.toList) (updN_same _ _ _) (by rw [← hτ]; simpa using e5) ?_
      rw [← hτ]
      exact hrc.mono q3
    · exact (p4 i).pres q2
end Go.E

namespace Go.E
open Go

/-- Data of a struct are its fields. -/
theorem C.list_eta : ∀ (cs : List C) (n : Nat), cs.length = n → cs = (List.range n).map fun i => cs.getD i .nil := by
  intro cs n h
  subst h
  refine List.ext_getElem (by simp) fun i h1 h2 => ?_
  simp [List.getElem?_eq_getElem h1]
theorem C.wf_eta {sz : Nat} {os : List Nat} {fs : List Ty} {c : C} (h : C.wf (.struct sz os fs) c) : .agg ((List.range fs.length).map c.get) = c := by
  simp only [C.wf] at h
  obtain ⟨h1, h2⟩ := h
  have hl := C.wfs_length h2
  rw [h1]
  congr 1
  rw [← hl]
  exact (C.list_eta c.elems _ rfl).symm
theorem C.arr_eta {n : Nat} {e : Ty} {c : C} (h : C.wf (.arr n e) c) : .agg ((List.range n).map c.get) = c := by
  simp only [C.wf] at h
  obtain ⟨h1, h2, _⟩ := h
  rw [h1]
  congr 1
  exact (C.list_eta c.elems _ h2).symm
theorem C.slice_eta {eb : Nat} {e : Ty} {c : C} (h : C.wf (.slice eb e) c) : .slice c.elems = c := by
  simp only [C.wf] at h
  exact h.1.symm
end Go.E

namespace Go.E
open Go Go.ChangeShapes Go.WideShapes

/-- What a block holds at first, frozen for good. -/
def hpOf (w : World) : Hp := fun b => match w.heap[b]? with
  | some (.cells c _ _) => some c.toList
  | _ => none
theorem hpOf_cell {w : World} {a : Addr} {v : Value} (h : w.cell? a = some v) : ∃ l, hpOf w a.block = some l ∧ l[a.off]? = some v ∧ a.spot = none := by
  unfold World.cell? at h
  unfold hpOf
  split at h
  · rename_i c _ _ hc
    split at h
    · cases h
    · rename_i hs
      refine ⟨c.toList, by simp [hc], by simpa using h, ?_⟩
      cases hh : a.spot <;> simp_all
  · cases h
mutual
/-- Types of plain data: no pointers, maps, functions; no empty elements; a struct's fields are all of it. -/
def Ty.dat : Ty → Bool
  | .int _ | .bool | .str => true
  | .slice _ e => e.dat && decide (0 < e.size)
  | .arr _ e => e.dat && decide (0 < e.size)
  | .struct sz os fs => Ty.dats fs && decide (os.length = fs.length) && (List.range sz).all fun i => (List.range fs.length).any fun j => match os[j]?, fs[j]? with | some o, some f => decide (o ≤ i) && decide (i < o + f.size) | _, _ => false
  | _ => false
def Ty.dats : List Ty → Bool
  | [] => true
  | f :: fs => f.dat && Ty.dats fs
end
theorem dats_get : ∀ {fs : List Ty} {i : Nat} {f : Ty}, Ty.dats fs = true → fs[i]? = some f → f.dat = true
  | [], _, _, _, h => by simp at h
  | g :: fs, 0, f, hd, h => by simp [Ty.dats] at hd h; rw [← h]; exact hd.1
  | g :: fs, i + 1, f, hd, h => by simp [Ty.dats] at hd; exact dats_get hd.2 (by simpa using h)
theorem mapM_get {α β : Type} {f : α → Option β} : ∀ {l : List α} {r : List β}, l.mapM f = some r → ∀ i : Nat, l[i]?.bind f = r[i]?
  | [], r, h, i => by simp at h; subst h; simp
  | x :: l, r, h, i => by
    rw [List.mapM_cons] at h
    cases hx : f x with
    | none => simp [hx] at h
    | some y =>
      cases hl : l.mapM f with
      | none => simp [hx, hl] at h
      | some ys =>
        simp [hx, hl] at h
        subst h
        cases i with
        | zero => simp [hx]
        | succ i => simpa using mapM_get hl i
theorem mapM_len {α β : Type} {f : α → Option β} : ∀ {l : List α} {r : List β}, l.mapM f = some r → r.length = l.length
  | [], r, h => by simp at h; subst h; rfl
  | x :: l, r, h => by
    rw [List.mapM_cons] at h
    cases hx : f x with
    | none => simp [hx] at h
    | some y =>
      cases hl : l.mapM f with
      | none => simp [hx, hl] at h
      | some ys =>
        simp [hx, hl] at h
        subst h
        simp [mapM_len hl]
theorem cells_chunk {w : World} {base : Nat} {a : Addr} {n : Nat} {cs : List Value} (h : w.cells? base a n = some cs) (hn : 0 < n) :
    ∃ l, hpOf w a.block = some l ∧ a.spot = none ∧ a.off + n ≤ l.length ∧ cs = chunk l a.off n := by
  unfold World.cells? at h
  split at h
  · have hl := mapM_len h
    simp at hl
    have hg := mapM_get h
    have h0 := hg 0
    cases hc : cs[0]? with
    | none => simp at hc; subst hc; simp at hl; omega
    | some v0 =>
      rw [hc] at h0
      simp [List.getElem?_range hn] at h0
      have e0 : a.add 0 = a := by simp [Addr.add]
      rw [e0] at h0
      obtain ⟨l, h1, h2, h3⟩ := hpOf_cell h0
      refine ⟨l, h1, h3, ?_, ?_⟩
      · have hlast := hg (n - 1)
        cases hc' : cs[n - 1]? with
        | none => simp at hc'; omega
        | some v1 =>
          rw [hc'] at hlast
          simp [List.getElem?_range (show n - 1 < n by omega)] at hlast
          obtain ⟨l', g1, g2, _⟩ := hpOf_cell hlast
          have eb : (a.add (n - 1)).block = a.block := by unfold Addr.add; split <;> rfl
          have eo : (a.add (n - 1)).off = a.off + (n - 1) := by unfold Addr.add; split <;> simp_all
          rw [eb, h1] at g1; cases g1
          rw [eo] at g2
          have := (List.getElem?_eq_some_iff.1 g2).1
          omega
      · apply List.ext_getElem?
        intro i
        by_cases hi : i < n
        · have := hg i
          simp [List.getElem?_range hi] at this
          cases hc' : cs[i]? with
          | none => simp at hc'; omega
          | some v1 =>
            rw [hc'] at this
            obtain ⟨l', g1, g2, _⟩ := hpOf_cell this
            have eb : (a.add i).block = a.block := by unfold Addr.add; split <;> rfl
            have eo : (a.add i).off = a.off + i := by unfold Addr.add; split <;> simp_all
            rw [eb, h1] at g1; cases g1
            rw [eo] at g2
            simp [chunk, List.getElem?_take, hi, g2]
        · rw [List.getElem?_eq_none (by omega)]
          simp [chunk, List.getElem?_take, hi]
  · cases h
theorem all_append_le {a b : List Nat} (h : (a ++ b).all (· ≤ reachBytes) = true) : a.all (· ≤ reachBytes) = true ∧ b.all (· ≤ reachBytes) = true := by
  simpa [List.all_append] using h
theorem weightsAll_get {H : Type} {P : Program} {e : TypeId} : ∀ {l : List (DataW H)} {i : Nat} {d : DataW H}, l[i]? = some d → (DataW.weightsAll P e l).all (· ≤ reachBytes) = true → (d.weights P e).all (· ≤ reachBytes) = true
  | [], i, d, h, _ => by simp at h
  | x :: l, 0, d, h, hw => by
    simp at h; subst h
    simp only [DataW.weightsAll] at hw
    exact (all_append_le hw).1
  | x :: l, i + 1, d, h, hw => by
    simp only [DataW.weightsAll] at hw
    exact weightsAll_get (by simpa using h) (all_append_le hw).2
theorem weightsEach_get {H : Type} {P : Program} : ∀ {ts : List TypeId} {l : List (DataW H)} {i : Nat} {t : TypeId} {d : DataW H}, ts[i]? = some t → l[i]? = some d → (DataW.weightsEach P ts l).all (· ≤ reachBytes) = true → (d.weights P t).all (· ≤ reachBytes) = true
  | [], _, i, t, d, h, _, _ => by simp at h
  | _ :: _, [], i, t, d, _, h, _ => by simp at h
  | t :: ts, x :: l, 0, t', d, ht, h, hw => by
    simp at ht h; subst ht; subst h
    simp only [DataW.weightsEach] at hw
    exact (all_append_le hw).1
  | t :: ts, x :: l, i + 1, t', d, ht, h, hw => by
    simp only [DataW.weightsEach] at hw
    exact weightsEach_get (by simpa using ht) (by simpa using h) (all_append_le hw).2

theorem one_of_chunks {vs : List Value} (h : ∀ i : Nat, i < vs.length → ∃ o m, o ≤ i ∧ i < o + m ∧ OneC (chunk vs o m)) : OneC vs := by
  intro v hv
  obtain ⟨i, hi, rfl⟩ := List.getElem_of_mem hv
  obtain ⟨o, m, h1, h2, h3⟩ := h i hi
  refine h3 _ ?_
  refine List.mem_of_getElem? (i := i - o) ?_
  simp only [chunk, List.getElem?_take, List.getElem?_drop]
  rw [if_pos (by omega), show o + (i - o) = i by omega, List.getElem?_eq_getElem hi]

mutual
/-- A reading, as data. -/
def cOf {H : Type} : DataW H → C
  | .lit (.bool b) => .bool b
  | .lit (.int _ n) => .int n
  | .lit (.string l) => .str l
  | .nil => .slice []
  | .slice es _ => .slice (cOfs es)
  | .agg ps => .agg (cOfs ps)
  | _ => .nil
def cOfs {H : Type} : List (DataW H) → List C
  | [] => []
  | d :: ds => cOf d :: cOfs ds
end
theorem cOfs_get {H : Type} : ∀ {ds : List (DataW H)} {i : Nat}, (cOfs ds)[i]? = (ds[i]?).map cOf
  | [], i => by simp [cOfs]
  | d :: ds, 0 => by simp [cOfs]
  | d :: ds, i + 1 => by simp [cOfs, cOfs_get]
theorem cOfs_len {H : Type} : ∀ {ds : List (DataW H)}, (cOfs ds).length = ds.length
  | [] => rfl
  | d :: ds => by simp [cOfs, cOfs_len]
section
variable {H : Type} {enc : TypeId × Value → H} {P : Program} {w : World}
/-- What a reading reads is data of the type's shape. -/
theorem rep_of_trod (hP : allOk P = true) {base : Nat} {held : Bool} {sp : Nat → Bool} (hsp : ∀ b, sp b = true) : ∀ (fuel f : Nat) {t : TypeId} {cs : List Value} {d : DataW H} {ps : List MemPlace}, t < P.types.size → (tyF P f t).dat = true →
    DataW.trod enc P w base sp held fuel t cs = some (d, ps) → (d.weights P t).all (· ≤ reachBytes) = true → RepC (hpOf w) (tyF P f t) cs (cOf d)
  | 0, f, t, cs, d, ps, _, _, h, _ => by simp [DataW.trod] at h
  | fuel + 1, 0, t, cs, d, ps, _, hf, h, _ => by simp [tyF, Ty.dat] at hf
  | fuel + 1, f + 1, t, cs, d, ps, ht, hf, h, hw => by
    have hok := okT_of hP ht
    unfold okT at hok
    unfold tyF at hf ⊢
    rw [if_pos ht] at hf ⊢
    cases hu : P.underlying t with
    | none => simp [hu, Ty.dat] at hf
    | some desc =>
      simp only [hu] at hf hok ⊢
      cases desc with
      | bool =>
        unfold DataW.trod at h
        simp only [hu] at h
        split at h <;> simp_all
        rw [← h.1]
        simp [RepC, cOf]
      | int k =>
        unfold DataW.trod at h
        simp only [hu] at h
        split at h <;> simp_all
        obtain ⟨⟨rfl, hh⟩, hd, _⟩ := h
        simp [Lit.wf] at hh
        rw [← hd]
        simp [RepC, cOf]; omega
      | string =>
        unfold DataW.trod at h
        simp only [hu] at h
        split at h <;> simp_all
        obtain ⟨hh, rfl, _⟩ := h
        simp [DataW.weights, reachBytes] at hw
        simp only [RepC, cOf]
        exact ⟨_, rfl, by simp, by simp; omega⟩
      | slice e =>
        simp only [Ty.dat, Bool.and_eq_true, decide_eq_true_eq] at hf
        simp only [Bool.and_eq_true, beq_iff_eq, decide_eq_true_eq] at hok
        have hsz : (tyF P f e).size = P.cellsOf e := tyF_size hP f e
        unfold DataW.trod at h
        simp only [hu] at h
        split at h <;> try (simp_all; done)
        · simp only [Option.some.injEq, Prod.mk.injEq] at h
          rw [← h.1]
          simp only [RepC, cOf]
          exact ⟨none, 0, 0, [], rfl, rfl, rfl, Nat.le_refl _, by simp [maxLen], by simp, .inl rfl⟩
        · rename_i e' a len cap he
          simp at he; subst he
          split at h
          · rename_i hc
            simp only [Option.bind_eq_some_iff, Option.map_eq_some_iff] at h
            obtain ⟨elems, he1, rest, he2, he3⟩ := h
            simp only [Prod.mk.injEq] at he3
            obtain ⟨rfl, _⟩ := he3
            simp only [DataW.weights, hu, List.all_cons, Bool.and_eq_true, decide_eq_true_eq] at hw
            obtain ⟨hw1, hw2⟩ := hw
            obtain ⟨hw2, hw3⟩ := all_append_le hw2
            have hl := mapM_len he1
            simp at hl
            have hbound : len * P.bytesOf e ≤ 140737488355328 := by
              have : len * P.bytesOf e ≤ (elems.length + rest.length) * P.bytesOf e := Nat.mul_le_mul_right _ (by omega)
              simp [reachBytes] at hw1
              omega
            by_cases hz : len = 0
            · subst hz
              have : elems = [] := by cases elems <;> simp_all
              subst this
              simp only [RepC, cOf, List.map_nil, cOfs]
              exact ⟨some a, 0, cap, [], rfl, rfl, rfl, Nat.zero_le _, hc.2.2, by simp, .inl rfl⟩
            · have key : ∀ i, i < len → ∃ l, hpOf w a.block = some l ∧ a.spot = none ∧ (a.off + i * P.cellsOf e) + P.cellsOf e ≤ l.length ∧ ∀ x, elems[i]? = some x → RepC (hpOf w) (tyF P f e) (chunk l (a.off + i * P.cellsOf e) (P.cellsOf e)) (cOf x.1) := by
                intro i hi
                have hg := mapM_get he1 i
                rw [List.getElem?_range hi] at hg
                have hi' : i < elems.length := by omega
                rw [List.getElem?_eq_getElem hi'] at hg
                simp only [Option.bind_some, Option.bind_eq_some_iff] at hg
                obtain ⟨cs, hc1, hc2⟩ := hg
                obtain ⟨l, q1, q2, q3, q4⟩ := cells_chunk hc1 (by rw [← hsz]; exact hf.2)
                have eb : (a.add (i * P.cellsOf e)).block = a.block := by unfold Addr.add; split <;> rfl
                have eo : (a.add (i * P.cellsOf e)).off = a.off + i * P.cellsOf e := by unfold Addr.add; split <;> simp_all
                have h0 : a.spot = none := by
                  have hg0 := mapM_get he1 0
                  rw [List.getElem?_range (by omega), List.getElem?_eq_getElem (by omega)] at hg0
                  simp only [Option.bind_some, Option.bind_eq_some_iff] at hg0
                  obtain ⟨cs0, hc01, _⟩ := hg0
                  obtain ⟨_, _, q, _⟩ := cells_chunk hc01 (by rw [← hsz]; exact hf.2)
                  simpa [Addr.add] using q
                rw [eb] at q1; rw [eo] at q3 q4
                subst q4
                have hcr := rep_of_trod hP hsp fuel f hok.2 hf.1 hc2 (weightsAll_get (i := i) (by simp [List.getElem?_map, List.getElem?_eq_getElem hi']) hw2)
                exact ⟨l, q1, h0, q3, fun x hx => by rw [List.getElem?_eq_getElem hi'] at hx; cases hx; exact hcr⟩
              obtain ⟨l, hl1, hl2, _, _⟩ := key 0 (by omega)
              simp only [RepC, cOf]
              refine ⟨some a, len, cap, _, rfl, rfl, by simp [cOfs_len, hl], hc.2.1, hc.2.2, hbound, .inr ⟨a.block, a.off, l, ?_, hl1, ?_, fun i c hi => ?_⟩⟩
              · cases a; simp_all
              · rw [hsz]
                obtain ⟨l', q1, _, q3, _⟩ := key (len - 1) (by omega)
                rw [hl1] at q1; cases q1
                have : len * P.cellsOf e = (len - 1) * P.cellsOf e + P.cellsOf e := by
                  rw [← Nat.succ_mul]; congr 1; omega
                omega
              · simp only [cOfs_get, List.getElem?_map, Option.map_map, Option.map_eq_some_iff] at hi
                obtain ⟨x, hx, rfl⟩ := hi
                have hi' : i < len := by
                  have := (List.getElem?_eq_some_iff.1 hx).1
                  omega
                rw [hsz]
                obtain ⟨l', q1, _, _, q4⟩ := key i hi'
                rw [hl1] at q1; cases q1
                exact q4 x hx
          · cases h
      | array n e =>
        simp only [Ty.dat, Bool.and_eq_true, decide_eq_true_eq] at hf
        simp only [Bool.and_eq_true, beq_iff_eq, decide_eq_true_eq] at hok
        have hsz : (tyF P f e).size = P.cellsOf e := tyF_size hP f e
        unfold DataW.trod at h
        simp only [hu] at h
        split at h
        · rename_i hlen
          simp only [Option.map_eq_some_iff] at h
          obtain ⟨elems, he1, he3⟩ := h
          simp only [Prod.mk.injEq] at he3
          obtain ⟨rfl, _⟩ := he3
          simp only [DataW.weights, hu] at hw
          have hl := mapM_len he1
          simp at hl
          have key : ∀ i x, elems[i]? = some x → RepC (hpOf w) (tyF P f e) (chunk cs (i * P.cellsOf e) (P.cellsOf e)) (cOf x.1) := by
            intro i x hx
            have hg := mapM_get he1 i
            have hi : i < n := by have := (List.getElem?_eq_some_iff.1 hx).1; omega
            rw [List.getElem?_range hi, hx] at hg
            simp only [Option.bind_some] at hg
            exact rep_of_trod hP hsp fuel f hok.2 hf.1 hg (weightsAll_get (i := i) (by simp [List.getElem?_map, hx]) hw)
          simp only [RepC, cOf]
          refine ⟨_, rfl, by simp [cOfs_len, hl], by rw [hsz, hlen, hok.1], one_of_chunks fun i hi => ?_, fun i c hi => ?_⟩
          · have hi2 : i / P.cellsOf e < n := by
              rw [Nat.div_lt_iff_lt_mul (by omega)]
              omega
            have hc := key (i / P.cellsOf e) _ (List.getElem?_eq_getElem (by omega))
            refine ⟨_, _, ?_, ?_, hc.one⟩
            · exact Nat.div_mul_le_self _ _
            · have := Nat.lt_div_mul_add (a := i) (b := P.cellsOf e) (by omega)
              omega
          · simp only [cOfs_get, List.getElem?_map, Option.map_map, Option.map_eq_some_iff] at hi
            obtain ⟨x, hx, rfl⟩ := hi
            rw [hsz]
            exact key i x hx
        · cases h
      | struct fs =>
        simp only [Ty.dat, Bool.and_eq_true, decide_eq_true_eq, List.all_eq_true, List.any_eq_true, List.mem_range] at hf
        simp only [List.all_eq_true, Bool.and_eq_true, decide_eq_true_eq] at hok
        obtain ⟨⟨hf1, hf2⟩, hf3⟩ := hf
        unfold DataW.trod at h
        simp only [hu] at h
        split at h
        · rename_i hlen
          simp only [Option.map_eq_some_iff] at h
          obtain ⟨elems, he1, he3⟩ := h
          simp only [Prod.mk.injEq] at he3
          obtain ⟨rfl, _⟩ := he3
          simp only [DataW.weights, hu] at hw
          have hl := mapM_len he1
          have key : ∀ (i : Nat) g x, fs.toList[i]? = some g → elems[i]? = some x → RepC (hpOf w) (tyF P f g.type) (chunk cs g.offset (P.cellsOf g.type)) (cOf x.1) := by
            intro i g x hi he
            have hg := mapM_get he1 i
            rw [hi, he] at hg
            simp only [Option.bind_some] at hg
            exact rep_of_trod hP hsp fuel f (hok g (List.mem_of_getElem? hi)).1 (dats_get (i := i) hf1 (by simp only [List.getElem?_map, hi, Option.map_some])) hg
                (weightsEach_get (i := i) (by simp only [List.getElem?_map, hi, Option.map_some]) (by simp only [List.getElem?_map, he, Option.map_some]) hw)
          simp only [RepC, cOf]
          refine ⟨_, rfl, hlen, one_of_chunks fun i hi => ?_, RepFs.of_get (by simp [cOfs_len, hl]) fun i F c hF hc => ?_⟩
          · obtain ⟨j, hj, hj2⟩ := hf3 i (by omega)
            split at hj2
            · rename_i o F ho hF
              simp at hj2
              simp only [List.getElem?_map, Option.map_eq_some_iff] at ho hF
              obtain ⟨g, hg, rfl⟩ := ho
              obtain ⟨g', hg', rfl⟩ := hF
              rw [hg] at hg'; cases hg'
              have hjl := (List.getElem?_eq_some_iff.1 hg).1
              have hc := key j g _ hg (List.getElem?_eq_getElem (by omega))
              rw [tyF_size hP] at hj2
              exact ⟨_, _, hj2.1, hj2.2, hc.one⟩
            · cases hj2
          · simp only [List.getElem?_map, cOfs_get, Option.map_map, Option.map_eq_some_iff] at hF hc
            obtain ⟨g, hg, rfl⟩ := hF
            obtain ⟨x, hx, rfl⟩ := hc
            refine ⟨g.offset, by simp only [List.getElem?_map, hg, Option.map_some], ?_, ?_⟩
            · rw [tyF_size hP, hlen]
              exact (hok g (List.mem_of_getElem? hg)).2
            · rw [tyF_size hP]
              exact key i g x hg hx
        · cases h
      | _ => simp [Ty.dat] at hf
end
end Go.E

namespace Go.E
open Go Go.ChangeShapes Go.WideShapes Go.RowKit

def slicesOk (P : Program) : Bool := (List.range P.types.size).all fun t => match P.underlying t with
  | some (.slice e) => decide (0 < P.cellsOf e)
  | _ => true
/-- What package-level variables hold at first. -/
def GlOk (w : World) (gl : Nat → Option (Ty × C)) : Prop := ∀ g τ c, gl g = some (τ, c) → ∃ l, hpOf w g = some l ∧ τ.size ≤ l.length ∧ RepC (hpOf w) τ (chunk l 0 τ.size) c
/-- What listed variables hold. -/
def glOf (P : Program) : List (String × DataW Unit) → Nat → Option (Ty × C)
  | [], _ => none
  | (n, d) :: r, g => if P.globalNamed n = some g then (match (P.globals[g]?).map (·.type) with | some t => some (ty P t, cOf d) | none => none) else glOf P r g
def laidOk (P : Program) (l : List (String × DataW Unit)) : Bool := l.all fun x => match P.globalNamed x.1 with
  | some g => match (P.globals[g]?).map (·.type) with
    | some t => decide (t < P.types.size) && (ty P t).dat && (x.2.weights P t).all (· ≤ reachBytes)
    | none => false
  | none => false
theorem glOk_laid {P : Program} (hP : allOk P = true) {w : World} : ∀ {l : List (String × DataW Unit)} {ps : List MemPlace}, laidOk P l = true → DataW.LaidVars P w l ps → GlOk w (glOf P l)
  | [], _, _, _ => fun g τ c h => by simp [glOf] at h
  | (n, d) :: r, ps, hk, h => by
    obtain ⟨g0, t, cs, fuel, p, q, hg, ht, hv, hd, hr, _⟩ := h
    simp only [laidOk, List.all_cons, Bool.and_eq_true, hg, ht, decide_eq_true_eq] at hk
    obtain ⟨⟨⟨k1, k2⟩, k3⟩, k4⟩ := hk
    intro g τ c h
    simp only [glOf] at h
    split at h
    · rename_i e
      rw [hg] at e; cases e
      rw [ht] at h
      simp at h
      obtain ⟨rfl, rfl⟩ := h
      have hrep := rep_of_trod hP (fun _ => rfl) fuel 12 k1 k2 hd k3
      simp only [World.var?, hg, Option.bind_some] at hv
      split at hv
      · rename_i c T fr hc
        cases hv
        have hl := hrep.length
        refine ⟨cs.toList, by simp [hpOf, hc], by show (tyF P 12 t).size ≤ _; omega, ?_⟩
        have : chunk cs.toList 0 (ty P t).size = cs.toList := by
          show chunk cs.toList 0 (tyF P 12 t).size = _
          rw [← hl]; exact chunk_all _
        rw [this]
        exact hrep
      · cases hv
    · exact glOk_laid hP k4 hr g τ c h
theorem glOk_met {P : Program} (hP : allOk P = true) {w : World} {l : List (String × DataW Unit)} (hk : laidOk P l = true) (hn : (l.all fun x => x.2.handleName?.isNone) = true) (h : laidMetH P l w) : GlOk w (glOf P l) := by
  rw [MakeChecks.laidMetH_plain _ _ _ hn] at h
  obtain ⟨ps, h1, _⟩ := h
  exact glOk_laid hP hk h1
/-- The ghost at a program's start: all that is there stays. -/
def G.start (w : World) (gl : Nat → Option (Ty × C)) : G :=
  { H := hpOf w, Z := fun b => w.heap[b]?, ι := fun _ => none, τ := fun _ => none, κ := fun _ => none, gl := gl, oo := oof w }
theorem numbered_d (n : Nat) : ∀ (ts : List Ty) (cs : List C), tksOf n (List.zipWith V.d ts cs) = []
  | [], _ => by simp [tksOf]
  | _ :: _, [] => by simp [tksOf]
  | t :: ts, c :: cs => by simp [tksOf, V.tkOf, numbered_d (n + 1) ts cs]
theorem slots_d (n : Nat) : ∀ (ts : List Ty) (cs : List C), slots n (List.zipWith V.d ts cs) = List.zipWith V.d ts cs
  | [], _ => by simp [slots]
  | _ :: _, [] => by simp [slots]
  | t :: ts, c :: cs => by simp [slots, V.slot, slots_d (n + 1) ts cs]
theorem conc_start {w : World} {gl : Nat → Option (Ty × C)} (h : GlOk w gl) (ts : List Ty) (cs : List C) : Conc (G.start w gl) w (S.start (List.zipWith V.d ts cs) fun _ => none) := by
  refine ⟨fun b l hb => ?_, fun b o hb => hb, fun b o sz hb => by simp [G.start] at hb, fun k o hk => ?_, fun k hk => absurd rfl hk, fun k k' b τ τ' hk => by simp [G.start] at hk, fun t L ht => ?_, fun t ht => absurd rfl ht, h, rfl⟩
  · simp only [G.start, hpOf] at hb
    split at hb
    · rename_i c T fr hc
      cases hb
      exact ⟨c, T, fr, [], hc, by simp⟩
    · cases hb
  · cases k <;> simp [S.start, S.obj, objOf, lookK] at hk
  · simp [S.start, S.live, numbered_d, liveT, look] at ht
theorem trodAll_len {H : Type} {enc : TypeId × Value → H} {P : Program} {w : World} {base : Nat} {sp : Nat → Bool} {held : Bool} : ∀ {ts : List TypeId} {vs : List Value} {ds : List (DataW H)} {ps : List MemPlace},
    DataW.TrodAll enc P w base sp held ts vs ds ps → vs.length = ts.length ∧ ds.length = ts.length
  | [], vs, ds, ps, h => by obtain ⟨rfl, rfl, rfl⟩ := trodAll_nil h; simp
  | t :: ts, vs, ds, ps, h => by
    obtain ⟨v, vs, d, ds, p, q, rfl, rfl, rfl, h1, h2⟩ := trodAll_cons h
    have := trodAll_len h2
    simp [this]
theorem trodAll_get {H : Type} {enc : TypeId × Value → H} {P : Program} {w : World} {base : Nat} {sp : Nat → Bool} {held : Bool} : ∀ {ts : List TypeId} {vs : List Value} {ds : List (DataW H)} {ps : List MemPlace} {i : Nat} {t : TypeId} {v : Value} {d : DataW H},
    DataW.TrodAll enc P w base sp held ts vs ds ps → ts[i]? = some t → vs[i]? = some v → ds[i]? = some d → ∃ p, DataW.Trod enc P w base sp held t v d p
  | [], vs, ds, ps, i, t, v, d, h, ht, _, _ => by simp at ht
  | t :: ts, vs, ds, ps, i, t', v', d', h, ht, hv, hd => by
    obtain ⟨v, vs, d, ds, p, q, rfl, rfl, rfl, h1, h2⟩ := trodAll_cons h
    cases i with
    | zero => simp at ht hv hd; subst ht; subst hv; subst hd; exact ⟨p, h1⟩
    | succ i => exact trodAll_get h2 (by simpa using ht) (by simpa using hv) (by simpa using hd)
/-- A reading stays where all that was there stayed. -/
theorem trodAll_stay {H : Type} {enc : TypeId × Value → H} {P : Program} (hl : laidOutB P = true) (hm : mapsRowed P = true) (hz : slicesOk P = true) {w w' : World} (hh : ∀ b, b < w.heap.size → w'.heap[b]? = w.heap[b]?) {sp : Nat → Bool} :
    ∀ {ts : List TypeId} {vs : List Value} {ds : List (DataW H)} {ps : List MemPlace}, (∀ t ∈ ts, t < P.types.size) → DataW.TrodAll enc P w 0 (fun _ => true) true ts vs ds ps → (∀ p ∈ ps, sp p.block = true) → DataW.TrodAll enc P w' 0 sp true ts vs ds ps
  | [], vs, ds, ps, _, h, _ => by obtain ⟨rfl, rfl, rfl⟩ := trodAll_nil h; exact trodAll_mk0
  | t :: ts, vs, ds, ps, hts, h, hs => by
    have hlt := DataW.TrodAll.lt h
    obtain ⟨v, vs, d, ds, p, q, rfl, rfl, rfl, ⟨n, h1⟩, h2⟩ := trodAll_cons h
    refine ⟨p, q, ⟨n, DataW.trod_stays (kids_rows hl hm) (fun {t e} ht hu => ?_) (fun h => by cases h) (hts t (by simp)) h1 (fun x hx => ?_) (fun x hx => hs x (by simp [hx]))⟩,
      trodAll_stay hl hm hz hh (fun t ht => hts t (by simp [ht])) h2 (fun x hx => hs x (by simp [hx])), rfl⟩
    · have := List.all_eq_true.1 hz t (List.mem_range.2 ht)
      simp only [hu] at this
      simpa using this
    · have := hlt x (by simp; exact .inl hx)
      cases x with
      | cell b off => simp only [World.sameAt, World.cell?]; rw [hh b this]
      | map b => simp only [World.sameAt]; rw [hh b this]
theorem okWide_isAgg {P : Program} {W : World} {base : Nat} {t : TypeId} {v : Value} (hd : (ty P t).dat = true) (h : Value.okWide P W .any base t v) : isAggV v = (ty P t).isAgg := by
  unfold ty tyF at hd ⊢
  split at hd
  · rename_i ht
    rw [if_pos ht]
    unfold Value.okWide at h
    cases hu : P.underlying t with
    | none => simp [hu, Ty.dat] at hd
    | some d =>
      rw [hu] at h
      cases d <;> simp only [hu, Ty.dat, Ty.isAgg, Bool.false_eq_true] at hd h ⊢
      case struct => obtain ⟨cs, rfl, _⟩ := h; rfl
      case array => obtain ⟨cs, rfl, _⟩ := h; rfl
      all_goals
        unfold Cell.okWide at h
        rw [hu] at h
        cases v <;> simp [Cell.ok, hu] at h <;> rfl
  · simp [Ty.dat] at hd

section
variable {H : Type} {enc : TypeId × Value → H} {P : Program}
/-- A LAW's CONTRACT, from its run on abstract data. -/
theorem law_contract (hP : allOk P = true) (hl : laidOutB P = true) (hm : mapsRowed P = true) (hz : slicesOk P = true) {f : FuncId} {fn : Func} {s : ChangeSpec} {W : World} {base : Nat} {args : Array Value} {ds gs : List (DataW H)} {before : List MemPlace} {apart fresh handsOn again : Bool}
    (hp : fn.params.toList.all (fun t => decide (t < P.types.size) && (ty P t).dat) = true) {tb : TypeId} (hr : fn.resultTypes = #[tb]) (hb : P.underlying tb = some .bool) (hvars : s.vars = [])
    (hval : ∀ (j : Nat) t v, fn.params[j]? = some t → args[j]? = some v → Value.okWide P W .any base t v)
    (hW : DataW.Whole enc P fn.params.toList s.vars apart W args.toList ds gs before)
    (hwt : (DataW.weightsEach P fn.params.toList ds).all (· ≤ reachBytes) = true) {gl : Nat → Option (Ty × C)} (hgl : GlOk W gl)
    (hfr : (s.fn H (ds ++ gs)).results = [.lit (.bool true)]) (hfa : (s.fn H (ds ++ gs)).args = ds) (hfv : (s.fn H (ds ++ gs)).vars = [])
    (law : DCalls ⟨P, gl⟩ f (List.zipWith V.d (fn.params.toList.map (ty P)) (ds.map cOf)) (fun _ => none) (.d .bool (.bool true)) []) :
    Calls P f args W fun e W' => ∃ v, e = .returned v ∧ s.post enc P fn apart fresh handsOn again W args v W' := by
  have hW' := hW
  obtain ⟨p, q, hA, hV, rfl, hfz, hnd⟩ := hW
  rw [hvars] at hV
  obtain ⟨rfl, rfl⟩ := trodVars_none hV
  have hlens := trodAll_len hA
  have hpar : ∀ t ∈ fn.params.toList, t < P.types.size ∧ (ty P t).dat = true := by
    intro t ht
    have := List.all_eq_true.1 hp t ht
    simpa using this
  refine (law (fun _ => none) (G.start W gl) W args (fun _ _ h => h) rfl (conc_start hgl _ _) ?_ ?_).mono ?_
  · simp only [List.length_zipWith, List.length_map, hlens.2]
    have := hlens.1
    simp at this ⊢
    omega
  · intro i x u hx hu
    rw [slots_d, List.getElem?_zipWith] at hx
    split at hx
    · rename_i τ c hτ hc
      cases hx
      simp only [List.getElem?_map, Option.map_eq_some_iff] at hτ hc
      obtain ⟨t, ht, rfl⟩ := hτ
      obtain ⟨d, hd, rfl⟩ := hc
      have hu' : args.toList[i]? = some u := by simpa using hu
      obtain ⟨ps, fuel, htr⟩ := trodAll_get hA ht hu' hd
      have hm := hpar t (List.mem_of_getElem? ht)
      have hv := hval i t u (by simpa using ht) hu
      refine (repV_plain rfl).2 ⟨?_, ?_⟩
      · simp only [RepX]
        exact rep_of_trod hP (fun _ => rfl) fuel 12 hm.1 hm.2 htr (weightsEach_get ht hd hwt)
      · simp only [V.ty]
        exact okWide_isAgg hm.2 hv
    · cases hx
  · rintro e W' ⟨u, Γ', rfl, gle, c', hu⟩
    have hu' : u = .bool true := (repV_bool hu).1
    subst hu'
    refine ⟨_, rfl, ?_⟩
    have hold : ∀ b, b < W.heap.size → W'.heap[b]? = W.heap[b]? := by
      intro b hb
      have : Γ'.Z b = some W.heap[b] := by rw [gle.Z]; simp [G.start, hb]
      rw [c'.hZ b _ this]; simp [hb]
    have hoo : oof W' = oof W := by rw [c'.hoo, gle.oo]; rfl
    have hpl : ∀ t ∈ fn.params.toList, t < P.types.size := fun t ht => (hpar t ht).1
    have hblt : ∀ x ∈ p, x.block < W.heap.size := DataW.TrodAll.lt hA
    have hres : ∀ (b : Nat) (sp : Nat → Bool) (hd : Bool), DataW.TrodAll enc P W' b sp hd fn.resultTypes.toList ((Value.bool true).resultList fn.resultTypes.size) [.lit (.bool true)] [] := by
      intro b sp hd
      rw [hr]
      exact trodAll_mk1 (shut_bool hb _)
    have hstay : ∀ sp : Nat → Bool, (∀ x ∈ p, sp x.block = true) → DataW.TrodAll enc P W' 0 sp true fn.params.toList args.toList ds p := fun sp hs => trodAll_stay hl hm hz hold hpl hA hs
    refine ⟨ds, [], p ++ [], [], p, [], hW', ?_, ?_, ?_, ?_, fun _ => ⟨?_, [.lit (.bool true)] ++ ds, [], ([] ++ p) ++ [], ⟨[] ++ p, [], trodAll_append (hstay _ (fun _ _ => rfl)) (hres _ _ _), by rw [hvars]; rfl, rfl, ?_, ?_⟩, ?_⟩⟩
    · rw [hfr]; exact hres _ _ _
    · rw [hfa]; exact hstay _ (fun x hx => by simpa using hblt x hx)
    · rw [hfv, hvars]; rfl
    · refine ⟨congrArg Prod.fst hoo, congrArg Prod.snd hoo, fun i hi => ?_⟩
      rw [hold i hi]
      cases hc : W.heap[i]? with
      | none => rfl
      | some o => cases o <;> simp
    · intro j t r hj hrr
      rw [hr] at hj hrr
      cases j with
      | zero =>
        simp at hj; subst hj
        have : r = .bool true := by simpa [Value.resultList] using hrr.symm
        subst this
        exact okWide_bool_mk hb _
      | succ j => simp at hj
    · intro b off hx
      have hx' : MemPlace.cell b off ∈ p := by simpa using hx
      have := hfz b off (by simpa using hx')
      unfold World.frozen? at this ⊢
      rw [hold b (hblt _ hx')]
      exact this
    · intro ha
      simpa using hnd ha
    · intro x hx _
      simpa using hx
end
end Go.E

namespace Go.E
open Go

def dropN {α : Type} : List (Nat × α) → Nat → List (Nat × α)
  | [], _ => []
  | (j, x) :: l, i => if j = i then dropN l i else (j, x) :: dropN l i
def dropK {α : Type} : List (Key × α) → Key → List (Key × α)
  | [], _ => []
  | (j, x) :: l, i => if j = i then dropK l i else (j, x) :: dropK l i
def S.less (s : S) (t j : Nat) : S := ⟨dropN s.env t, dropK s.loc (.l j), s.A, s.tk⟩
/-- A local variable that is not written any more is data. -/
theorem weak_fix {X : Cx} {n : Nat} {s : S} (t j : Nat) {τ : Ty} {x : V} {cc : C} (hslot : s.get t = .ptr (.l j) [] τ) (hobj : s.obj (.l j) = some (.box x)) (hcl : closeV x = some cc) (hτ : x.ty = τ) (hj : hasL (s.less t j).loc j = false)
    (hloc : locW s (s.less t j).loc) (hlok : locOk (hasL (s.less t j).loc) (hasT s.tk) (s.less t j).loc = true) (hg : allG (s.less t j).loc s.A s.loc)
    (htk : tkW s s.tk) (henv : envW (hasL (s.less t j).loc) (hasT s.tk) s (s.less t j).env) : Weak X n s ((s.less t j).set (some t) (.cptr τ cc)) :=
  weak_freeze (s' := s.less t j) hslot hobj hcl hτ hj rfl hloc hlok hg htk henv
attribute [go_sem] dropN dropK S.less
end Go.E
namespace Go.E
open Go
section
variable {X : Cx} {md : List (Nat × Nat)} {ops : Array Oper} {Φ : S → Prop} {rest : List Oper} {ts : List Nat} {o : Oper} {base s : S}
/-- A call that looks at no object and makes none. -/
theorem vdO_call0 (n : List Unit) {f : FuncId} {args : Array Operand} {ts' : Array TypeId} {xs : List V} {v : V} (D : DCalls X f xs s00.up v []) (hk : ts.head? = some 0) (ho : o.op = .call { callee := .value (.func f), args := args, argTypes := ts' }) (hc : callable X.P f = true) (hl : ts'.toList.length = args.toList.length)
    (hx : argsOf X.P false s00 ts'.toList (args.toList.map (evalA X.gl s)) = xs) (hv : v.tkR 2000 = []) (h : vdN X md ops Φ n rest ts.tail base (s.set o.dst ((v.slotR 2000).ren (dn (dstN o)) (rk (dstN o))))) :
    vdO X md ops Φ n o rest ts base s := by
  unfold vdO kop iop
  rw [hk]
  simp only
  rw [ho]
  simp only [evalA, callArgs, callTs, List.append_nil, List.length_nil, List.replicate_zero]
  exact .inl ⟨hc, hl, v, [], by rw [hx]; exact D, rfl, rfl, by rw [hv]; rfl, h⟩
end
end Go.E
namespace Go.E
open Go
def memN : Nat → List Nat → Bool
  | _, [] => false
  | i, j :: l => if i = j then true else memN i l
def keepN {α : Type} : List (Nat × α) → List Nat → List (Nat × α)
  | [], _ => []
  | (j, x) :: l, ks => if memN j ks then (j, x) :: keepN l ks else keepN l ks
/-- Only some slots are kept. -/
theorem weak_keep {X : Cx} {n : Nat} {s : S} (ks : List Nat) (hloc : locW s s.loc) (hlok : locOk (hasL s.loc) (hasT s.tk) s.loc = true) (hg : allG s.loc s.A s.loc)
    (htk : tkW s s.tk) (henv : envW (hasL s.loc) (hasT s.tk) s (keepN s.env ks)) : Weak X n s ⟨keepN s.env ks, s.loc, s.A, s.tk⟩ :=
  weak_to rfl hloc hlok hg htk henv
attribute [go_sem] memN keepN
end Go.E

namespace Go.E
open Go

/- ---------- a run on abstract data that can be computed: values ---------- -/
mutual
def C.beq : C → C → Bool
  | .int a, .int b => decide (a = b)
  | .bool a, .bool b => a == b
  | .str a, .str b => decide (a = b)
  | .agg a, .agg b => C.beqs a b
  | .slice a, .slice b => C.beqs a b
  | .nil, .nil => true
  | _, _ => false
def C.beqs : List C → List C → Bool
  | [], [] => true
  | x :: xs, y :: ys => C.beq x y && C.beqs xs ys
  | _, _ => false
end
mutual
theorem C.beq_iff : ∀ (a b : C), C.beq a b = true ↔ a = b
  | .int a, b => by cases b <;> simp [C.beq]
  | .bool a, b => by cases b <;> simp [C.beq]
  | .str a, b => by cases b <;> simp [C.beq]
  | .agg a, b => by cases b <;> simp [C.beq, C.beqs_iff a]
  | .slice a, b => by cases b <;> simp [C.beq, C.beqs_iff a]
  | .nil, b => by cases b <;> simp [C.beq]
theorem C.beqs_iff : ∀ (a b : List C), C.beqs a b = true ↔ a = b
  | [], b => by cases b <;> simp [C.beqs]
  | x :: xs, [] => by simp [C.beqs]
  | x :: xs, y :: ys => by simp [C.beqs, C.beq_iff x, C.beqs_iff xs]
end
instance : DecidableEq C := fun a b => decidable_of_iff _ (C.beq_iff a b)
theorem C.eqb_dec (a b : C) : C.eqb a b = C.beq a b := by
  rw [Bool.eq_iff_iff, C.eqb_iff, C.beq_iff]
mutual
def Ty.beq : Ty → Ty → Bool
  | .int a, .int b => decide (a = b)
  | .bool, .bool | .str, .str | .ptr, .ptr | .map, .map | .func, .func | .iface, .iface => true
  | .slice a e, .slice b f => decide (a = b) && Ty.beq e f
  | .arr a e, .arr b f => decide (a = b) && Ty.beq e f
  | .struct a o e, .struct b p f => decide (a = b) && decide (o = p) && Ty.beqs e f
  | .opq a, .opq b => decide (a = b)
  | _, _ => false
def Ty.beqs : List Ty → List Ty → Bool
  | [], [] => true
  | x :: xs, y :: ys => Ty.beq x y && Ty.beqs xs ys
  | _, _ => false
end
mutual
theorem Ty.beq_iff : ∀ (a b : Ty), Ty.beq a b = true ↔ a = b
  | .int a, b => by cases b <;> simp [Ty.beq]
  | .bool, b => by cases b <;> simp [Ty.beq]
  | .str, b => by cases b <;> simp [Ty.beq]
  | .ptr, b => by cases b <;> simp [Ty.beq]
  | .map, b => by cases b <;> simp [Ty.beq]
  | .func, b => by cases b <;> simp [Ty.beq]
  | .iface, b => by cases b <;> simp [Ty.beq]
  | .slice a e, b => by cases b <;> simp [Ty.beq, Ty.beq_iff e]
  | .arr a e, b => by cases b <;> simp [Ty.beq, Ty.beq_iff e]
  | .struct a o e, b => by cases b <;> simp [Ty.beq, Ty.beqs_iff e, and_assoc]
  | .opq a, b => by cases b <;> simp [Ty.beq]
theorem Ty.beqs_iff : ∀ (a b : List Ty), Ty.beqs a b = true ↔ a = b
  | [], b => by cases b <;> simp [Ty.beqs]
  | x :: xs, [] => by simp [Ty.beqs]
  | x :: xs, y :: ys => by simp [Ty.beqs, Ty.beq_iff x, Ty.beqs_iff xs]
end
instance : DecidableEq Ty := fun a b => decidable_of_iff _ (Ty.beq_iff a b)
def V.isAny : V → Bool
  | .any => true
  | _ => false
theorem V.isAny_false {x : V} (h : x.isAny = false) : x ≠ .any := by
  intro e; subst e; cases h
instance (k : IntKind) (x : V) : Decidable (x.isInt k) := by unfold V.isInt; split <;> infer_instance
instance (x : V) : Decidable x.isBool := by unfold V.isBool; split <;> infer_instance
instance (x : V) : Decidable x.isStr := by unfold V.isStr; split <;> infer_instance
instance (x : V) : Decidable x.isAnyInt := by unfold V.isAnyInt; split <;> infer_instance
instance (τ : Ty) (x : V) : Decidable (x.isData τ) := by unfold V.isData; split <;> infer_instance

def evInt (op : BinOp) (k : IntKind) (a b : Int) : Option V :=
  match op with
  | .add => some (.d (.int k) (.int (k.wrap (a + b))))
  | .sub => some (.d (.int k) (.int (k.wrap (a - b))))
  | .mul => some (.d (.int k) (.int (k.wrap (a * b))))
  | .quo => if b ≠ 0 then some (.d (.int k) (.int (k.wrap (a.tdiv b)))) else none
  | .rem => if b ≠ 0 then some (.d (.int k) (.int (a.tmod b))) else none
  | .and | .or | .xor | .andNot => some (.d (.int k) (.int (bitsC op k a b)))
  | .eql => some (.d .bool (.bool (decide (a = b))))
  | .neq => some (.d .bool (.bool (!decide (a = b))))
  | .lss => some (.d .bool (.bool (decide (a < b))))
  | .leq => some (.d .bool (.bool (decide (a ≤ b))))
  | .gtr => some (.d .bool (.bool (decide (b < a))))
  | .geq => some (.d .bool (.bool (decide (b ≤ a))))
  | _ => none
theorem evInt_ok {op : BinOp} {k : IntKind} {a b : Int} {v : V} {K : V → Prop} (h : evInt op k a b = some v) (hK : K v) : intBin op k a b K := by
  cases op <;> simp only [evInt, intBin, Option.some.injEq, Option.ite_none_right_eq_some, reduceCtorEq] at h ⊢ <;>
    first | (subst h; exact hK) | (obtain ⟨h1, h2⟩ := h; subst h2; exact ⟨h1, hK⟩)
def evSh (op : BinOp) (k : IntKind) (a b : Int) : Option V :=
  match op with
  | .shl => if 0 ≤ b then some (.d (.int k) (.int (k.wrap (a * 2 ^ (min b.toNat k.bits))))) else none
  | .shr => if 0 ≤ b then some (.d (.int k) (.int (a.fdiv (2 ^ (min b.toNat k.bits))))) else none
  | _ => none
theorem evSh_ok {op : BinOp} {k : IntKind} {a b : Int} {v : V} {K : V → Prop} (h : evSh op k a b = some v) (hK : K v) : shBin op k a b K := by
  cases op <;> simp only [evSh, shBin, Option.some.injEq, Option.ite_none_right_eq_some, reduceCtorEq] at h ⊢ <;>
    (obtain ⟨h1, h2⟩ := h; subst h2; exact ⟨h1, hK⟩)
def evStr (op : BinOp) (a b : List UInt8) : Option V :=
  match op with
  | .add => if a.length + b.length ≤ 140737488355328 then some (.d .str (.str (a ++ b))) else none
  | .eql => some (.d .bool (.bool (a == b)))
  | .neq => some (.d .bool (.bool (!(a == b))))
  | .lss => some (.d .bool (.bool (Op.bytesLess a b)))
  | .leq => some (.d .bool (.bool (Op.bytesLess a b || a == b)))
  | .gtr => some (.d .bool (.bool (!(Op.bytesLess a b || a == b))))
  | .geq => some (.d .bool (.bool (!Op.bytesLess a b)))
  | _ => none
theorem evStr_ok {op : BinOp} {a b : List UInt8} {v : V} {K : V → Prop} (h : evStr op a b = some v) (hK : K v) : strBin op a b K := by
  cases op <;> simp only [evStr, strBin, Option.some.injEq, Option.ite_none_right_eq_some, reduceCtorEq] at h ⊢ <;>
    first | (subst h; exact hK) | (obtain ⟨h1, h2⟩ := h; subst h2; exact ⟨h1, hK⟩)
def evAgg (op : BinOp) (b : Bool) : Option V :=
  match op with
  | .eql => some (.d .bool (.bool b))
  | .neq => some (.d .bool (.bool (!b)))
  | _ => none
theorem evAgg_ok {op : BinOp} {b : Bool} {v : V} {K : V → Prop} (h : evAgg op b = some v) (hK : K v) : aggBin op b K := by
  cases op <;> simp only [evAgg, aggBin, Option.some.injEq, reduceCtorEq] at h ⊢ <;> (subst h; exact hK)
def evBoolBin (op : BinOp) (x y : Bool) : Option V :=
  match op with
  | .eql => some (.d .bool (.bool (x == y)))
  | .neq => some (.d .bool (.bool (!(x == y))))
  | _ => none
def evPtrBin (op : BinOp) (x y : Option Bool) : Option V :=
  match op, x, y with
  | .eql, some a, some true => some (.d .bool (.bool a))
  | .neq, some a, some true => some (.d .bool (.bool (!a)))
  | .eql, some true, some b => some (.d .bool (.bool b))
  | .neq, some true, some b => some (.d .bool (.bool (!b)))
  | _, _, _ => none
def evSlBin (op : BinOp) (x : Option (Option Bool)) (y : V) : Option V :=
  match op, x, y with
  | .eql, some r, .nilc => some (nilV r)
  | .neq, some r, .nilc => some (nilV (r.map (!·)))
  | _, _, _ => none
def evBin (P : Program) (op : BinOp) (T : TypeId) (x y : V) : Option V :=
  match ty P T with
  | .int k => if x.isInt k then (if BinOp.isShift op then (if y.isAnyInt then evSh op k x.toInt y.toInt else none) else (if y.isInt k then evInt op k x.toInt y.toInt else none)) else none
  | .bool => if x.isBool ∧ y.isBool then evBoolBin op x.toBool y.toBool else none
  | .str => if x.isStr ∧ y.isStr then evStr op x.toStr y.toStr else none
  | .ptr => evPtrBin op x.nilQ y.nilQ
  | .arr n e => if eqOk P T = true ∧ x.isData (.arr n e) ∧ y.isData (.arr n e) then evAgg op (C.beq x.toC y.toC) else none
  | .struct sz os fs => if eqOk P T = true ∧ x.isData (.struct sz os fs) ∧ y.isData (.struct sz os fs) then evAgg op (C.beq x.toC y.toC) else none
  | .slice _ _ => evSlBin op x.nilS y
  | _ => none
theorem evBin_ok {P : Program} {op : BinOp} {T : TypeId} {x y v : V} {K : V → Prop} (h : evBin P op T x y = some v) (hK : K v) : pvBin P op T x y K := by
  unfold evBin at h
  unfold pvBin
  generalize ty P T = τ at h ⊢
  split at h
  · simp only [Option.ite_none_right_eq_some] at h
    obtain ⟨h1, h2⟩ := h
    refine ⟨h1, ?_⟩
    split at h2
    · rename_i hs
      rw [if_pos hs]
      simp only [Option.ite_none_right_eq_some] at h2
      exact ⟨h2.1, evSh_ok h2.2 hK⟩
    · rename_i hs
      rw [if_neg hs]
      simp only [Option.ite_none_right_eq_some] at h2
      exact ⟨h2.1, evInt_ok h2.2 hK⟩
  · simp only [Option.ite_none_right_eq_some] at h
    obtain ⟨⟨h1, h2⟩, h3⟩ := h
    refine ⟨h1, h2, ?_⟩
    cases op <;> simp only [evBoolBin, Option.some.injEq, reduceCtorEq] at h3 ⊢ <;> (subst h3; exact hK)
  · simp only [Option.ite_none_right_eq_some] at h
    exact ⟨h.1.1, h.1.2, evStr_ok h.2 hK⟩
  · simp only [evPtrBin] at h
    split at h <;> (try (cases h)) <;> simp_all
  · simp only [Option.ite_none_right_eq_some] at h
    exact ⟨h.1.1, h.1.2.1, h.1.2.2, evAgg_ok (by rw [C.eqb_dec]; exact h.2) hK⟩
  · simp only [Option.ite_none_right_eq_some] at h
    exact ⟨h.1.1, h.1.2.1, h.1.2.2, evAgg_ok (by rw [C.eqb_dec]; exact h.2) hK⟩
  · simp only [evSlBin] at h
    split at h <;> (try (cases h)) <;> simp_all
  · cases h
def evSlice (P : Program) (T : TypeId) (x : V) (lo hi mx : Option V) : Option V :=
  match ty P T with
  | .str => (match boundI lo 0, boundI hi x.toStr.length with
      | some l, some h => if x.isStr ∧ mx.isNone ∧ 0 ≤ l ∧ l ≤ h ∧ h ≤ x.toStr.length then some (.d .str (.str ((x.toStr.take h.toNat).drop l.toNat))) else none
      | _, _ => none)
  | .slice eb e => (match x with
      | .sr k q lo0 n cp eb' e' => if eb' = eb ∧ e' = e then (match boundI lo 0, boundI hi n, mx with
          | some l, some h, none => if 0 ≤ l ∧ l ≤ h ∧ h ≤ n then some (.sr k q (lo0 + l.toNat) (h - l).toNat (cp.map (· - l.toNat)) eb e) else none
          | some l, some h, some m => if hi.isSome = true then (match boundI (some m) 0 with
              | some m => if 0 ≤ l ∧ l = h ∧ h = m ∧ m ≤ n then some (.emp eb e) else none
              | none => none) else none
          | _, _, _ => none) else none
      | x => (match x.asSl with
        | some (eb', e', cs) => if eb' = eb ∧ e' = e then (match boundI lo 0, boundI hi cs.length, mx with
          | some l, some h, none => if 0 ≤ l ∧ l ≤ h ∧ h ≤ cs.length then some (.d (.slice eb e) (.slice (cut cs l h))) else none
          | some l, some h, some m => if hi.isSome = true then (match boundI (some m) 0 with
              | some m => if 0 ≤ l ∧ l = h ∧ h = m ∧ m ≤ cs.length then some (.emp eb e) else none
              | none => none) else none
          | _, _, _ => none) else none
        | none => none))
  | _ => (match ptrArr P T with
    | some (n, eb, e) => if n * eb ≤ 140737488355328 ∧ n ≤ maxLen ∧ mx.isNone then (match boundI lo 0, boundI hi n with
        | some l, some h => if 0 ≤ l ∧ l ≤ h ∧ h ≤ n then (match x with
            | .ptr k q τ => if τ = .arr n e then some (.sr k q l.toNat (h - l).toNat (some (n - l.toNat)) eb e) else none
            | .cptr τ c => if τ = .arr n e then some (.d (.slice eb e) (.slice (cut c.elems l h))) else none
            | _ => none) else none
        | _, _ => none) else none
    | none => none)
theorem evSlice_ok {P : Program} {T : TypeId} {x v : V} {lo hi mx : Option V} {K : V → Prop} (h : evSlice P T x lo hi mx = some v) (hK : K v) : pvSlice P T x lo hi mx K := by
  unfold evSlice at h
  unfold pvSlice
  generalize ty P T = τ at h ⊢
  split at h
  · split at h
    · rename_i l hh e1 e2
      simp only [Option.ite_none_right_eq_some, Option.some.injEq] at h
      obtain ⟨⟨h1, h2, h3⟩, rfl⟩ := h
      refine ⟨h1, by simpa using h2, ?_⟩
      rw [e1, e2]
      exact ⟨h3.1, h3.2.1, h3.2.2, hK⟩
    · cases h
  · split at h
    · simp only [Option.ite_none_right_eq_some] at h
      obtain ⟨⟨h1, h2⟩, h⟩ := h
      refine ⟨h1, h2, ?_⟩
      split at h
      · rename_i e1 e2
        simp only [Option.ite_none_right_eq_some, Option.some.injEq] at h
        obtain ⟨h3, rfl⟩ := h
        rw [e1, e2]
        exact ⟨h3.1, h3.2.1, h3.2.2, hK⟩
      · rename_i e1 e2
        simp only [Option.ite_none_right_eq_some] at h
        obtain ⟨h3, h⟩ := h
        rw [e1, e2]
        refine ⟨h3, ?_⟩
        split at h
        · rename_i e3
          simp only [Option.ite_none_right_eq_some, Option.some.injEq] at h
          obtain ⟨h4, rfl⟩ := h
          rw [e3]
          exact ⟨h4.1, h4.2.1, h4.2.2.1, h4.2.2.2, hK⟩
        · cases h
      · cases h
    · rename_i x' hx'
      cases x <;> (try exact (hx' _ _ _ _ _ _ _ rfl).elim) <;> (
        split at h
        · rename_i e0
          simp only [e0]
          simp only [Option.ite_none_right_eq_some] at h
          obtain ⟨⟨h1, h2⟩, h⟩ := h
          refine ⟨h1, h2, ?_⟩
          split at h
          · rename_i e1 e2
            simp only [Option.ite_none_right_eq_some, Option.some.injEq] at h
            obtain ⟨h3, rfl⟩ := h
            rw [e1, e2]
            exact ⟨h3.1, h3.2.1, h3.2.2, hK⟩
          · rename_i e1 e2
            simp only [Option.ite_none_right_eq_some] at h
            obtain ⟨h3, h⟩ := h
            rw [e1, e2]
            refine ⟨h3, ?_⟩
            split at h
            · rename_i e3
              simp only [Option.ite_none_right_eq_some, Option.some.injEq] at h
              obtain ⟨h4, rfl⟩ := h
              rw [e3]
              exact ⟨h4.1, h4.2.1, h4.2.2.1, h4.2.2.2, hK⟩
            · cases h
          · cases h
        · cases h)
  · rename_i hn1 hn2
    split at h
    · rename_i e0
      split <;> first | exact (hn1 rfl).elim | exact (hn2 _ _ rfl).elim | skip
      rw [e0]
      simp only [Option.ite_none_right_eq_some] at h
      obtain ⟨⟨h1, h2, h3⟩, h⟩ := h
      refine ⟨h1, h2, by simpa using h3, ?_⟩
      split at h
      · rename_i e1 e2
        rw [e1, e2]
        simp only [Option.ite_none_right_eq_some] at h
        obtain ⟨h4, h⟩ := h
        refine ⟨h4.1, h4.2.1, h4.2.2, ?_⟩
        split at h
        · simp only [Option.ite_none_right_eq_some, Option.some.injEq] at h
          obtain ⟨h5, rfl⟩ := h
          exact ⟨h5, hK⟩
        · simp only [Option.ite_none_right_eq_some, Option.some.injEq] at h
          obtain ⟨h5, rfl⟩ := h
          exact ⟨h5, hK⟩
        · cases h
      · cases h
    · cases h
def evLen (P : Program) (T : TypeId) (x : V) : Option V :=
  match ty P T, x with
  | .str, .d τ c => if τ = .str then some (.d (.int .i64) (.int c.toStr.length)) else none
  | .slice _ _, .nilc => some (.d (.int .i64) (.int 0))
  | .slice _ _, .sr _ _ _ n _ _ _ => some (.d (.int .i64) (.int n))
  | .slice eb e, x => (match x.asSl with
      | some (eb', e', cs) => if eb' = eb ∧ e' = e then some (.d (.int .i64) (.int cs.length)) else none
      | none => none)
  | .arr n _, _ => if (n : Int) ≤ 9223372036854775807 then some (.d (.int .i64) (.int n)) else none
  | _, _ => none
theorem evLen_ok {P : Program} {T : TypeId} {x v : V} {K : V → Prop} (h : evLen P T x = some v) (hK : K v) : pvLen P T x K := by
  unfold evLen at h
  unfold pvLen
  generalize ty P T = τ at h ⊢
  cases τ <;> (try (cases h; done)) <;> cases x <;> (try (cases h; done)) <;> simp only [Option.ite_none_right_eq_some, Option.some.injEq] at h ⊢ <;>
    first
    | (subst h; exact hK)
    | (obtain ⟨h1, rfl⟩ := h; exact ⟨h1, hK⟩)
    | (split at h
       · rename_i e0
         simp only [Option.ite_none_right_eq_some, Option.some.injEq] at h
         obtain ⟨h1, rfl⟩ := h
         rw [e0]
         exact ⟨h1.1, h1.2, hK⟩
       · cases h)
def evIndexAddr (P : Program) (T : TypeId) (x i : V) : Option V :=
  if i.isAnyInt then
  match ty P T, x with
  | .slice eb e, .sr k q lo n _ eb' e' => if eb' = eb ∧ e' = e ∧ 0 ≤ i.toInt ∧ i.toInt < n then some (.ptr k (q ++ [lo + i.toInt.toNat]) e) else none
  | .slice eb e, x => (match x.asSl with
      | some (eb', e', cs) => if eb' = eb ∧ e' = e ∧ 0 ≤ i.toInt ∧ i.toInt < cs.length then some (.cptr e (cs.getD i.toInt.toNat .nil)) else none
      | none => none)
  | .arr n e, .ptr k q τ => if τ = .arr n e ∧ 0 ≤ i.toInt ∧ i.toInt < n then some (.ptr k (q ++ [i.toInt.toNat]) e) else none
  | .arr n e, .cptr τ c => if τ = .arr n e ∧ 0 ≤ i.toInt ∧ i.toInt < n then some (.cptr e (c.get i.toInt.toNat)) else none
  | _, _ => none
  else none
theorem evIndexAddr_ok {P : Program} {T : TypeId} {x i v : V} {K : V → Prop} (h : evIndexAddr P T x i = some v) (hK : K v) : pvIndexAddr P T x i K := by
  unfold evIndexAddr at h
  unfold pvIndexAddr
  simp only [Option.ite_none_right_eq_some] at h
  obtain ⟨h0, h⟩ := h
  refine ⟨h0, ?_⟩
  generalize ty P T = τ at h ⊢
  cases τ <;> (try (cases h; done)) <;> cases x <;> (try (cases h; done)) <;> simp only [Option.ite_none_right_eq_some, Option.some.injEq] at h ⊢ <;>
    first
    | (obtain ⟨h1, rfl⟩ := h; exact ⟨h1.1, h1.2.1, h1.2.2.1, h1.2.2.2, hK⟩)
    | (obtain ⟨h1, rfl⟩ := h; exact ⟨h1.1, h1.2.1, h1.2.2, hK⟩)
    | (split at h
       · rename_i e0
         simp only [Option.ite_none_right_eq_some, Option.some.injEq] at h
         obtain ⟨h1, rfl⟩ := h
         rw [e0]
         exact ⟨h1.1, h1.2.1, h1.2.2.1, h1.2.2.2, hK⟩
       · cases h)
def evFieldAddr (P : Program) (T : TypeId) (x : V) (i : Nat) : Option V :=
  match x with
  | .ptr k q τ => if τ = ty P T ∧ τ.isStruct = true ∧ (τ.child i).isSome = true ∧ (τ.get i).size ≠ 0 then some (.ptr k (q ++ [i]) (τ.get i)) else none
  | .cptr τ c => if τ = ty P T ∧ τ.isStruct = true ∧ (τ.child i).isSome = true ∧ (τ.get i).size ≠ 0 then some (.cptr (τ.get i) (c.get i)) else none
  | _ => none
theorem evFieldAddr_ok {P : Program} {T : TypeId} {x v : V} {i : Nat} {K : V → Prop} (h : evFieldAddr P T x i = some v) (hK : K v) : pvFieldAddr P T x i K := by
  unfold evFieldAddr at h
  unfold pvFieldAddr
  split at h
  · simp only [Option.ite_none_right_eq_some, Option.some.injEq] at h
    obtain ⟨h1, rfl⟩ := h
    exact ⟨h1.1, h1.2.1, h1.2.2.1, h1.2.2.2, hK⟩
  · simp only [Option.ite_none_right_eq_some, Option.some.injEq] at h
    obtain ⟨h1, rfl⟩ := h
    exact ⟨h1.1, h1.2.1, h1.2.2.1, h1.2.2.2, hK⟩
  · cases h
def evUn (P : Program) (op : UnOp) (T : TypeId) (x : V) : Option V :=
  match ty P T, op with
  | .bool, .not => if x.isBool then some (.d .bool (.bool (!x.toBool))) else none
  | .int k, .neg => if x.isInt k then some (.d (.int k) (.int (k.wrap (0 - x.toInt)))) else none
  | _, _ => none
theorem evUn_ok {P : Program} {op : UnOp} {T : TypeId} {x v : V} {K : V → Prop} (h : evUn P op T x = some v) (hK : K v) : pvUn P op T x K := by
  unfold evUn at h
  unfold pvUn
  generalize ty P T = τ at h ⊢
  split at h
  · simp only [Option.ite_none_right_eq_some, Option.some.injEq] at h
    obtain ⟨h1, rfl⟩ := h
    exact ⟨h1, hK⟩
  · simp only [Option.ite_none_right_eq_some, Option.some.injEq] at h
    obtain ⟨h1, rfl⟩ := h
    exact ⟨h1, hK⟩
  · cases h
def evConv (P : Program) (src dst : TypeId) (x : V) : Option V :=
  match ty P src, ty P dst with
  | .int k, .int k2 => if x.isInt k then some (.d (.int k2) (.int (k2.wrap x.toInt))) else none
  | .str, .str => if x.isStr then some x else none
  | _, _ => none
theorem evConv_ok {P : Program} {src dst : TypeId} {x v : V} {K : V → Prop} (h : evConv P src dst x = some v) (hK : K v) : pvConv P src dst x K := by
  unfold evConv at h
  unfold pvConv
  generalize ty P src = τ at h ⊢
  generalize ty P dst = τ2 at h ⊢
  split at h
  · simp only [Option.ite_none_right_eq_some, Option.some.injEq] at h
    obtain ⟨h1, rfl⟩ := h
    exact ⟨h1, hK⟩
  · simp only [Option.ite_none_right_eq_some, Option.some.injEq] at h
    obtain ⟨h1, rfl⟩ := h
    exact ⟨h1, hK⟩
  · cases h
def evBuiltin (P : Program) (b : Builtin) (ts : Array TypeId) (xs : List V) : Option V :=
  match b, xs with
  | .len, [x] => if 0 < ts.size then evLen P (ts.getD 0 0) x else none
  | .min, [x, y] => (match x with
      | .d (.int k) _ => if y.isInt k then some (.d (.int k) (.int (if y.toInt < x.toInt then y.toInt else x.toInt))) else none
      | _ => none)
  | .max, [x, y] => (match x with
      | .d (.int k) _ => if y.isInt k then some (.d (.int k) (.int (if x.toInt < y.toInt then y.toInt else x.toInt))) else none
      | _ => none)
  | _, _ => none
theorem evBuiltin_ok {P : Program} {b : Builtin} {ts : Array TypeId} {xs : List V} {v : V} {K : V → Prop} (h : evBuiltin P b ts xs = some v) (hK : K v) : pvBuiltin P b ts xs K := by
  unfold evBuiltin at h
  unfold pvBuiltin
  split at h
  · simp only [Option.ite_none_right_eq_some] at h
    exact ⟨h.1, evLen_ok h.2 hK⟩
  · split at h
    · simp only [Option.ite_none_right_eq_some, Option.some.injEq] at h
      obtain ⟨h1, rfl⟩ := h
      exact ⟨h1, hK⟩
    · cases h
  · split at h
    · simp only [Option.ite_none_right_eq_some, Option.some.injEq] at h
      obtain ⟨h1, rfl⟩ := h
      exact ⟨h1, hK⟩
    · cases h
  · cases h
def evPv (P : Program) (op : Op) (ρ : Operand → V) : Option V :=
  match op with
  | .move x => some (ρ x)
  | .assign x => some (ρ x)
  | .pick c a b => if (ρ c).isBool then some (bif (ρ c).toBool then ρ a else ρ b) else none
  | .nilCheck x => if (ρ x).nilQ = some false then some (ρ x) else none
  | .binOp op T x y _ => evBin P op T (ρ x) (ρ y)
  | .unOp op T x => evUn P op T (ρ x)
  | .convert src dst x => evConv P src dst (ρ x)
  | .fieldAddr T x i => evFieldAddr P T (ρ x) i
  | .field T x i => if (ρ x).ty = ty P T ∧ (ρ x).ty.isStruct = true ∧ ((ρ x).ty.child i).isSome = true ∧ ((ρ x).ty.get i).known = true ∧ (ρ x).plain = true ∧ ((ρ x).get i).isAny = false then some ((ρ x).get i) else none
  | .indexAddr T x i => evIndexAddr P T (ρ x) (ρ i)
  | .index T x i => if (ρ i).isAnyInt then (match ty P T with
      | .arr n e => if (ρ x).ty = .arr n e ∧ (ρ x).plain = true ∧ e.known = true ∧ 0 ≤ (ρ i).toInt ∧ (ρ i).toInt < n ∧ ((ρ x).get (ρ i).toInt.toNat).isAny = false then some ((ρ x).get (ρ i).toInt.toNat) else none
      | .str => if (ρ x).isStr ∧ 0 ≤ (ρ i).toInt ∧ (ρ i).toInt < (ρ x).toStr.length then some (.d (.int .u8) (.int ((ρ x).toStr.getD (ρ i).toInt.toNat 0).toNat)) else none
      | _ => none) else none
  | .slice T x lo hi mx => evSlice P T (ρ x) (lo.map ρ) (hi.map ρ) (mx.map ρ)
  | .extract x i => (match ρ x with
      | .tup xs => xs[i]?
      | _ => none)
  | .makeFunc fn first caps => (match fn, first.toList with
      | .func f, [] => if (caps.toList.map ρ).all V.plain = true then some (.fn f (caps.toList.map ρ)) else none
      | _, _ => none)
  | .call c => (match c.callee with
      | .builtin b => evBuiltin P b c.argTypes (c.args.toList.map ρ)
      | _ => none)
  | _ => none
theorem evPv_ok {P : Program} {op : Op} {ρ : Operand → V} {v : V} {K : V → Prop} (h : evPv P op ρ = some v) (hK : K v) : pv P op ρ K := by
  unfold evPv at h
  unfold pv
  split at h
  · cases h; exact hK
  · cases h; exact hK
  · simp only [Option.ite_none_right_eq_some, Option.some.injEq] at h
    obtain ⟨h1, rfl⟩ := h
    refine ⟨h1, fun e => ?_, fun e => ?_⟩ <;> rw [e] at hK <;> exact hK
  · simp only [Option.ite_none_right_eq_some, Option.some.injEq] at h
    obtain ⟨h1, rfl⟩ := h
    exact ⟨h1, hK⟩
  · exact evBin_ok h hK
  · exact evUn_ok h hK
  · exact evConv_ok h hK
  · exact evFieldAddr_ok h hK
  · simp only [Option.ite_none_right_eq_some, Option.some.injEq] at h
    obtain ⟨h1, rfl⟩ := h
    exact ⟨h1.1, h1.2.1, h1.2.2.1, h1.2.2.2.1, h1.2.2.2.2.1, V.isAny_false h1.2.2.2.2.2, hK⟩
  · exact evIndexAddr_ok h hK
  · simp only [Option.ite_none_right_eq_some] at h
    obtain ⟨h0, h⟩ := h
    refine ⟨h0, ?_⟩
    rename_i T _ _
    generalize ty P T = τ at h ⊢
    split at h
    · simp only [Option.ite_none_right_eq_some, Option.some.injEq] at h
      obtain ⟨h1, rfl⟩ := h
      exact ⟨h1.1, h1.2.1, h1.2.2.1, h1.2.2.2.1, h1.2.2.2.2.1, V.isAny_false h1.2.2.2.2.2, hK⟩
    · simp only [Option.ite_none_right_eq_some, Option.some.injEq] at h
      obtain ⟨h1, rfl⟩ := h
      exact ⟨h1.1, h1.2.1, h1.2.2, hK⟩
    · cases h
  · exact evSlice_ok h hK
  · split at h
    · rename_i e0
      simp only [e0, h]
      exact hK
    · cases h
  · split at h
    · rename_i e0
      simp only [e0]
      simp only [Option.ite_none_right_eq_some, Option.some.injEq] at h
      obtain ⟨h1, rfl⟩ := h
      exact ⟨h1, hK⟩
    · cases h
  · split at h
    · rename_i e0
      simp only [e0]
      exact evBuiltin_ok h hK
    · cases h
  · cases h
end Go.E

namespace Go.E
open Go

/- ---------- a run on abstract data that can be computed: operations ---------- -/
def S.wA (s : S) (A : Key → Option O) : S := { s with A := A }
def leA (A A' : Key → Option O) : Prop := ∀ k o, A k = some o → A' k = some o
theorem obj_wA {s : S} {A' : Key → Option O} (hA : leA s.A A') {k : Key} {o : O} (h : s.obj k = some o) : (s.wA A').obj k = some o := by
  simp only [S.obj, objOf, S.wA] at h ⊢
  cases hl : lookK s.loc k with
  | some x => rw [hl] at h; exact h
  | none =>
    rw [hl] at h
    cases k with
    | l n => cases h
    | g k => exact hA _ _ h
theorem obj_wA_l (s : S) (A' : Key → Option O) (n : Nat) : (s.wA A').obj (.l n) = s.obj (.l n) := rfl
theorem evalA_wA (gl : Nat → Option (Ty × C)) (s : S) (A' : Key → Option O) : evalA gl (s.wA A') = evalA gl s := by
  funext y; cases y <;> rfl
theorem up_wA {s : S} {A' : Key → Option O} (hA : leA s.A A') : leA s.up (s.wA A').up := by
  intro k o h
  simp only [S.up, Option.map_eq_some_iff] at h ⊢
  obtain ⟨x, h1, h2⟩ := h
  exact ⟨x, obj_wA hA h1, h2⟩
theorem live_wA (s : S) (A' : Key → Option O) (t : Nat) : (s.wA A').live t = s.live t := rfl
theorem elemsOf_wA {s : S} {A' : Key → Option O} (hA : leA s.A A') {x : V} {r : Nat × Ty × List C} (h : elemsOf s x = some r) : elemsOf (s.wA A') x = some r := by
  cases x <;> simp only [elemsOf] at h ⊢ <;> try exact h
  split at h
  · rename_i y hy
    rw [obj_wA hA hy]
    exact h
  · cases h
def evSrc (P : Program) (s : S) (t' : TypeId) (eb : Nat) (e : Ty) (Y : V) : Option (List C) :=
  match ty P t' with
  | .slice _ _ => (match Y with
    | .nilc => some []
    | Y => match elemsOf s Y with
      | some (eb', e', ys) => if eb' = eb ∧ e' = e then some ys else none
      | none => none)
  | .str => if e = .int .u8 ∧ eb = 1 ∧ Y.isStr then some (Y.toStr.map fun b => C.int b.toNat) else none
  | _ => none
theorem evSrc_ok {P : Program} {s : S} {A' : Key → Option O} (hA : leA s.A A') {t' : TypeId} {eb : Nat} {e : Ty} {Y : V} {ys : List C} {K : List C → Prop} (h : evSrc P s t' eb e Y = some ys) (hK : K ys) : srcK P (s.wA A') t' eb e Y K := by
  unfold evSrc at h
  unfold srcK
  generalize ty P t' = τ at h ⊢
  cases τ <;> (try (cases h; done))
  · simp only [Option.ite_none_right_eq_some, Option.some.injEq] at h
    obtain ⟨h1, rfl⟩ := h
    exact ⟨h1.1, h1.2.1, h1.2.2, hK⟩
  · cases Y <;> simp only at h ⊢ <;> first
      | (cases h; exact hK)
      | (split at h
         · rename_i e0
           simp only [Option.ite_none_right_eq_some, Option.some.injEq] at h
           obtain ⟨h1, rfl⟩ := h
           rw [elemsOf_wA hA e0]
           exact ⟨h1.1, h1.2, hK⟩
         · cases h)
/-- Does every part of a struct that is built fit? -/
def buildB (τ : Ty) : V → List (Nat × V) → Bool
  | _, [] => true
  | x, (i, v) :: rest => (τ.child i).isSome && decide ((asTy (τ.get i) v).ty = τ.get i) && (asTy (τ.get i) v).plain && !(x.at [i]).isAny && buildB τ (x.setAt [i] (asTy (τ.get i) v)) rest
theorem buildB_ok {τ : Ty} : ∀ {l : List (Nat × V)} {x : V}, buildB τ x l = true → buildOk τ x l
  | [], _, _ => trivial
  | (i, v) :: rest, x, h => by
    simp only [buildB, Bool.and_eq_true, decide_eq_true_eq, Bool.not_eq_true'] at h
    exact ⟨h.1.1.1.1, h.1.1.1.2, h.1.1.2, V.isAny_false h.1.2, buildB_ok h.2⟩
abbrev RI := V × List (Key × O) × List (Nat × Option Nat)
def evAppend (P : Program) (m : Nat) (dst : Nat) (s : S) (t t' : TypeId) (x y : V) : Option RI :=
  if zeroB P (elemT P t) = true then
  match ty P t with
  | .slice eb e => (match x with
    | .emp _ _ | .nilc => (match evSrc P s t' eb e y with
        | some ys => if m = 3 then (if ys.isEmpty = false then some (.sr (.l dst) [] 0 ys.length none eb e, [(.l dst, .box (.d (.arr ys.length e) (.agg ys)))], []) else none) else some (.sl eb e ys dst, [], [(dst, some ys.length)])
        | none => none)
    | _ => none)
  | _ => none
  else none
def evLenM (P : Program) (s : S) (T : TypeId) (k : Key) : Option V :=
  match mapT P T, s.obj k with
  | some _, some (.map _ _ es) => if es.length ≤ 9223372036854775807 then some (.d (.int .i64) (.int es.length)) else none
  | _, _ => none
def lookMB {α : Type} : List (C × α) → C → Option α
  | [], _ => none
  | (k, v) :: es, c => if C.beq c k = true then some v else lookMB es c
theorem lookMB_eq {α : Type} (c : C) : ∀ (es : List (C × α)), lookMB es c = lookM es c
  | [] => rfl
  | (k, v) :: es => by simp only [lookMB, lookM, C.eqb_dec, lookMB_eq c es]
def putMB {α : Type} : List (C × α) → C → α → List (C × α)
  | [], c, v => [(c, v)]
  | (k, u) :: es, c, v => if C.beq c k = true then (k, v) :: es else (k, u) :: putMB es c v
theorem putMB_eq {α : Type} (c : C) (v : α) : ∀ (es : List (C × α)), putMB es c v = putM es c v
  | [] => rfl
  | (k, u) :: es => by simp only [putMB, putM, C.eqb_dec, putMB_eq c v es]
def evI (X : Cx) (m : Nat) (dst : Nat) (o : Oper) (ρ : Operand → V) (s : S) : Option RI :=
  match o.op with
  | .load T x => (match ρ x with
      | .ptr k q τ => (match s.obj k with
          | some (.box y) => if (y.at q).isAny = false ∧ τ = ty X.P T ∧ τ.known = true then some (view (y.at q), [], []) else none
          | _ => none)
      | .cptr τ c => if τ = ty X.P T ∧ τ.known = true then some (.d τ c, [], []) else none
      | _ => none)
  | .alloc T => if zeroB X.P T = true then some (.ptr (.l dst) [] (ty X.P T), [(.l dst, .box (zeroX (ty X.P T)))], []) else none
  | .box _ x => if m ≠ 5 ∧ (ρ x).plain = true ∧ (ρ x).noSl = true then some (.ptr (.l dst) [] (ρ x).ty, [(.l dst, .box (ρ x))], []) else none
  | .buildSlice t len parts => (match ty X.P t with
      | .slice eb e => (match len with
        | 0 => if parts.toList.length = 0 then some (.emp eb e, [], []) else none
        | len + 1 => if zeroB X.P (elemT X.P t) = true ∧ e.size ≠ 0 ∧ (len + 1) * e.size ≤ 16777216 ∧ (len + 1) * eb ≤ 140737488355328 ∧ parts.toList.map (·.1) = List.range (len + 1) then
            (match closeVs (parts.toList.map fun x => ρ x.2) with
              | some cs => if m ≠ 4 ∧ (parts.toList.map (fun x => ρ x.2)).all (fun x => decide (x.ty = e) && x.plain) = true then some (.d (.slice eb e) (.slice cs), [], []) else none
              | none => none) else none)
      | _ => none)
  | .build T parts => if zeroB X.P T = true ∧ (ty X.P T).disj = true ∧ (ty X.P T).isAgg = true ∧ buildB (ty X.P T) (zeroX (ty X.P T)) (parts.toList.map fun p => (p.1, ρ p.2)) = true then
      some (buildV (ty X.P T) (zeroX (ty X.P T)) (parts.toList.map fun p => (p.1, ρ p.2)), [], []) else none
  | .makeSlice t l c => (match ty X.P t with
      | .slice eb e => if zeroB X.P (elemT X.P t) = true ∧ (ρ l).isAnyInt ∧ (ρ c).isAnyInt ∧ 0 ≤ (ρ l).toInt ∧ (ρ l).toInt ≤ (ρ c).toInt ∧ (ρ c).toInt ≤ 9223372036854775807 ∧ (ρ c).toInt.toNat * eb ≤ 140737488355328 ∧ e.size ≠ 0 then
          some (.sr (.l dst) [] 0 (ρ l).toInt.toNat (some (ρ c).toInt.toNat) eb e, [(.l dst, .box (.d (.arr (ρ l).toInt.toNat e) (.agg (List.replicate (ρ l).toInt.toNat (zeroC e)))))], []) else none
      | _ => none)
  | .makeMap T r => (match r, mapT X.P T with
      | none, some (kt, et) => some (.mp (.l dst), [(.l dst, .map (ty X.P kt) (ty X.P et) [])], [])
      | _, _ => none)
  | .lookup T x i ok => (match mapT X.P T, ρ x with
      | some (kt, et), .mp k => (match s.obj k with
          | some (.map kτ _ es) => if kτ = ty X.P kt ∧ eqOk X.P kt = true ∧ zeroB X.P et = true ∧ (ρ i).isData kτ then
              some (if ok then .tup [(lookMB es (ρ i).toC).getD (zeroX (ty X.P et)), .d .bool (.bool (lookMB es (ρ i).toC).isSome)] else (lookMB es (ρ i).toC).getD (zeroX (ty X.P et)), [], []) else none
          | _ => none)
      | _, _ => none)
  | .call c => (match c.callee with
      | .value _ => none
      | .builtin .append => (match c.args.toList, c.argTypes.toList with
          | [x, y], [t, t'] => evAppend X.P m dst s t t' (ρ x) (ρ y)
          | _, _ => none)
      | .builtin .len => (match c.args.toList, c.argTypes.toList with
          | [x], [T] => (match ρ x with
              | .mp k => (evLenM X.P s T k).map fun v => (v, [], [])
              | _ => (evPv X.P o.op ρ).map fun v => (v, [], []))
          | _, _ => (evPv X.P o.op ρ).map fun v => (v, [], []))
      | _ => (evPv X.P o.op ρ).map fun v => (v, [], []))
  | .convert src dst' x => (match strOf X.P s src dst' (ρ x) with
      | some ys => some (.d .str (.str (ys.map byteC)), [], [])
      | none => (evPv X.P o.op ρ).map fun v => (v, [], []))
  | _ => (evPv X.P o.op ρ).map fun v => (v, [], [])
theorem strOf_wA {P : Program} {s : S} {A' : Key → Option O} (hA : leA s.A A') {src dst : TypeId} {x : V} {ys : List C} (h : strOf P s src dst x = some ys) : strOf P (s.wA A') src dst x = some ys := by
  cases hel : elemsOf s x with
  | some r =>
    rw [← h]
    unfold strOf
    rw [hel, elemsOf_wA hA hel]
  | none =>
    unfold strOf at h ⊢
    rw [hel] at h
    split at h
    · split at h
      · rename_i h0
        rw [if_pos h0]
        split at h
        · exact h
        · cases h
      · cases h
    · cases h
theorem strOf_noConv {P : Program} {s : S} {src dst : TypeId} {x : V} {ys : List C} {K : V → Prop} (h : strOf P s src dst x = some ys) : ¬ pvConv P src dst x K := by
  unfold strOf at h
  split at h
  · rename_i ht hd
    unfold pvConv
    rw [ht, hd]
    exact id
  · cases h
theorem evAppend_ok {P : Program} {md : List (Nat × Nat)} {m dst : Nat} (hm : modeOf md dst = m) {s : S} {A' : Key → Option O} (hA : leA s.A A') {t t' : TypeId} {x y : V} {r : RI} {K : V → List (Key × O) → List (Nat × Option Nat) → Prop} :
    evAppend P m dst s t t' x y = some r → K r.1 r.2.1 r.2.2 → zeroB P (elemT P t) = true ∧ (match ty P t, x with
              | .slice eb e, .emp _ _ => srcK P (s.wA A') t' eb e y fun ys => if modeOf md dst = 3 then ys ≠ [] ∧ K (.sr (.l dst) [] 0 ys.length none eb e) [(.l dst, .box (.d (.arr ys.length e) (.agg ys)))] [] else K (.sl eb e ys dst) [] [(dst, some ys.length)]
              | .slice eb e, .nilc => srcK P (s.wA A') t' eb e y fun ys => if modeOf md dst = 3 then ys ≠ [] ∧ K (.sr (.l dst) [] 0 ys.length none eb e) [(.l dst, .box (.d (.arr ys.length e) (.agg ys)))] [] else K (.sl eb e ys dst) [] [(dst, some ys.length)]
              | _, _ => False) := by
  intro h hK
  unfold evAppend at h
  simp only [Option.ite_none_right_eq_some] at h
  obtain ⟨h0, h⟩ := h
  refine ⟨h0, ?_⟩
  generalize ty P t = τ at h ⊢
  cases τ <;> (try (cases h; done))
  cases x <;> (try (cases h; done)) <;> simp only at h ⊢ <;>
    (split at h
     · rename_i ys e0
       refine evSrc_ok hA e0 ?_
       split at h
       · rename_i hm3
         rw [if_pos (hm.trans hm3)]
         simp only [Option.ite_none_right_eq_some, Option.some.injEq] at h
         obtain ⟨h1, rfl⟩ := h
         exact ⟨by intro e1; subst e1; simp at h1, hK⟩
       · rename_i hm3
         rw [if_neg (by rw [hm]; exact hm3)]
         cases h; exact hK
     · cases h)
theorem evI_ok {X : Cx} {md : List (Nat × Nat)} {m dst : Nat} (hm : modeOf md dst = m) {o : Oper} {ρ : Operand → V} {s base : S} {A' : Key → Option O} (hA : leA s.A A') {r : RI} {K : V → List (Key × O) → List (Nat × Option Nat) → Prop} (h : evI X m dst o ρ s = some r) (hK : K r.1 r.2.1 r.2.2) :
    iop X md base dst o ρ (s.wA A') K := by
  unfold evI at h
  unfold iop
  generalize o.op = op at h ⊢
  split at h
  · split at h
    · rename_i e0
      simp only [e0]
      split at h
      · rename_i e1
        simp only [obj_wA hA e1]
        simp only [Option.ite_none_right_eq_some, Option.some.injEq] at h
        obtain ⟨h1, rfl⟩ := h
        exact ⟨V.isAny_false h1.1, h1.2.1, h1.2.2, hK⟩
      · cases h
    · rename_i e0
      simp only [e0]
      simp only [Option.ite_none_right_eq_some, Option.some.injEq] at h
      obtain ⟨h1, rfl⟩ := h
      exact ⟨h1.1, h1.2, hK⟩
    · cases h
  · simp only [Option.ite_none_right_eq_some, Option.some.injEq] at h
    obtain ⟨h1, rfl⟩ := h
    exact ⟨h1, hK⟩
  · simp only [Option.ite_none_right_eq_some, Option.some.injEq] at h
    obtain ⟨h1, rfl⟩ := h
    dsimp only
    rw [if_neg (by rw [hm]; exact h1.1)]
    exact ⟨h1.2.1, h1.2.2, hK⟩
  · rename_i t len parts
    dsimp only
    generalize ty X.P t = τ at h ⊢
    cases τ <;> (try (cases h; done))
    cases len with
    | zero =>
      simp only [Option.ite_none_right_eq_some, Option.some.injEq] at h
      obtain ⟨h1, rfl⟩ := h
      exact ⟨h1, hK⟩
    | succ len =>
      simp only [Option.ite_none_right_eq_some] at h
      obtain ⟨h1, h⟩ := h
      refine ⟨h1.1, h1.2.1, h1.2.2.1, h1.2.2.2.1, h1.2.2.2.2, ?_⟩
      split at h
      · rename_i e0
        rw [e0]
        simp only [Option.ite_none_right_eq_some, Option.some.injEq] at h
        obtain ⟨⟨h4, h2⟩, rfl⟩ := h
        refine ⟨fun x hx => ?_, ?_⟩
        · have := List.all_eq_true.1 h2 x hx
          simpa using this
        · rw [if_neg (by rw [hm]; exact h4)]
          exact hK
      · cases h
  · simp only [Option.ite_none_right_eq_some, Option.some.injEq] at h
    obtain ⟨h1, rfl⟩ := h
    exact ⟨h1.1, h1.2.1, h1.2.2.1, buildB_ok h1.2.2.2, hK⟩
  · rename_i t _ _
    dsimp only
    generalize ty X.P t = τ at h ⊢
    cases τ <;> (try (cases h; done))
    simp only [Option.ite_none_right_eq_some, Option.some.injEq] at h
    obtain ⟨h1, rfl⟩ := h
    exact ⟨h1.1, h1.2.1, h1.2.2.1, h1.2.2.2.1, h1.2.2.2.2.1, h1.2.2.2.2.2.1, h1.2.2.2.2.2.2.1, h1.2.2.2.2.2.2.2, hK⟩
  · split at h
    · rename_i e0
      simp only [e0]
      cases h; exact hK
    · cases h
  · split at h
    · rename_i e0 e1
      simp only [e0, e1]
      split at h
      · rename_i e2
        simp only [obj_wA hA e2]
        simp only [Option.ite_none_right_eq_some, Option.some.injEq] at h
        obtain ⟨h1, rfl⟩ := h
        refine ⟨h1.1, h1.2.1, h1.2.2.1, h1.2.2.2, ?_⟩
        simpa only [lookMB_eq, lookV] using hK
      · cases h
    · cases h
  · split at h
    · cases h
    · rename_i e0
      simp only [e0]
      split at h
      · rename_i e1 e2
        simp only [e1, e2]
        exact evAppend_ok hm hA h hK
      · cases h
    · rename_i e0
      simp only [e0]
      split at h
      · rename_i e1 e2
        simp only [e1, e2]
        split at h
        · rename_i e3
          simp only [e3]
          simp only [Option.map_eq_some_iff] at h
          obtain ⟨v, h1, rfl⟩ := h
          unfold evLenM at h1
          split at h1
          · rename_i e4 e5
            simp only [Option.ite_none_right_eq_some, Option.some.injEq] at h1
            obtain ⟨h2, rfl⟩ := h1
            simp only [e4, obj_wA hA e5]
            exact ⟨h2, hK⟩
          · cases h1
        · rename_i hx
          simp only [Option.map_eq_some_iff] at h
          obtain ⟨v, h1, rfl⟩ := h
          split
          · rename_i k hk
            exact (hx k hk).elim
          · exact evPv_ok h1 hK
      · rename_i hx
        simp only [Option.map_eq_some_iff] at h
        obtain ⟨v, h1, rfl⟩ := h
        split
        · rename_i a b hk hk2
          exact (hx _ _ hk hk2).elim
        · exact evPv_ok h1 hK
    · rename_i h1 h2 h3
      simp only [Option.map_eq_some_iff] at h
      obtain ⟨v, h4, rfl⟩ := h
      dsimp only
      split
      · rename_i e; exact (h1 _ e).elim
      · rename_i e; exact (h2 e).elim
      · rename_i e; exact (h3 e).elim
      · exact evPv_ok h4 hK
  · split at h
    · rename_i e0
      cases h
      simp only [strOf_wA hA e0]
      exact hK
    · simp only [Option.map_eq_some_iff] at h
      obtain ⟨v, h1, rfl⟩ := h
      have hp := evPv_ok (K := fun y => K y [] []) h1 hK
      dsimp only
      split
      · rename_i e1
        exact (strOf_noConv (K := fun y => K y [] []) e1 hp).elim
      · exact hp
  · simp only [Option.map_eq_some_iff] at h
    obtain ⟨v, h4, rfl⟩ := h
    split <;> first
      | exact evPv_ok h4 hK
      | (rename_i hx; exact (hx _ rfl).elim)
      | (rename_i hx _; exact (hx _ _ rfl).elim)
      | (rename_i hx _ _ _ _; exact (hx _ _ _ _ rfl).elim)
      | (rename_i hx _ _ _ _ _; exact (hx _ _ _ _ rfl).elim)
      | (exfalso; simp [evPv] at h4; done)
      | simp_all
end Go.E

namespace Go.E
open Go

theorem killT_wA (A' : Key → Option O) : ∀ (σ : List (Nat × List Nat)) (s : S), killT σ (s.wA A') = (killT σ s).wA A'
  | [], _ => rfl
  | (t, _) :: σ, s => by simp only [killT]; exact killT_wA A' σ (s.tok t none)
theorem putL_wA (A' : Key → Option O) (d : Nat) : ∀ (L : List (Key × O)) (s : S), putL d L (s.wA A') = (putL d L s).wA A'
  | [], _ => rfl
  | (k, o) :: L, s => by simp only [putL, putL_wA A' d L s]; rfl
theorem putT_wA (A' : Key → Option O) (d : Nat) : ∀ (L : List (Nat × Option Nat)) (s : S), putT d L (s.wA A') = (putT d L s).wA A'
  | [], _ => rfl
  | (k, o) :: L, s => by simp only [putT, putT_wA A' d L s]; rfl
theorem dieT_wA (A' : Key → Option O) : ∀ (L : List Nat) (s : S), dieT L (s.wA A') = (dieT L s).wA A'
  | [], _ => rfl
  | t :: L, s => by simp only [dieT, dieT_wA A' L s]; rfl
theorem argTk_wA (A' : Key → Option O) (tip : Bool) (s : S) (x : V) : argTk tip (s.wA A') x = argTk tip s x := rfl
theorem passed_wA (A' : Key → Option O) (tip : Bool) (s : S) : ∀ (ys : List V), passed tip (s.wA A') ys = passed tip s ys
  | [] => rfl
  | y :: ys => by simp only [passed, passed_wA A' tip s ys, argTk_wA]
theorem argsOf_wA (A' : Key → Option O) (P : Program) (tip : Bool) (s : S) : ∀ (Ts : List TypeId) (ys : List V), argsOf P tip (s.wA A') Ts ys = argsOf P tip s Ts ys
  | [], _ => rfl
  | _ :: _, [] => rfl
  | T :: Ts, y :: ys => by
    simp only [argsOf, argsOf_wA A' P tip s Ts ys]
    rfl
theorem ret_wA (A' : Key → Option O) (s : S) (tip : Bool) (ys : List V) (d : Nat) (v : V) (L : List (Key × O)) : (s.wA A').ret tip ys d v L = (s.ret tip ys d v L).wA A' := by
  simp only [S.ret, passed_wA, putL_wA, dieT_wA, putT_wA]
def gOkB (s : S) (d : Nat) : List (Key × O) → Bool
  | [] => true
  | (.g k, _) :: L => (s.obj k).isSome && gOkB s d L
  | (.l j, _) :: L => (s.obj (.l (rk d j))).isNone && gOkB s d L
theorem gOkB_ok {s : S} {A' : Key → Option O} (hA : leA s.A A') {d : Nat} : ∀ {L : List (Key × O)}, gOkB s d L = true → gOk (s.wA A') d L
  | [], _ => trivial
  | (.g k, _) :: L, h => by
    simp only [gOkB, Bool.and_eq_true] at h
    obtain ⟨o, ho⟩ := Option.isSome_iff_exists.1 h.1
    exact ⟨by rw [obj_wA hA ho]; rfl, gOkB_ok hA h.2⟩
  | (.l j, _) :: L, h => by
    simp only [gOkB, Bool.and_eq_true] at h
    exact ⟨by rw [obj_wA_l]; simpa using h.1, gOkB_ok hA h.2⟩
def tOkB (s : S) (d : Nat) : List (Nat × Option Nat) → Bool
  | [] => true
  | (m, _) :: l => !s.known (rk d m) && tOkB s d l
theorem tOkB_ok {s : S} {A' : Key → Option O} {d : Nat} : ∀ {L : List (Nat × Option Nat)}, tOkB s d L = true → tOk (s.wA A') d L
  | [], _ => trivial
  | (m, _) :: L, h => by
    simp only [tOkB, Bool.and_eq_true, Bool.not_eq_true'] at h
    exact ⟨h.1, tOkB_ok h.2⟩
def freshLB (s : S) : List (Key × O) → Bool
  | [] => true
  | (.l n, _) :: l => (s.obj (.l n)).isNone && freshLB s l
  | (.g _, _) :: _ => false
theorem freshLB_ok {s : S} {A' : Key → Option O} : ∀ {L : List (Key × O)}, freshLB s L = true → freshL (s.wA A') L
  | [], _ => trivial
  | (.l n, _) :: L, h => by
    simp only [freshLB, Bool.and_eq_true] at h
    exact ⟨by rw [obj_wA_l]; simpa using h.1, freshLB_ok h.2⟩
  | (.g _, _) :: _, h => by simp [freshLB] at h
def freshTB (s : S) : List (Nat × Option Nat) → Bool
  | [] => true
  | (t, _) :: l => !s.known t && freshTB s l
theorem freshTB_ok {s : S} {A' : Key → Option O} : ∀ {L : List (Nat × Option Nat)}, freshTB s L = true → freshT (s.wA A') L
  | [], _ => trivial
  | (t, _) :: L, h => by
    simp only [freshTB, Bool.and_eq_true, Bool.not_eq_true'] at h
    exact ⟨h.1, freshTB_ok h.2⟩

/-- Operations that write. -/
def evT (X : Cx) (m : Nat) (dst : Nat) (o : Oper) (ρ : Operand → V) (s : S) : Option (V × S) :=
  match o.op with
  | .store T p y => (match ρ p with
      | .ptr k q τ => (match s.obj k with
          | some (.box x) => if τ = ty X.P T ∧ τ.known = true ∧ (asTy τ (ρ y)).ty = τ ∧ (asTy τ (ρ y)).plain = true ∧ (x.at q).isAny = false ∧ x.ty.disj = true ∧ (asTy τ (ρ y)).okH = true then
              some (.any, killT ((asTy τ (ρ y)).sites s.live q) (s.put k (.box (x.setAt q ((asTy τ (ρ y)).homed ((asTy τ (ρ y)).sites s.live q) s.live q))))) else none
          | _ => none)
      | _ => none)
  | .box _ x => if (ρ x).plain = true ∧ (ρ x).okH = true ∧ (s.obj (.l dst)).isNone then
      some (.ptr (.l dst) [] (ρ x).ty, killT ((ρ x).sites s.live []) (s.put (.l dst) (.box ((ρ x).homed ((ρ x).sites s.live []) s.live [])))) else none
  | .load T x => (match ρ x with
      | .ptr k q τ => (match s.obj k with
          | some (.box y) => (match y.at q with
            | .ts eb e cs => if m = 1 ∧ τ = ty X.P T ∧ τ = .slice eb e ∧ y.ty.disj = true ∧ s.known dst = false then some (.sl eb e cs dst, (s.put k (.box (y.setAt q (.d (.slice eb e) (.slice cs))))).tok dst (some cs.length)) else none
            | _ => none)
          | _ => none)
      | _ => none)
  | .mapUpdate T x i y => (match mapT X.P T, ρ x with
      | some (kt, et), .mp k => (match s.obj k with
          | some (.map kτ vτ es) => if kτ = ty X.P kt ∧ vτ = ty X.P et ∧ eqOk X.P kt = true ∧ kτ.flat = true ∧ (ρ i).isData kτ ∧ (asTy vτ (ρ y).detok).ty = vτ ∧ (asTy vτ (ρ y).detok).plain = true ∧ (asTy vτ (ρ y).detok).noSl = true then
              some (.any, s.put k (.map kτ vτ (putMB es (ρ i).toC (asTy vτ (ρ y).detok)))) else none
          | _ => none)
      | _, _ => none)
  | .call c => (match c.callee with
      | .builtin .append => (match c.args.toList, c.argTypes.toList with
          | [x, y], [t, t'] => if zeroB X.P (elemT X.P t) = true then (match ty X.P t, ρ x with
              | .slice eb e, .sl eb' e' cs tk => if eb' = eb ∧ e' = e ∧ s.live tk = some cs.length then
                  (match evSrc X.P s t' eb e (ρ y) with
                  | some ys => if (cs.length + ys.length) * eb ≤ 140737488355328 ∧ cs.length + ys.length ≤ maxLen then some (.sl eb e (cs ++ ys) tk, s.tok tk (some (cs.length + ys.length))) else none
                  | none => none) else none
              | _, _ => none) else none
          | _, _ => none)
      | _ => none)
  | _ => none
theorem evT_ok {X : Cx} {md : List (Nat × Nat)} {m dst : Nat} (hm : modeOf md dst = m) {o : Oper} {ρ : Operand → V} {s s1 : S} {v : V} {A' : Key → Option O} (hA : leA s.A A') {K : V → S → Prop} (h : evT X m dst o ρ s = some (v, s1)) (hK : K v (s1.wA A')) :
    top X md dst o ρ (s.wA A') K := by
  unfold evT at h
  unfold top
  generalize o.op = op at h ⊢
  split at h
  · split at h
    · rename_i e0
      simp only [e0]
      split at h
      · rename_i e1
        simp only [obj_wA hA e1]
        simp only [Option.ite_none_right_eq_some, Option.some.injEq, Prod.mk.injEq] at h
        obtain ⟨h1, rfl, rfl⟩ := h
        rw [← killT_wA] at hK
        exact ⟨h1.1, h1.2.1, h1.2.2.1, h1.2.2.2.1, V.isAny_false h1.2.2.2.2.1, h1.2.2.2.2.2.1, h1.2.2.2.2.2.2, hK⟩
      · cases h
    · cases h
  · simp only [Option.ite_none_right_eq_some, Option.some.injEq, Prod.mk.injEq] at h
    obtain ⟨h1, rfl, rfl⟩ := h
    rw [← killT_wA] at hK
    exact ⟨h1.1, h1.2.1, by rw [obj_wA_l]; simpa using h1.2.2, hK⟩
  · split at h
    · rename_i e0
      simp only [e0]
      split at h
      · rename_i e1
        simp only [obj_wA hA e1]
        split at h
        · rename_i e2
          simp only [e2]
          simp only [Option.ite_none_right_eq_some, Option.some.injEq, Prod.mk.injEq] at h
          obtain ⟨h1, rfl, rfl⟩ := h
          exact ⟨hm.trans h1.1, h1.2.1, h1.2.2.1, h1.2.2.2.1, h1.2.2.2.2, hK⟩
        · cases h
      · cases h
    · cases h
  · split at h
    · rename_i e0 e1
      simp only [e0, e1]
      split at h
      · rename_i e2
        simp only [obj_wA hA e2]
        simp only [Option.ite_none_right_eq_some, Option.some.injEq, Prod.mk.injEq] at h
        obtain ⟨h1, rfl, rfl⟩ := h
        rw [putMB_eq] at hK
        exact ⟨h1.1, h1.2.1, h1.2.2.1, h1.2.2.2.1, h1.2.2.2.2.1, h1.2.2.2.2.2.1, h1.2.2.2.2.2.2.1, h1.2.2.2.2.2.2.2, hK⟩
      · cases h
    · cases h
  · split at h
    · rename_i e0
      simp only [e0]
      split at h
      · rename_i e1 e2
        simp only [e1, e2]
        simp only [Option.ite_none_right_eq_some] at h
        obtain ⟨h0, h⟩ := h
        refine ⟨h0, ?_⟩
        split at h
        · rename_i e3 e4
          simp only [e3, e4]
          simp only [Option.ite_none_right_eq_some] at h
          obtain ⟨h1, h⟩ := h
          refine ⟨h1.1, h1.2.1, h1.2.2, ?_⟩
          split at h
          · rename_i e5
            simp only [Option.ite_none_right_eq_some, Option.some.injEq, Prod.mk.injEq] at h
            obtain ⟨h2, rfl, rfl⟩ := h
            exact evSrc_ok hA e5 ⟨h2.1, h2.2, hK⟩
          · cases h
        · cases h
      · cases h
    · cases h
  · cases h

/-- How calls are told: by a function on abstract data. -/
abbrev Call1 := FuncId → List V → (Key → Option O) → Option (V × List (Key × O))
abbrev Ext1 := FuncId → List V → Option V
def CallOk (X : Cx) (call : Call1) : Prop := ∀ f xs A v L, call f xs A = some (v, L) → DCalls X f xs A v L
def ExtOk (X : Cx) (ext : Ext1) : Prop := ∀ f xs v, ext f xs = some v → EDoes X f xs v
/-- A call that writes nothing of the caller's. -/
def evCall1 (X : Cx) (call : Call1) (ext : Ext1) (dst : Nat) (o : Oper) (ρ : Operand → V) (s : S) : Option RI :=
  match o.op with
  | .call c => (match c.callee with
    | .value fo => (match ρ fo with
      | .fn f caps => (match ext f (c.args.toList.map ρ) with
        | some v => if caps.isEmpty = true then some (v, [], []) else none
        | none => if callable X.P f = true ∧ c.argTypes.toList.length = c.args.toList.length then
            (match call f (argsOf X.P false s (callTs c.argTypes.toList caps) (callArgs (c.args.toList.map ρ) caps)) s.up with
            | some (v, L) => if onlyL L = true then some ((v.slotR 2000).ren (dn dst) (rk dst), dnL dst L, dnT dst (v.tkR 2000)) else none
            | none => none) else none)
      | _ => none)
    | _ => none)
  | _ => none
theorem evCall1_ok {X : Cx} {call : Call1} {ext : Ext1} (hc : CallOk X call) (he : ExtOk X ext) {md : List (Nat × Nat)} {dst : Nat} {o : Oper} {ρ : Operand → V} {s : S} {A' : Key → Option O} (hA : leA s.A A') {r : RI} {K : V → List (Key × O) → List (Nat × Option Nat) → Prop} (h : evCall1 X call ext dst o ρ s = some r) (hK : K r.1 r.2.1 r.2.2) :
    iop X md (s.wA A') dst o ρ (s.wA A') K := by
  unfold evCall1 at h
  unfold iop
  generalize o.op = op at h ⊢
  split at h
  · dsimp only
    split at h
    · rename_i e0
      simp only [e0]
      split at h
      · rename_i e1
        simp only [e1]
        split at h
        · rename_i e2
          simp only [Option.ite_none_right_eq_some, Option.some.injEq] at h
          obtain ⟨h1, rfl⟩ := h
          exact .inr ⟨by simpa using h1, _, he _ _ _ e2, hK⟩
        · simp only [Option.ite_none_right_eq_some] at h
          obtain ⟨h1, h⟩ := h
          split at h
          · rename_i v L e3
            simp only [Option.ite_none_right_eq_some, Option.some.injEq] at h
            obtain ⟨h2, rfl⟩ := h
            refine .inl ⟨h1.1, h1.2, v, L, ?_, h2, hK⟩
            rw [argsOf_wA]
            exact (hc _ _ _ _ _ e3).mono (up_wA hA)
          · cases h
      · cases h
    · cases h
  · cases h
/-- A call that may write. -/
def evCall2 (X : Cx) (call : Call1) (tip : Bool) (dst : Nat) (o : Oper) (ρ : Operand → V) (s : S) : Option (V × S) :=
  match o.op with
  | .call c => (match c.callee with
    | .value fo => (match ρ fo with
      | .fn f caps => if callable X.P f = true ∧ c.argTypes.toList.length = c.args.toList.length ∧ nodupN (passed tip s (callArgs (c.args.toList.map ρ) caps)) = true then
            (match call f (argsOf X.P tip s (callTs c.argTypes.toList caps) (callArgs (c.args.toList.map ρ) caps)) s.up with
            | some (v, L) => if gOkB s dst L = true ∧ tOkB s dst (v.tkR 2000) = true then some ((v.slotR 2000).ren (dn dst) (rk dst), s.ret tip (callArgs (c.args.toList.map ρ) caps) dst v L) else none
            | none => none) else none
      | _ => none)
    | _ => none)
  | _ => none
theorem evCall2_ok {X : Cx} {call : Call1} (hc : CallOk X call) {md : List (Nat × Nat)} {dst : Nat} {o : Oper} {ρ : Operand → V} {s s1 : S} {v : V} {A' : Key → Option O} (hA : leA s.A A') {K : V → S → Prop} (h : evCall2 X call (modeOf md dst == 1) dst o ρ s = some (v, s1)) (hK : K v (s1.wA A')) :
    top X md dst o ρ (s.wA A') K := by
  unfold evCall2 at h
  unfold top
  generalize o.op = op at h ⊢
  split at h
  · dsimp only
    split at h
    · rename_i e0
      simp only [e0]
      split at h
      · rename_i e1
        simp only [e1]
        simp only [Option.ite_none_right_eq_some] at h
        obtain ⟨h1, h⟩ := h
        split at h
        · rename_i v L e3
          simp only [Option.ite_none_right_eq_some, Option.some.injEq, Prod.mk.injEq] at h
          obtain ⟨h2, rfl, rfl⟩ := h
          refine ⟨h1.1, h1.2.1, by rw [passed_wA]; exact h1.2.2, v, L, ?_, gOkB_ok hA h2.1, tOkB_ok h2.2, by rw [ret_wA]; exact hK⟩
          rw [argsOf_wA]
          exact (hc _ _ _ _ _ e3).mono (up_wA hA)
        · cases h
      · cases h
    · cases h
  · cases h
end Go.E

namespace Go.E
open Go

/-- A call of a function that has no code. -/
def evExt (ext : Ext1) (o : Oper) (ρ : Operand → V) : Option V :=
  match o.op with
  | .call c => (match c.callee with
    | .value fo => (match ρ fo with
      | .fn f [] => ext f (c.args.toList.map ρ)
      | _ => none)
    | _ => none)
  | _ => none
theorem evExt_ok {X : Cx} {ext : Ext1} (he : ExtOk X ext) {md : List (Nat × Nat)} {dst : Nat} {o : Oper} {ρ : Operand → V} {s base : S} {v : V} {K : V → List (Key × O) → List (Nat × Option Nat) → Prop} (h : evExt ext o ρ = some v) (hK : K v [] []) :
    iop X md base dst o ρ s K := by
  unfold evExt at h
  unfold iop
  generalize o.op = op at h ⊢
  split at h
  · dsimp only
    split at h
    · rename_i e0
      simp only [e0]
      split at h
      · rename_i e1
        simp only [e1]
        exact .inr ⟨by first | rfl | trivial, _, he _ _ _ h, hK⟩
      · cases h
    · cases h
  · cases h
/-- What a call gives. -/
def evCallR (X : Cx) (call : Call1) (o : Oper) (ρ : Operand → V) (s : S) : Option (V × List (Key × O)) :=
  match o.op with
  | .call c => (match c.callee with
    | .value fo => (match ρ fo with
      | .fn f caps => if callable X.P f = true ∧ c.argTypes.toList.length = c.args.toList.length then
            call f (argsOf X.P false s (callTs c.argTypes.toList caps) (callArgs (c.args.toList.map ρ) caps)) s.up else none
      | _ => none)
    | _ => none)
  | _ => none
def callYs (o : Oper) (ρ : Operand → V) : List V :=
  match o.op with
  | .call c => (match c.callee with
    | .value fo => (match ρ fo with
      | .fn _ caps => callArgs (c.args.toList.map ρ) caps
      | _ => [])
    | _ => [])
  | _ => []
theorem evCallR_ok1 {X : Cx} {call : Call1} (hc : CallOk X call) {md : List (Nat × Nat)} {dst : Nat} {o : Oper} {ρ : Operand → V} {base s : S} {A' : Key → Option O} (hA : leA base.A A') {v : V} {L : List (Key × O)} {K : V → List (Key × O) → List (Nat × Option Nat) → Prop} (h : evCallR X call o ρ base = some (v, L)) (hl : onlyL L = true) (hK : K ((v.slotR 2000).ren (dn dst) (rk dst)) (dnL dst L) (dnT dst (v.tkR 2000))) :
    iop X md (base.wA A') dst o ρ (s.wA A') K := by
  unfold evCallR at h
  unfold iop
  generalize o.op = op at h ⊢
  split at h
  · dsimp only
    split at h
    · rename_i e0
      simp only [e0]
      split at h
      · rename_i e1
        simp only [e1]
        simp only [Option.ite_none_right_eq_some] at h
        obtain ⟨h1, h⟩ := h
        refine .inl ⟨h1.1, h1.2, v, L, ?_, hl, hK⟩
        rw [argsOf_false (s.wA A') base]
        exact (hc _ _ _ _ _ h).mono (up_wA hA)
      · cases h
    · cases h
  · cases h
theorem evCallR_ok2 {X : Cx} {call : Call1} (hc : CallOk X call) {md : List (Nat × Nat)} {dst : Nat} (hm : modeOf md dst = 0) {o : Oper} {ρ : Operand → V} {s base : S} (hb : ∀ k o, base.obj k = some o → s.obj k = some o) {A' : Key → Option O} (hA : leA s.A A') {v : V} {L : List (Key × O)} {K : V → S → Prop} (h : evCallR X call o ρ base = some (v, L)) (hg : gOkB s dst L = true) (ht : tOkB s dst (v.tkR 2000) = true)
    (hK : K ((v.slotR 2000).ren (dn dst) (rk dst)) ((s.ret false (callYs o ρ) dst v L).wA A')) : top X md dst o ρ (s.wA A') K := by
  unfold evCallR at h
  unfold callYs at hK
  unfold top
  generalize o.op = op at h hK ⊢
  have hm1 : (modeOf md dst == 1) = false := by rw [hm]; rfl
  split at h
  · dsimp only at hK ⊢
    split at h
    · rename_i e0
      simp only [e0] at hK ⊢
      split at h
      · rename_i e1
        simp only [e1] at hK ⊢
        simp only [Option.ite_none_right_eq_some] at h
        obtain ⟨h1, h⟩ := h
        rw [hm1]
        refine ⟨h1.1, h1.2, by rw [passed_false]; rfl, v, L, ?_, gOkB_ok hA hg, tOkB_ok ht, by rw [ret_wA]; exact hK⟩
        rw [argsOf_false (s.wA A') base]
        refine (hc _ _ _ _ _ h).mono fun k x hk => up_wA hA k x ?_
        simp only [S.up, Option.map_eq_some_iff] at hk ⊢
        obtain ⟨y, h2, h3⟩ := hk
        exact ⟨y, hb _ _ h2, h3⟩
      · cases h
    · cases h
  · cases h

/-- Loads of slices to which something is appended in the same region. -/
def appTargets : List Oper → List Nat
  | [] => []
  | o :: l => (match o.op with
    | .call c => (match c.callee, c.args.toList with
      | .builtin .append, (.tmp t) :: _ => [t]
      | _, _ => [])
    | _ => []) ++ appTargets l
def memB : Nat → List Nat → Bool
  | _, [] => false
  | i, j :: l => Nat.beq i j || memB i l
def modeFor (cand : List Nat) (tbl : List (Nat × Nat)) (o : Oper) (ρ : Operand → V) (s : S) : Nat :=
  match look tbl (dstN o) with
  | some m => m
  | none => (match o.op with
    | .load _ x => if memB (dstN o) cand = true then (match ρ x with
        | .ptr k q _ => (match s.obj k with
          | some (.box y) => (match y.at q with
            | .ts _ _ _ => 1
            | _ => 0)
          | _ => 0)
        | _ => 0) else 0
    | _ => 0)
def isCallV (o : Oper) : Bool :=
  match o.op with
  | .call c => (match c.callee with | .value _ => true | _ => false)
  | _ => false
/-- One operation, in a sequence: its mode, its value, the state. -/
def evStep (X : Cx) (call : Call1) (ext : Ext1) (m : Nat) (o : Oper) (s : S) : Option (V × S) :=
  if isCallV o = true then
    (match evExt ext o (evalA X.gl s) with
    | some v => if m = 0 then some (v, s) else none
    | none => if m = 0 then (match evCallR X call o (evalA X.gl s) s with
        | some (v, L) => if gOkB s (dstN o) L = true ∧ tOkB s (dstN o) (v.tkR 2000) = true then some ((v.slotR 2000).ren (dn (dstN o)) (rk (dstN o)), s.ret false (callYs o (evalA X.gl s)) (dstN o) v L) else none
        | none => none) else evCall2 X call (m == 1) (dstN o) o (evalA X.gl s) s)
  else if m = 1 then evT X m (dstN o) o (evalA X.gl s) s
  else match evI X m (dstN o) o (evalA X.gl s) s with
    | some r => if freshLB s r.2.1 = true ∧ freshTB s r.2.2 = true then some (r.1, s.add r.2.1 r.2.2) else none
    | none => evT X m (dstN o) o (evalA X.gl s) s
section
variable {X : Cx} {call : Call1} {ext : Ext1} (hc : CallOk X call) (he : ExtOk X ext)
include hc he
theorem evStep_ok {md : List (Nat × Nat)} {m : Nat} {o : Oper} (hm : modeOf md (dstN o) = m) {s s1 : S} {v : V} {A' : Key → Option O} (hA : leA s.A A') {K : V → S → Prop} (h : evStep X call ext m o s = some (v, s1)) (hK : K v (s1.wA A')) : sop X md (dstN o) o (s.wA A') K := by
  unfold evStep at h
  unfold sop
  rw [evalA_wA]
  split at h
  · split at h
    · rename_i e0
      simp only [Option.ite_none_right_eq_some, Option.some.injEq, Prod.mk.injEq] at h
      obtain ⟨h1, rfl, rfl⟩ := h
      exact .inl ⟨by rw [hm, h1]; decide, evExt_ok he e0 ⟨trivial, trivial, hK⟩⟩
    · split at h
      · rename_i hm0
        split at h
        · rename_i e0
          simp only [Option.ite_none_right_eq_some, Option.some.injEq, Prod.mk.injEq] at h
          obtain ⟨h1, rfl, rfl⟩ := h
          exact .inr (evCallR_ok2 hc (hm.trans hm0) (fun _ _ h => h) hA e0 h1.1 h1.2 hK)
        · cases h
      · subst hm
        exact .inr (evCall2_ok hc hA h hK)
  · split at h
    · exact .inr (evT_ok hm hA h hK)
    · rename_i hm1
      split at h
      · rename_i e0
        simp only [Option.ite_none_right_eq_some, Option.some.injEq, Prod.mk.injEq] at h
        obtain ⟨h1, rfl, rfl⟩ := h
        exact .inl ⟨by rw [hm]; exact hm1, evI_ok hm hA e0 ⟨freshLB_ok h1.1, freshTB_ok h1.2, hK⟩⟩
      · exact .inr (evT_ok hm hA h hK)
end
theorem gv_wA (ops : Array Oper) (s : S) (A' : Key → Option O) (j : Nat) : gv ops (s.wA A') j = gv ops s j := by
  unfold gv; split <;> rfl
/-- What a guard lets do. -/
def gdo (x : V) (want : Bool) : Option Bool :=
  match x with
  | .d .bool (.bool b) => some (b == want)
  | .tup [] => some false
  | _ => none
theorem gdo_gx {x : V} {want r : Bool} {p q : Prop} (h : gdo x want = some r) (hp : r = true → p) (hq : r = false → q) : gx x want p q := by
  unfold gdo at h
  unfold gx
  split at h
  · cases h
    refine ⟨fun e => hp (by simpa [C.toBool] using e), fun e => hq (by simpa [C.toBool] using e)⟩
  · cases h; exact hq rfl
  · cases h
/-- A sequence of operations: the modes that were taken, the state behind them. -/
def evOps (X : Cx) (call : Call1) (ext : Ext1) (ops : Array Oper) (cand : List Nat) (tbl : List (Nat × Nat)) : List Oper → S → Option (List (Nat × Nat) × S)
  | [], s => some ([], s)
  | o :: rest, s =>
    match (match o.guard with | none => some true | some (j, want) => gdo (gv ops s j) want) with
    | some true => (match evStep X call ext (modeFor cand tbl o (evalA X.gl s) s) o s with
      | some (v, s1) => (match evOps X call ext ops cand tbl rest ((s1.wA s.A).set o.dst v) with
        | some (ml, s2) => some ((dstN o, modeFor cand tbl o (evalA X.gl s) s) :: ml, s2)
        | none => none)
      | none => none)
    | some false => evOps X call ext ops cand tbl rest (s.set o.dst (.tup []))
    | none => none
theorem set_wA (s : S) (A' : Key → Option O) (d : Option Nat) (v : V) : (s.wA A').set d v = (s.set d v).wA A' := by cases d <;> rfl
theorem set_A (s : S) (d : Option Nat) (v : V) : (s.set d v).A = s.A := by cases d <;> rfl
section
variable {X : Cx} {call : Call1} {ext : Ext1} (hc : CallOk X call) (he : ExtOk X ext)
include hc he
theorem evOps_ok {ops : Array Oper} {cand : List Nat} {tbl md : List (Nat × Nat)} {A' : Key → Option O} {Φ : S → Prop} : ∀ (l : List Oper) (s : S) {ml : List (Nat × Nat)} {s2 : S}, leA s.A A' → evOps X call ext ops cand tbl l s = some (ml, s2) →
    (∀ p ∈ ml, modeOf md p.1 = p.2) → Φ (s2.wA A') → vc X md ops Φ l (s.wA A')
  | [], s, ml, s2, hA, h, hm, hΦ => by cases h; exact hΦ
  | o :: rest, s, ml, s2, hA, h, hm, hΦ => by
    simp only [evOps] at h
    have doit : ∀ {ml s2}, (match evStep X call ext (modeFor cand tbl o (evalA X.gl s) s) o s with
      | some (v, s1) => (match evOps X call ext ops cand tbl rest ((s1.wA s.A).set o.dst v) with
        | some (ml, s2) => some ((dstN o, modeFor cand tbl o (evalA X.gl s) s) :: ml, s2)
        | none => none)
      | none => none) = some (ml, s2) → (∀ p ∈ ml, modeOf md p.1 = p.2) → Φ (s2.wA A') → sop X md (dstN o) o (s.wA A') fun v s' => vc X md ops Φ rest (s'.set o.dst v) := by
      intro ml s2 h hm hΦ
      split at h
      · rename_i v s1 e0
        split at h
        · rename_i ml' s2' e1
          simp only [Option.some.injEq, Prod.mk.injEq] at h
          obtain ⟨rfl, rfl⟩ := h
          refine evStep_ok hc he (hm (dstN o, _) (List.mem_cons_self ..)) hA e0 ?_
          rw [set_wA]
          have := evOps_ok (md := md) (Φ := Φ) rest _ (by rw [set_A]; exact hA) e1 (fun p hp => hm p (by simp [hp])) hΦ
          rw [← set_wA] at this ⊢
          exact this
        · cases h
      · cases h
    have skip : ∀ {ml s2}, evOps X call ext ops cand tbl rest (s.set o.dst (.tup [])) = some (ml, s2) → (∀ p ∈ ml, modeOf md p.1 = p.2) → Φ (s2.wA A') → vc X md ops Φ rest ((s.wA A').set o.dst (.tup [])) := by
      intro ml s2 h hm hΦ
      rw [set_wA]
      exact evOps_ok rest _ (by rw [set_A]; exact hA) h hm hΦ
    simp only [vc]
    cases hg : o.guard with
    | none =>
      rw [hg] at h
      exact doit h hm hΦ
    | some jw =>
      obtain ⟨j, want⟩ := jw
      rw [hg] at h
      dsimp only at h ⊢
      rw [gv_wA]
      split at h
      · rename_i e0
        exact gdo_gx e0 (fun _ => doit h hm hΦ) (fun e => by cases e)
      · rename_i e0
        exact gdo_gx e0 (fun e => by cases e) (fun _ => skip h hm hΦ)
      · cases h
end
end Go.E

namespace Go.E
open Go

theorem s00_wA : s00.wA s00.A = s00 := rfl
def nilQ2 {α β : Type} (l : List α) (l' : List β) : Bool := l.isEmpty && l'.isEmpty
/-- One operation, in any order: its mode, its kind, its value, what it made, or the state behind it. -/
inductive RD where
  | k0 (v : V) | k1 (v : V) (lo : List (Key × O)) (tn : List (Nat × Option Nat)) | k2 (v : V) (s : S)
def RD.kind : RD → Nat
  | .k0 _ => 0
  | .k1 _ _ _ => 1
  | .k2 _ _ => 2
def RD.post (s : S) (A' : Key → Option O) (K0 : V → Prop) (K1 : V → List (Key × O) → List (Nat × Option Nat) → Prop) (K2 : V → S → Prop) : RD → Prop
  | .k0 v => K0 v
  | .k1 v lo tn => freshL (s.wA A') lo → freshT (s.wA A') tn → freshLB s lo = true → K1 v lo tn
  | .k2 v s1 => K2 v (s1.wA A')
def evI0 (X : Cx) (m : Nat) (dst : Nat) (o : Oper) (ρ : Operand → V) : Option V :=
  match evI X m dst o ρ s00 with
  | some r => if nilQ2 r.2.1 r.2.2 = true then some r.1 else none
  | none => none
def evK (X : Cx) (call : Call1) (ext : Ext1) (m : Nat) (o : Oper) (base s : S) : Option RD :=
  if isCallV o = true then
    (match evExt ext o (evalA X.gl s) with
    | some v => some (.k0 v)
    | none => if m = 0 then (match evCallR X call o (evalA X.gl s) base with
        | some (v, L) => if onlyL L = true then (if freshLB s (dnL (dstN o) L) = true ∧ freshTB s (dnT (dstN o) (v.tkR 2000)) = true then some (.k1 ((v.slotR 2000).ren (dn (dstN o)) (rk (dstN o))) (dnL (dstN o) L) (dnT (dstN o) (v.tkR 2000))) else none)
            else if gOkB s (dstN o) L = true ∧ tOkB s (dstN o) (v.tkR 2000) = true then some (.k2 ((v.slotR 2000).ren (dn (dstN o)) (rk (dstN o))) (s.ret false (callYs o (evalA X.gl s)) (dstN o) v L)) else none
        | none => (evCall2 X call (m == 1) (dstN o) o (evalA X.gl s) s).map fun r => .k2 r.1 r.2) else (evCall2 X call (m == 1) (dstN o) o (evalA X.gl s) s).map fun r => .k2 r.1 r.2)
  else if m = 1 then (evT X m (dstN o) o (evalA X.gl s) s).map fun r => .k2 r.1 r.2
  else match evI0 X m (dstN o) o (evalA X.gl s) with
    | some v => some (.k0 v)
    | none => (match evI X m (dstN o) o (evalA X.gl s) s with
      | some r => if freshLB s r.2.1 = true ∧ freshTB s r.2.2 = true then some (.k1 r.1 r.2.1 r.2.2) else none
      | none => (evT X m (dstN o) o (evalA X.gl s) s).map fun r => .k2 r.1 r.2)
/-- The kinds of a region, the modes, the state behind it. -/
def evVd (X : Cx) (call : Call1) (ext : Ext1) (ops : Array Oper) (cand : List Nat) (tbl : List (Nat × Nat)) : List Oper → S → S → Option (List (Nat × Nat) × List Nat × S)
  | [], _, s => some ([], [], s)
  | o :: rest, base, s =>
    match (match o.guard with | none => some true | some (j, want) => gdo (gv ops s j) want) with
    | some true => (match evK X call ext (modeFor cand tbl o (evalA X.gl s) s) o base s with
      | some (.k0 v) => (match evVd X call ext ops cand tbl rest base (s.set o.dst v) with
        | some (ml, ts, s2) => some ((dstN o, modeFor cand tbl o (evalA X.gl s) s) :: ml, 0 :: ts, s2)
        | none => none)
      | some (.k1 v lo tn) => (match evVd X call ext ops cand tbl rest base ((s.add lo tn).set o.dst v) with
        | some (ml, ts, s2) => some ((dstN o, modeFor cand tbl o (evalA X.gl s) s) :: ml, 1 :: ts, s2)
        | none => none)
      | some (.k2 v s1) => (match evVd X call ext ops cand tbl rest ((s1.wA s.A).set o.dst v) ((s1.wA s.A).set o.dst v) with
        | some (ml, ts, s2) => some ((dstN o, modeFor cand tbl o (evalA X.gl s) s) :: ml, 2 :: ts, s2)
        | none => none)
      | none => none)
    | some false => (match evVd X call ext ops cand tbl rest base (s.set o.dst (.tup [])) with
        | some (ml, ts, s2) => some (ml, 0 :: ts, s2)
        | none => none)
    | none => none
theorem obj_set (s : S) (d : Option Nat) (v : V) (k : Key) : (s.set d v).obj k = s.obj k := by cases d <;> rfl
theorem obj_add_fresh {s : S} {lo : List (Key × O)} {tn : List (Nat × Option Nat)} (h : freshLB s lo = true) {k : Key} {o : O} (hk : s.obj k = some o) : (s.add lo tn).obj k = some o := by
  have key : ∀ {lo : List (Key × O)}, freshLB s lo = true → lookK lo k = none := by
    intro lo
    induction lo with
    | nil => intro _; rfl
    | cons x lo ih =>
      obtain ⟨j, y⟩ := x
      cases j with
      | g j => intro h; simp [freshLB] at h
      | l n =>
        intro h
        simp only [freshLB, Bool.and_eq_true] at h
        simp only [lookK]
        rw [if_neg, ih h.2]
        intro e
        rw [e, hk] at h
        simp at h
  have e := key h
  simp only [S.obj, objOf, S.add] at hk ⊢
  rw [lookK_append, e]
  exact hk
section
variable {X : Cx} {call : Call1} {ext : Ext1} (hc : CallOk X call) (he : ExtOk X ext)
include hc he
theorem evK_ok {md : List (Nat × Nat)} {m : Nat} {o : Oper} (hm : modeOf md (dstN o) = m) {base s : S} (hb : ∀ k o, base.obj k = some o → s.obj k = some o) {A' : Key → Option O} (hA : leA s.A A') (hAb : base.A = s.A) {r : RD} (h : evK X call ext m o base s = some r)
    {K0 : V → Prop} {K1 : V → List (Key × O) → List (Nat × Option Nat) → Prop} {K2 : V → S → Prop}
    (hK : RD.post s A' K0 K1 K2 r) :
    kop X md (some r.kind) (base.wA A') (s.wA A') o K0 K1 K2 := by
  have hAb' : leA base.A A' := by rw [hAb]; exact hA
  have two : ∀ {m' : Nat} {r : RD}, modeOf md (dstN o) = m' → (evCall2 X call (m' == 1) (dstN o) o (evalA X.gl s) s).map (fun r => RD.k2 r.1 r.2) = some r → RD.post s A' K0 K1 K2 r → kop X md (some r.kind) (base.wA A') (s.wA A') o K0 K1 K2 := by
    intro m' r hm h hK
    simp only [Option.map_eq_some_iff] at h
    obtain ⟨⟨v, s1⟩, h1, rfl⟩ := h
    simp only [kop, RD.kind]
    rw [evalA_wA]
    subst hm
    exact evCall2_ok hc hA h1 hK
  have three : ∀ {r : RD}, (evT X m (dstN o) o (evalA X.gl s) s).map (fun r => RD.k2 r.1 r.2) = some r → RD.post s A' K0 K1 K2 r → kop X md (some r.kind) (base.wA A') (s.wA A') o K0 K1 K2 := by
    intro r h hK
    simp only [Option.map_eq_some_iff] at h
    obtain ⟨⟨v, s1⟩, h1, rfl⟩ := h
    simp only [kop, RD.kind]
    rw [evalA_wA]
    exact evT_ok hm hA h1 hK
  unfold evK at h
  split at h
  · split at h
    · rename_i e0
      cases h
      simp only [kop, RD.kind]
      rw [evalA_wA]
      exact evExt_ok he e0 ⟨rfl, rfl, hK⟩
    · split at h
      · rename_i hm0
        split at h
        · rename_i v L e0
          split at h
          · rename_i hl
            simp only [Option.ite_none_right_eq_some, Option.some.injEq] at h
            obtain ⟨h1, rfl⟩ := h
            simp only [kop, RD.kind]
            rw [evalA_wA]
            exact evCallR_ok1 hc hAb' e0 hl (hK (freshLB_ok h1.1) (freshTB_ok h1.2) h1.1)
          · simp only [Option.ite_none_right_eq_some, Option.some.injEq] at h
            obtain ⟨h1, rfl⟩ := h
            simp only [kop, RD.kind]
            rw [evalA_wA]
            exact evCallR_ok2 hc (hm.trans hm0) hb hA e0 h1.1 h1.2 hK
        · exact two hm h hK
      · exact two hm h hK
  · split at h
    · exact three h hK
    · split at h
      · rename_i e0
        cases h
        unfold evI0 at e0
        split at e0
        · rename_i e1
          simp only [Option.ite_none_right_eq_some, Option.some.injEq] at e0
          obtain ⟨e2, rfl⟩ := e0
          simp only [kop, RD.kind]
          rw [evalA_wA]
          simp only [nilQ2, Bool.and_eq_true, List.isEmpty_iff] at e2
          exact evI_ok (s := s00) (A' := s00.A) hm (fun _ _ h => h) e1 ⟨e2.1, e2.2, hK⟩
        · cases e0
      · split at h
        · rename_i e0
          simp only [Option.ite_none_right_eq_some, Option.some.injEq] at h
          obtain ⟨h1, rfl⟩ := h
          simp only [kop, RD.kind]
          rw [evalA_wA]
          exact evI_ok hm hA e0 (hK (freshLB_ok h1.1) (freshTB_ok h1.2) h1.1)
        · exact three h hK
theorem evVd_ok {ops : Array Oper} {cand : List Nat} {tbl md : List (Nat × Nat)} {A' : Key → Option O} {Φ : S → Prop} : ∀ (l : List Oper) (base s : S) {ml : List (Nat × Nat)} {ts : List Nat} {s2 : S}, leA s.A A' → base.A = s.A → (∀ k o, base.obj k = some o → s.obj k = some o) → evVd X call ext ops cand tbl l base s = some (ml, ts, s2) →
    (∀ p ∈ ml, modeOf md p.1 = p.2) → Φ (s2.wA A') → vd X md ops Φ l ts (base.wA A') (s.wA A')
  | [], base, s, ml, ts, s2, hA, hAb, hb, h, hm, hΦ => by cases h; exact hΦ
  | o :: rest, base, s, ml, ts, s2, hA, hAb, hb, h, hm, hΦ => by
    simp only [evVd] at h
    have doit : ∀ {ml ts s2}, (match evK X call ext (modeFor cand tbl o (evalA X.gl s) s) o base s with
      | some (.k0 v) => (match evVd X call ext ops cand tbl rest base (s.set o.dst v) with
        | some (ml, ts, s2) => some ((dstN o, modeFor cand tbl o (evalA X.gl s) s) :: ml, 0 :: ts, s2)
        | none => none)
      | some (.k1 v lo tn) => (match evVd X call ext ops cand tbl rest base ((s.add lo tn).set o.dst v) with
        | some (ml, ts, s2) => some ((dstN o, modeFor cand tbl o (evalA X.gl s) s) :: ml, 1 :: ts, s2)
        | none => none)
      | some (.k2 v s1) => (match evVd X call ext ops cand tbl rest ((s1.wA s.A).set o.dst v) ((s1.wA s.A).set o.dst v) with
        | some (ml, ts, s2) => some ((dstN o, modeFor cand tbl o (evalA X.gl s) s) :: ml, 2 :: ts, s2)
        | none => none)
      | none => none) = some (ml, ts, s2) → (∀ p ∈ ml, modeOf md p.1 = p.2) → Φ (s2.wA A') → kop X md ts.head? (base.wA A') (s.wA A') o (fun v => vd X md ops Φ rest ts.tail (base.wA A') ((s.wA A').set o.dst v))
        (fun v lo tn => freshL (s.wA A') lo ∧ freshT (s.wA A') tn ∧ vd X md ops Φ rest ts.tail (base.wA A') (((s.wA A').add lo tn).set o.dst v))
        (fun v s' => vd X md ops Φ rest ts.tail (s'.set o.dst v) (s'.set o.dst v)) := by
      intro ml ts s2 h hm hΦ
      split at h
      · rename_i v e0
        split at h
        · rename_i ml' ts' s2' e1
          simp only [Option.some.injEq, Prod.mk.injEq] at h
          obtain ⟨rfl, rfl, rfl⟩ := h
          refine evK_ok hc he (hm (dstN o, _) (List.mem_cons_self ..)) hb hA hAb e0 ?_
          dsimp only [List.tail_cons, RD.post]
          rw [set_wA]
          exact evVd_ok rest _ _ (by rw [set_A]; exact hA) (by rw [set_A]; exact hAb) (fun k o' hk => by rw [obj_set]; exact hb k o' hk) e1 (fun p hp => hm p (List.mem_cons_of_mem _ hp)) hΦ
        · cases h
      · rename_i v lo tn e0
        split at h
        · rename_i ml' ts' s2' e1
          simp only [Option.some.injEq, Prod.mk.injEq] at h
          obtain ⟨rfl, rfl, rfl⟩ := h
          refine evK_ok hc he (hm (dstN o, _) (List.mem_cons_self ..)) hb hA hAb e0 ?_
          dsimp only [List.tail_cons, RD.post]
          intro f1 f2 f3
          refine ⟨f1, f2, ?_⟩
          have : (((s.wA A').add lo tn).set o.dst v) = ((s.add lo tn).set o.dst v).wA A' := set_wA (s.add lo tn) A' _ _
          rw [this]
          exact evVd_ok rest _ _ (by rw [set_A]; exact hA) (by rw [set_A]; exact hAb) (fun k o' hk => by rw [obj_set]; exact obj_add_fresh f3 (hb k o' hk)) e1 (fun p hp => hm p (List.mem_cons_of_mem _ hp)) hΦ
        · cases h
      · rename_i v s1 e0
        split at h
        · rename_i ml' ts' s2' e1
          simp only [Option.some.injEq, Prod.mk.injEq] at h
          obtain ⟨rfl, rfl, rfl⟩ := h
          refine evK_ok hc he (hm (dstN o, _) (List.mem_cons_self ..)) hb hA hAb e0 ?_
          dsimp only [List.tail_cons, RD.post]
          have := evVd_ok (md := md) (Φ := Φ) rest ((s1.wA s.A).set o.dst v) ((s1.wA s.A).set o.dst v) (by rw [set_A]; exact hA) rfl (fun _ _ h => h) e1 (fun p hp => hm p (List.mem_cons_of_mem _ hp)) hΦ
          rw [← set_wA] at this
          exact this
        · cases h
      · cases h
    have skip : ∀ {ml ts s2}, (match evVd X call ext ops cand tbl rest base (s.set o.dst (.tup [])) with
        | some (ml, ts, s2) => some (ml, 0 :: ts, s2)
        | none => none) = some (ml, ts, s2) → (∀ p ∈ ml, modeOf md p.1 = p.2) → Φ (s2.wA A') → vd X md ops Φ rest ts.tail (base.wA A') ((s.wA A').set o.dst (.tup [])) := by
      intro ml ts s2 h hm hΦ
      split at h
      · rename_i ml' ts' s2' e1
        simp only [Option.some.injEq, Prod.mk.injEq] at h
        obtain ⟨rfl, rfl, rfl⟩ := h
        rw [set_wA]
        exact evVd_ok rest _ _ (by rw [set_A]; exact hA) (by rw [set_A]; exact hAb) (fun k o' hk => by rw [obj_set]; exact hb k o' hk) e1 hm hΦ
      · cases h
    simp only [vd]
    cases hg : o.guard with
    | none =>
      rw [hg] at h
      exact doit h hm hΦ
    | some jw =>
      obtain ⟨j, want⟩ := jw
      rw [hg] at h
      dsimp only at h ⊢
      rw [gv_wA]
      split at h
      · rename_i e0
        exact gdo_gx e0 (fun _ => doit h hm hΦ) (fun e => by cases e)
      · rename_i e0
        exact gdo_gx e0 (fun e => by cases e) (fun _ => skip h hm hΦ)
      · cases h
end
end Go.E

namespace Go.E
open Go

mutual
theorem V.into_refl : ∀ (x : V), V.into x x
  | .d _ _ => by simp [V.into, closeV, V.ty]
  | .emp _ _ => .inl rfl
  | .agg _ vs => ⟨rfl, V.intos_refl vs⟩
  | .any => trivial
  | .sl _ _ _ _ | .ts _ _ _ | .nilc | .ptr _ _ _ | .cptr _ _ | .sr _ _ _ _ _ _ _ | .mp _ | .fn _ _ | .tup _ | .top _ => by simp [V.into]
theorem V.intos_refl : ∀ (xs : List V), V.intos xs xs
  | [] => trivial
  | x :: xs => ⟨V.into_refl x, rfl, V.intos_refl xs⟩
end
/-- An object that may be kept as it is. -/
def O.keepB : O → Bool
  | .box y => y.plain && y.noSl
  | .map _ _ _ => true
theorem O.into_refl {o : O} (h : o.keepB = true) : O.into o o := by
  cases o with
  | box y =>
    simp only [O.keepB, Bool.and_eq_true] at h
    exact ⟨V.into_refl y, rfl, h.1, h.2⟩
  | map => exact ⟨rfl, rfl, rfl⟩
/- Which local objects a value names. -/
mutual
def V.keys : V → List Nat
  | .ptr (.l k) _ _ | .mp (.l k) | .sr (.l k) _ _ _ _ _ _ => [k]
  | .agg _ vs | .fn _ vs | .tup vs => V.keyss vs
  | _ => []
def V.keyss : List V → List Nat
  | [] => []
  | x :: xs => x.keys ++ V.keyss xs
end
mutual
def V.toks : V → List Nat
  | .sl _ _ _ t => [t]
  | .agg _ vs | .fn _ vs | .tup vs => V.tokss vs
  | _ => []
def V.tokss : List V → List Nat
  | [] => []
  | x :: xs => x.toks ++ V.tokss xs
end
def O.keys : O → List Nat
  | .box x => x.keys
  | .map _ _ es => V.keyss (es.map (·.2))
/-- The local objects that are reached from some. -/
def reach (loc : List (Key × O)) : Nat → List Nat → List Nat → List Nat
  | 0, _, acc => acc
  | _, [], acc => acc
  | f + 1, k :: ks, acc => if memB k acc = true then reach loc f ks acc else match lookK loc (.l k) with
    | some o => reach loc f (o.keys ++ ks) (k :: acc)
    | none => reach loc f ks acc
def gKeys : List (Key × O) → List Nat
  | [] => []
  | (.g _, o) :: l => o.keys ++ gKeys l
  | (.l _, _) :: l => gKeys l
/-- Objects of the caller, and local ones of these names. -/
def locOf (loc : List (Key × O)) (ks : List Nat) : List (Key × O)
  → List (Key × O)
  | [] => []
  | (.g k, _) :: l => (match lookK loc (.g k) with | some o => [(.g k, o)] | none => []) ++ locOf loc ks l
  | (.l k, _) :: l => (if memB k ks = true then (match lookK loc (.l k) with | some o => [(.l k, o)] | none => []) else []) ++ locOf loc ks l
def allKeep : List (Key × O) → Bool
  | [] => true
  | (_, o) :: l => o.keepB && allKeep l
def allGB (L : List (Key × O)) : List (Key × O) → Bool
  | [] => true
  | (.g k, _) :: l => (lookK L (.g k)).isSome && allGB L l
  | (.l _, _) :: l => allGB L l
theorem allGB_ok {L : List (Key × O)} {A : Key → Option O} : ∀ {l : List (Key × O)}, allGB L l = true → allG L A l
  | [], _ => trivial
  | (.g k, _) :: l, h => by
    simp only [allGB, Bool.and_eq_true] at h
    exact ⟨.inl h.1, allGB_ok h.2⟩
  | (.l _, _) :: l, h => allGB_ok (l := l) h
theorem obj_of_look {s : S} {k : Key} {o : O} (h : lookK s.loc k = some o) : s.obj k = some o := by
  simp only [S.obj, objOf, h]
theorem locW_of {s : S} (ks : List Nat) : ∀ {l : List (Key × O)}, allKeep (locOf s.loc ks l) = true → locW s (locOf s.loc ks l)
  | [], _ => trivial
  | (.g k, _) :: l, h => by
    simp only [locOf] at h ⊢
    cases hl : lookK s.loc (.g k) with
    | none => rw [hl] at h; exact locW_of ks h
    | some o =>
      rw [hl] at h
      simp only [List.cons_append, List.nil_append, allKeep, Bool.and_eq_true] at h ⊢
      refine ⟨?_, locW_of ks h.2⟩
      rw [obj_of_look hl]
      exact O.into_refl h.1
  | (.l k, _) :: l, h => by
    simp only [locOf] at h ⊢
    by_cases hk : memB k ks = true
    · rw [if_pos hk] at h ⊢
      cases hl : lookK s.loc (.l k) with
      | none => rw [hl] at h; exact locW_of ks h
      | some o =>
        rw [hl] at h
        simp only [List.cons_append, List.nil_append, allKeep, Bool.and_eq_true] at h ⊢
        refine ⟨?_, locW_of ks h.2⟩
        rw [obj_of_look hl]
        exact O.into_refl h.1
    · rw [if_neg hk] at h ⊢
      exact locW_of ks h
def envOf (s : S) : List Nat → List (Nat × V)
  | [] => []
  | i :: l => (i, s.get i) :: envOf s l
def allOkE (f g : Nat → Bool) : List (Nat × V) → Bool
  | [] => true
  | (_, x) :: l => x.ok f g && allOkE f g l
theorem envW_of {s : S} {f g : Nat → Bool} : ∀ {l : List Nat}, allOkE f g (envOf s l) = true → envW f g s (envOf s l)
  | [], _ => trivial
  | i :: l, h => by
    simp only [envOf, allOkE, Bool.and_eq_true] at h
    exact ⟨V.into_refl _, h.1, .inr rfl, envW_of h.2⟩
def tkOf (s : S) : List Nat → List (Nat × Option Nat)
  | [] => []
  | t :: l => (match look s.tk t with | some x => [(t, x)] | none => []) ++ tkOf s l
theorem tkW_of {s : S} : ∀ {l : List Nat}, tkW s (tkOf s l)
  | [] => trivial
  | t :: l => by
    simp only [tkOf]
    cases hl : look s.tk t with
    | none => exact tkW_of
    | some x =>
      refine ⟨?_, tkW_of⟩
      cases x with
      | none => simp [S.known, hl]
      | some L => simp [S.live, liveT, hl]
def envKeys : List (Nat × V) → List Nat
  | [] => []
  | (_, x) :: l => x.keys ++ envKeys l
def envToks : List (Nat × V) → List Nat
  | [] => []
  | (_, x) :: l => x.toks ++ envToks l
/-- What is left of a state where only some slots are wanted. -/
def gcS (keep : List Nat) (s : S) : S :=
  ⟨envOf s keep, locOf s.loc (reach s.loc 100000 (envKeys (envOf s keep) ++ gKeys s.loc) []) s.loc, s.A, tkOf s (envToks (envOf s keep))⟩
def gcB (keep : List Nat) (s : S) : Bool :=
  allKeep (gcS keep s).loc && locOk (hasL (gcS keep s).loc) (hasT (gcS keep s).tk) (gcS keep s).loc && allGB (gcS keep s).loc s.loc && allOkE (hasL (gcS keep s).loc) (hasT (gcS keep s).tk) (envOf s keep)
theorem gc_weak {X : Cx} {n : Nat} {keep : List Nat} {s : S} (A' : Key → Option O) (h : gcB keep s = true) : Weak X n (s.wA A') ((gcS keep s).wA A') := by
  simp only [gcB, Bool.and_eq_true] at h
  obtain ⟨⟨⟨h1, h2⟩, h3⟩, h4⟩ := h
  refine weak_to rfl ?_ h2 (allGB_ok h3) ?_ ?_
  · exact locW_of (s := s.wA A') _ h1
  · have : ∀ l, tkOf (s.wA A') l = tkOf s l := by
      intro l
      induction l with
      | nil => rfl
      | cons i l ih => simp only [tkOf, ih]; rfl
    show tkW (s.wA A') (tkOf s (envToks (envOf s keep)))
    rw [← this]
    exact tkW_of
  · have : envOf (s.wA A') keep = envOf s keep := by
      generalize keep = l
      induction l with
      | nil => rfl
      | cons i l ih => simp only [envOf, ih]; rfl
    show envW _ _ (s.wA A') (envOf s keep)
    rw [← this] at h4 ⊢
    exact envW_of h4

/- ---------- code ---------- -/
def modesB (ml : List (Nat × Nat)) : List (Nat × Nat) → Bool
  | [] => true
  | (d, m) :: l => Nat.beq (modeOf ml d) m && modesB ml l
theorem modesB_ok {ml : List (Nat × Nat)} : ∀ {l : List (Nat × Nat)}, modesB ml l = true → ∀ p ∈ l, modeOf ml p.1 = p.2
  | (d, m) :: l, h, p, hp => by
    simp only [modesB, Bool.and_eq_true] at h
    rcases List.mem_cons.1 hp with rfl | hp
    · exact Nat.eq_of_beq_eq_true h.1
    · exact modesB_ok h.2 p hp
def evReg (X : Cx) (call : Call1) (ext : Ext1) (tbl : List (Nat × Nat)) (n : Nat) (ops : List Oper) (draw : Bool) (s : S) : Option S :=
  if ops.all (opOk n) = true then
    (if draw = true then (match evVd X call ext ops.toArray (appTargets ops) tbl ops s s with
      | some (ml, ts, s2) => if modesB ml ml = true ∧ ordB ops ts = true then some s2 else none
      | none => none)
    else (match evOps X call ext ops.toArray (appTargets ops) tbl ops s with
      | some (ml, s2) => if modesB ml ml = true then some s2 else none
      | none => none))
  else none
def evLoop (body : S → Option (Exit × S)) (keep : List Nat) : Nat → S → Option (Exit × S)
  | 0, _ => none
  | k + 1, s => match body s with
    | some (e, s1) => (match e with
      | .normal => if gcB keep s1 = true then evLoop body keep k (gcS keep s1) else none
      | e => some (e, s1))
    | none => none
def slotsOf : List (Nat × V) → List Nat
  | [] => []
  | (i, _) :: l => i :: slotsOf l
/-- Code: tbl: modes by region. -/
def evC (X : Cx) (call : Call1) (ext : Ext1) (tbl : Nat → List (Nat × Nat)) (n : Nat) : Nat → Code → S → Option (Exit × S)
  | 0, _, _ => none
  | f + 1, c, s => match ((match c with
    | .skip => some (.normal, s)
    | .region id ops draw => (match evReg X call ext (tbl id) n ops.toList draw s with
        | some s1 => some (.normal, s1)
        | none => none)
    | .seq a b => (match evC X call ext tbl n f a s with
        | some (e, s1) => (match e with
          | .normal => evC X call ext tbl n f b s1
          | e => some (e, s1))
        | none => none)
    | .cond (.tmp t) a b => (match s.get t with
        | .d .bool (.bool v) => (match v with
          | true => evC X call ext tbl n f a s
          | false => evC X call ext tbl n f b s)
        | _ => none)
    | .block id a => (match evC X call ext tbl n f a s with
        | some (e, s1) => (match e with
          | .exit i => if i = id then some (.normal, s1) else some (.exit i, s1)
          | e => some (e, s1))
        | none => none)
    | .loop a => evLoop (evC X call ext tbl n f a) (slotsOf s.env) f s
    | .exit id => some (.exit id, s)
    | .scope a => (match evC X call ext tbl n f a s with
        | some (e, s1) => (match e with
          | .goto _ => none
          | e => some (e, s1))
        | none => none)
    | .label _ => some (.normal, s)
    | .goto l => some (.goto l, s)
    | .ret => some (.ret, s)
    | _ => none) : Option (Exit × S)) with
    | some (e, s1) => some (e, s1.wA s.A)
    | none => none
section
variable {X : Cx} {call : Call1} {ext : Ext1} (hP : allOk X.P = true) (hmo : X.P.follows .mixedOrders = true) (hc : CallOk X call) (he : ExtOk X ext)
include hP hmo hc he
theorem evReg_ok {tbl : List (Nat × Nat)} {n id : Nat} {ops : List Oper} {draw : Bool} {s s1 : S} {A' : Key → Option O} (hA : leA s.A A') {Ψ : Exit → S → Prop} (h : evReg X call ext tbl n ops draw s = some s1) (hΨ : Ψ .normal (s1.wA A')) : DC X n (.region id ops.toArray draw) (s.wA A') Ψ := by
  unfold evReg at h
  simp only [Option.ite_none_right_eq_some] at h
  obtain ⟨h1, h⟩ := h
  cases draw with
  | true =>
    rw [if_pos rfl] at h
    split at h
    · rename_i ml ts s2 e0
      simp only [Option.ite_none_right_eq_some, Option.some.injEq] at h
      obtain ⟨h2, rfl⟩ := h
      exact dc_drawn hP hmo ml ts h1 h2.2 (evVd_ok hc he ops s s hA rfl (fun _ _ h => h) e0 (modesB_ok h2.1) hΨ)
    · cases h
  | false =>
    rw [if_neg (by simp)] at h
    split at h
    · rename_i ml s2 e0
      simp only [Option.ite_none_right_eq_some, Option.some.injEq] at h
      obtain ⟨h2, rfl⟩ := h
      exact dc_region hP ml h1 (evOps_ok hc he ops s hA e0 (modesB_ok h2) hΨ)
    · cases h
end
end Go.E

namespace Go.E
open Go
section
variable {X : Cx} {call : Call1} {ext : Ext1} (hP : allOk X.P = true) (hmo : X.P.follows .mixedOrders = true) (hc : CallOk X call) (he : ExtOk X ext)
theorem evLoop_ok {c : Code} {n : Nat} {keep : List Nat} {body : S → Option (Exit × S)} {A' : Key → Option O} (hb : ∀ s e s1, leA s.A A' → body s = some (e, s1) → s1.A = s.A ∧ ∀ Ψ : Exit → S → Prop, Ψ e (s1.wA A') → DC X n c (s.wA A') Ψ) {Ψ : Exit → S → Prop} :
    ∀ (k : Nat) (s : S) (e : Exit) (s' : S), leA s.A A' → evLoop body keep k s = some (e, s') → Ψ e (s'.wA A') → ∀ (Γ0 : G) (a : Act) (w : World), At X n Γ0 (s.wA A') a w → Code.rounds X.P c (fun e a w => ∃ s', Ψ e s' ∧ At X n Γ0 s' a w) k a w
  | 0, s, e, s', _, h, _, _, _, _, _ => by simp [evLoop] at h
  | k + 1, s, e, s', hA, h, hΨ, Γ0, a, w, hat => by
    simp only [evLoop] at h
    split at h
    · rename_i e0 s1 hbs
      obtain ⟨hA1, hD⟩ := hb s e0 s1 hA hbs
      rw [rounds_succ]
      refine wp_mono (hD (fun e1 s2 => e1 = e0 ∧ s2 = s1.wA A') ⟨rfl, rfl⟩ Γ0 a w hat) ?_
      rintro e1 a1 w1 ⟨s2, ⟨rfl, rfl⟩, hat1⟩
      have hother : some (e1, s1) = some (e, s') → (∃ s', Ψ e1 s' ∧ At X n Γ0 s' a1 w1) := by
        intro h
        simp only [Option.some.injEq, Prod.mk.injEq] at h
        obtain ⟨rfl, rfl⟩ := h
        exact ⟨_, hΨ, hat1⟩
      cases e1 with
      | normal =>
        simp only [Option.ite_none_right_eq_some] at h
        obtain ⟨h1, h⟩ := h
        exact evLoop_ok hb k (gcS keep s1) e s' (by show leA s1.A A'; rw [hA1]; exact hA) h hΨ Γ0 a1 w1 (gc_weak A' h1 Γ0 a1 w1 hat1)
      | exit _ | goto _ | ret | panic _ | outgrown => exact hother h
    · cases h
include hP hmo hc he
theorem evC_ok {tbl : Nat → List (Nat × Nat)} {n : Nat} {A' : Key → Option O} : ∀ (f : Nat) (c : Code) (s : S) (e : Exit) (s' : S), leA s.A A' → evC X call ext tbl n f c s = some (e, s') →
    s'.A = s.A ∧ ∀ Ψ : Exit → S → Prop, Ψ e (s'.wA A') → DC X n c (s.wA A') Ψ
  | 0, c, s, e, s', _, h => by simp [evC] at h
  | f + 1, c, s, e, s', hA, h => by
    have IH := evC_ok (tbl := tbl) (n := n) (A' := A') f
    cases c with
    | skip =>
      simp only [evC, Option.some.injEq, Prod.mk.injEq] at h
      obtain ⟨rfl, rfl⟩ := h
      exact ⟨rfl, fun Ψ hΨ => dc_skip hΨ⟩
    | region id ops draw =>
      simp only [evC] at h
      cases hr : evReg X call ext (tbl id) n ops.toList draw s with
      | none => rw [hr] at h; cases h
      | some s1 =>
        rw [hr] at h
        simp only [Option.some.injEq, Prod.mk.injEq] at h
        obtain ⟨rfl, rfl⟩ := h
        refine ⟨rfl, fun Ψ hΨ => ?_⟩
        have := evReg_ok hP hmo hc he (id := id) hA (Ψ := Ψ) hr hΨ
        simpa using this
    | seq c1 c2 =>
      simp only [evC] at h
      cases h1 : evC X call ext tbl n f c1 s with
      | none => rw [h1] at h; cases h
      | some p =>
        obtain ⟨e0, s1⟩ := p
        rw [h1] at h
        obtain ⟨a1, d1⟩ := IH c1 s e0 s1 hA h1
        cases e0 with
        | normal =>
          simp only at h
          cases h2 : evC X call ext tbl n f c2 s1 with
          | none => rw [h2] at h; cases h
          | some p =>
            obtain ⟨e2, s2⟩ := p
            rw [h2] at h
            simp only [Option.some.injEq, Prod.mk.injEq] at h
            obtain ⟨rfl, rfl⟩ := h
            refine ⟨rfl, fun Ψ hΨ => dc_seq (d1 _ ?_)⟩
            exact (IH c2 s1 e2 s2 (by rw [a1]; exact hA) h2).2 Ψ hΨ
        | exit _ | goto _ | ret | panic _ | outgrown =>
          simp only [Option.some.injEq, Prod.mk.injEq] at h
          obtain ⟨rfl, rfl⟩ := h
          exact ⟨rfl, fun Ψ hΨ => dc_seq (d1 _ hΨ)⟩
    | cond t c1 c2 =>
      cases t with
      | tmp t =>
        simp only [evC] at h
        split at h
        · rename_i e2 s2 h1
          simp only [Option.some.injEq, Prod.mk.injEq] at h
          obtain ⟨rfl, rfl⟩ := h
          split at h1
          · rename_i v hv
            cases v with
            | true => exact ⟨rfl, fun Ψ hΨ => dc_cond true hv (fun _ => (IH c1 s e2 s2 hA h1).2 Ψ hΨ) (fun h => by cases h)⟩
            | false => exact ⟨rfl, fun Ψ hΨ => dc_cond false hv (fun h => by cases h) (fun _ => (IH c2 s e2 s2 hA h1).2 Ψ hΨ)⟩
          · cases h1
        · cases h
      | const _ | global _ | func _ => simp [evC] at h
    | block id c1 =>
      simp only [evC] at h
      cases h1 : evC X call ext tbl n f c1 s with
      | none => rw [h1] at h; cases h
      | some p =>
        obtain ⟨e0, s1⟩ := p
        rw [h1] at h
        obtain ⟨a1, d1⟩ := IH c1 s e0 s1 hA h1
        cases e0 with
        | exit i =>
          simp only at h
          by_cases hi : i = id
          · rw [if_pos hi] at h
            simp only [Option.some.injEq, Prod.mk.injEq] at h
            obtain ⟨rfl, rfl⟩ := h
            refine ⟨rfl, fun Ψ hΨ => dc_block (d1 _ ?_)⟩
            simp only
            rw [if_pos hi]; exact hΨ
          · rw [if_neg hi] at h
            simp only [Option.some.injEq, Prod.mk.injEq] at h
            obtain ⟨rfl, rfl⟩ := h
            refine ⟨rfl, fun Ψ hΨ => dc_block (d1 _ ?_)⟩
            simp only
            rw [if_neg hi]; exact hΨ
        | normal | goto _ | ret | panic _ | outgrown =>
          simp only [Option.some.injEq, Prod.mk.injEq] at h
          obtain ⟨rfl, rfl⟩ := h
          exact ⟨rfl, fun Ψ hΨ => dc_block (d1 _ hΨ)⟩
    | loop c1 =>
      simp only [evC] at h
      cases h1 : evLoop (evC X call ext tbl n f c1) (slotsOf s.env) f s with
      | none => rw [h1] at h; cases h
      | some p =>
        obtain ⟨e0, s1⟩ := p
        rw [h1] at h
        simp only [Option.some.injEq, Prod.mk.injEq] at h
        obtain ⟨rfl, rfl⟩ := h
        refine ⟨rfl, fun Ψ hΨ Γ0 a w hat => ?_⟩
        exact wp_loop_rounds f (evLoop_ok (Ψ := Ψ) (fun s e s1 hA h => IH c1 s e s1 hA h) f s e0 s1 hA h1 hΨ Γ0 a w hat)
    | exit id =>
      simp only [evC, Option.some.injEq, Prod.mk.injEq] at h
      obtain ⟨rfl, rfl⟩ := h
      exact ⟨rfl, fun Ψ hΨ => dc_exit hΨ⟩
    | scope c1 =>
      simp only [evC] at h
      cases h1 : evC X call ext tbl n f c1 s with
      | none => rw [h1] at h; cases h
      | some p =>
        obtain ⟨e0, s1⟩ := p
        rw [h1] at h
        obtain ⟨a1, d1⟩ := IH c1 s e0 s1 hA h1
        cases e0 with
        | goto i => cases h
        | normal | exit _ | ret | panic _ | outgrown =>
          simp only [Option.some.injEq, Prod.mk.injEq] at h
          obtain ⟨rfl, rfl⟩ := h
          exact ⟨rfl, fun Ψ hΨ => dc_scope_straight (d1 _ hΨ)⟩
    | label _ =>
      simp only [evC, Option.some.injEq, Prod.mk.injEq] at h
      obtain ⟨rfl, rfl⟩ := h
      exact ⟨rfl, fun Ψ hΨ => dc_label hΨ⟩
    | goto _ =>
      simp only [evC, Option.some.injEq, Prod.mk.injEq] at h
      obtain ⟨rfl, rfl⟩ := h
      exact ⟨rfl, fun Ψ hΨ => dc_goto hΨ⟩
    | ret =>
      simp only [evC, Option.some.injEq, Prod.mk.injEq] at h
      obtain ⟨rfl, rfl⟩ := h
      exact ⟨rfl, fun Ψ hΨ => dc_ret hΨ⟩
    | rangeFunc _ _ _ _ => simp [evC] at h
    | refuse _ => simp [evC] at h
end

/- ---------- functions ---------- -/
mutual
def V.outV : V → V
  | .sl eb e cs _ => .d (.slice eb e) (.slice cs)
  | .agg τ vs => .agg τ (V.outVs vs)
  | x => x
def V.outVs : List V → List V
  | [] => []
  | x :: xs => x.outV :: V.outVs xs
end
theorem V.outV_ty (x : V) : x.outV.ty = x.ty := by cases x <;> rfl
mutual
theorem V.outV_into : ∀ (x : V), V.into x x.outV
  | .sl _ _ cs _ => by simp [V.outV, V.into, closeV, V.ty]
  | .agg τ vs => ⟨rfl, V.outVs_into vs⟩
  | .d _ _ => by simp [V.outV, V.into, closeV, V.ty]
  | .emp _ _ => .inl rfl
  | .any => trivial
  | .ts _ _ _ | .nilc | .ptr _ _ _ | .cptr _ _ | .sr _ _ _ _ _ _ _ | .mp _ | .fn _ _ | .tup _ | .top _ => by simp [V.outV, V.into]
theorem V.outVs_into : ∀ (xs : List V), V.intos xs (V.outVs xs)
  | [] => trivial
  | x :: xs => ⟨V.outV_into x, V.outV_ty x, V.outVs_into xs⟩
end
def outR (s : S) (x : V) : V :=
  match x with
  | .sl eb e cs t => if s.live t = some cs.length then .ts eb e cs else .d (.slice eb e) (.slice cs)
  | x => x.outV
def outRs (s : S) : List V → List V
  | [] => []
  | x :: xs => outR s x :: outRs s xs
def outB (f : Nat → Bool) : List V → Bool
  | [] => true
  | v :: vs => (match v with | .ts _ _ _ => true | v => v.ok f none0 && v.plain) && outB f vs
def noTsB : List V → Bool
  | [] => true
  | v :: vs => v.notTs && noTsB vs
theorem outR_ok {s : S} {f : Nat → Bool} {x : V} (hx : x.notTs = true) (h : (match outR s x with | .ts _ _ _ => true | v => v.ok f none0 && v.plain) = true) : resInto s f x (outR s x) := by
  have gen : ∀ {x : V}, x.outV.notTs = true → (x.outV.ok f none0 && x.outV.plain) = true → resInto s f x x.outV := by
    intro x hn h
    have : V.into x x.outV ∧ x.outV.ok f none0 = true ∧ x.outV.plain = true ∧ x.outV.ty.isAgg = x.ty.isAgg := by
      simp only [Bool.and_eq_true] at h
      exact ⟨V.outV_into x, h.1, h.2, by rw [V.outV_ty]⟩
    unfold resInto
    split
    · rename_i e1; rw [e1] at hn; cases hn
    · exact this
  cases x with
  | sl eb e cs t =>
    simp only [outR] at h ⊢
    by_cases hl : s.live t = some cs.length
    · rw [if_pos hl]; exact ⟨rfl, rfl, rfl, hl⟩
    · rw [if_neg hl] at h ⊢
      exact gen (x := .sl eb e cs t) rfl h
  | ts => cases hx
  | agg τ vs => exact gen (x := .agg τ vs) rfl h
  | d | emp | any | nilc | ptr | cptr | sr | mp | fn | tup | top => exact gen rfl h
theorem outRs_ok {s : S} {f : Nat → Bool} : ∀ {xs : List V}, noTsB xs = true → outB f (outRs s xs) = true → resIntos s f xs (outRs s xs)
  | [], _, _ => trivial
  | x :: xs, h1, h2 => by
    simp only [noTsB, Bool.and_eq_true] at h1
    simp only [outRs, outB, Bool.and_eq_true] at h2
    exact ⟨outR_ok h1.1 h2.1, outRs_ok h1.2 h2.2⟩
def resChkB (X : Cx) (s : S) (r : ResultVar) : Bool :=
  match r with
  | .tmp _ => true
  | .cell a t => (match s.get a with
      | .ptr k q τ => (match s.obj k with
          | some (.box y) => decide (τ = ty X.P t) && τ.known && !(y.at q).isAny
          | _ => false)
      | _ => false)
def ressChkB (X : Cx) (s : S) : List ResultVar → Bool
  | [] => true
  | r :: rs => resChkB X s r && ressChkB X s rs
theorem resChkB_ok {X : Cx} {s : S} {A' : Key → Option O} (hA : leA s.A A') {r : ResultVar} (h : resChkB X s r = true) : resChk X (s.wA A') r ∧ resOf X (s.wA A') r = resOf X s r := by
  cases r with
  | tmp t => exact ⟨trivial, rfl⟩
  | cell a t =>
    have hg : (s.wA A').get a = s.get a := rfl
    simp only [resChkB] at h
    simp only [resChk, resOf, hg]
    split at h
    · rename_i e0
      split at h
      · rename_i e1
        simp only [Bool.and_eq_true, decide_eq_true_eq, Bool.not_eq_true'] at h
        simp only [e0, obj_wA hA e1, e1]
        exact ⟨⟨h.1.1, h.1.2, V.isAny_false h.2⟩, by first | rfl | trivial⟩
      · cases h
    · cases h
theorem ressChkB_ok {X : Cx} {s : S} {A' : Key → Option O} (hA : leA s.A A') : ∀ {rs : List ResultVar}, ressChkB X s rs = true → ressChk X (s.wA A') rs ∧ ress X (s.wA A') rs = ress X s rs
  | [], _ => ⟨trivial, rfl⟩
  | r :: rs, h => by
    simp only [ressChkB, Bool.and_eq_true] at h
    obtain ⟨h1, h2⟩ := resChkB_ok hA h.1
    obtain ⟨h3, h4⟩ := ressChkB_ok hA h.2
    exact ⟨⟨h1, h3⟩, by simp only [ress, h2, h4]⟩
def packV : List V → V
  | [x] => x
  | xs => .tup xs
theorem retV_pack {xs : List V} {vs : List V} (h : xs.length = vs.length) : retV xs (packV vs) = some vs := by
  match xs, vs, h with
  | [], [], _ => rfl
  | [_], [_], _ => rfl
  | _ :: _ :: _, _ :: _ :: _, _ => rfl
theorem outRs_length (s : S) : ∀ (xs : List V), (outRs s xs).length = xs.length
  | [] => rfl
  | x :: xs => by simp [outRs, outRs_length s xs]
/-- What a function's end gives. -/
def evRet (X : Cx) (fn : Func) (s : S) : Option (V × List (Key × O)) :=
  let rs := ress X s fn.results.toList
  let vs := outRs s rs
  let L := locOf s.loc (reach s.loc 100000 (V.keyss vs ++ gKeys s.loc) []) s.loc
  if ressChkB X s fn.results.toList = true ∧ noTsB rs = true ∧ outB (hasL L) vs = true ∧ nodupN (somes (resTk 2000 rs vs)) = true ∧ allKeep L = true ∧ locOk (hasL L) none0 L = true ∧ allGB L s.loc = true then some (packV vs, L) else none
theorem evRet_ok {X : Cx} {fn : Func} {s : S} {v : V} {L : List (Key × O)} {A' : Key → Option O} (hA : leA s.A A') (h : evRet X fn s = some (v, L)) : retOk X fn A' v L (s.wA A') := by
  simp only [evRet, Option.ite_none_right_eq_some, Option.some.injEq, Prod.mk.injEq] at h
  obtain ⟨⟨h1, h2, h3, h4, h5, h6, h7⟩, rfl, rfl⟩ := h
  obtain ⟨c1, c2⟩ := ressChkB_ok hA h1
  have hL : ∀ (x : S) (xs vs : List V) f, resIntos x f xs vs → resIntos (x.wA A') f xs vs := by
    intro x xs
    induction xs with
    | nil => intro vs f h; cases vs <;> exact h
    | cons y ys ih =>
      intro vs f h
      cases vs with
      | nil => exact h
      | cons v vs => exact ⟨h.1, ih vs f h.2⟩
  refine ⟨rfl, locW_of (s := s.wA A') _ h5, h6, allGB_ok h7, c1, ?_⟩
  rw [c2, retV_pack (outRs_length s _).symm]
  exact ⟨hL _ _ _ _ (outRs_ok h2 h3), h4⟩
/-- A function: ov: contracts that are known otherwise; d: how deep calls may go, fuel: how long code may run; tbl: modes by function and region. -/
def evF (X : Cx) (ov : Call1) (ext : Ext1) (tbl : FuncId → Nat → List (Nat × Nat)) (fuel : Nat) : Nat → Call1
  | 0, _, _, _ => none
  | d + 1, f, xs, A => match ov f xs A with
    | some r => some r
    | none => (match X.P.funcs[f]? with
    | some fn => (match fn.body with
      | some c => if xs.length ≤ fn.ntmps then (match evC X (evF X ov ext tbl fuel d) ext (tbl f) fn.ntmps fuel c (S.start xs A) with
          | some (e, s) => (match e with
            | .normal | .ret => evRet X fn s
            | _ => none)
          | none => none) else none
      | none => none)
    | none => none)
section
variable {X : Cx} {ov : Call1} {ext : Ext1} (hP : allOk X.P = true) (hmo : X.P.follows .mixedOrders = true) (hov : CallOk X ov) (he : ExtOk X ext)
include hP hmo hov he
theorem evF_ok {tbl : FuncId → Nat → List (Nat × Nat)} {fuel : Nat} : ∀ d, CallOk X (evF X ov ext tbl fuel d)
  | 0 => by intro f xs A v L h; simp [evF] at h
  | d + 1 => by
    intro f xs A v L h
    simp only [evF] at h
    split at h
    · rename_i r hr
      cases h
      exact hov _ _ _ _ _ hr
    split at h
    · rename_i fn hf
      split at h
      · rename_i c hb
        simp only [Option.ite_none_right_eq_some] at h
        obtain ⟨hl, h⟩ := h
        split at h
        · rename_i e s hev
          refine dcalls_intro hP hf hb rfl hl fun A' hA => ?_
          have key := (evC_ok hP hmo (evF_ok d) he (A' := A') fuel c (S.start xs A) e s hA hev)
          have hA' : leA s.A A' := by rw [key.1]; exact hA
          refine key.2 (fun e s' => (e = .normal ∨ e = .ret) ∧ retOk X fn A' v L s') ?_
          cases e with
          | normal => exact ⟨.inl rfl, evRet_ok hA' h⟩
          | ret => exact ⟨.inr rfl, evRet_ok hA' h⟩
          | exit _ | goto _ | panic _ | outgrown => cases h
        · cases h
      · cases h
    · cases h
end
def A0 : Key → Option O := fun _ => none
/-- From a run to a contract, whatever the caller has. -/
theorem DCalls.any {X : Cx} {f : FuncId} {xs : List V} {v : V} {L : List (Key × O)} (h : DCalls X f xs A0 v L) (A : Key → Option O) : DCalls X f xs A v L := h.mono fun _ _ h => by cases h
end Go.E

namespace Go.E
open Go

/- ---------- runs on abstract data, with what follows told ahead: conditions may stay open ---------- -/
def ekInt {R : Type} (op : BinOp) (k : IntKind) (a b : Int) (K : V → Option R) : Option R :=
  match op with
  | .add => K (.d (.int k) (.int (k.wrap (a + b))))
  | .sub => K (.d (.int k) (.int (k.wrap (a - b))))
  | .mul => K (.d (.int k) (.int (k.wrap (a * b))))
  | .quo => if b ≠ 0 then K (.d (.int k) (.int (k.wrap (a.tdiv b)))) else none
  | .rem => if b ≠ 0 then K (.d (.int k) (.int (a.tmod b))) else none
  | .and | .or | .xor | .andNot => K (.d (.int k) (.int (bitsC op k a b)))
  | .eql => K (.d .bool (.bool (decide (a = b))))
  | .neq => K (.d .bool (.bool (!decide (a = b))))
  | .lss => K (.d .bool (.bool (decide (a < b))))
  | .leq => K (.d .bool (.bool (decide (a ≤ b))))
  | .gtr => K (.d .bool (.bool (decide (b < a))))
  | .geq => K (.d .bool (.bool (decide (b ≤ a))))
  | _ => none
theorem ekInt_ok {R : Type} {r : R} {Kr : V → Option R} {op : BinOp} {k : IntKind} {a b : Int}  {K : V → Prop} (h : ekInt op k a b Kr = some r) (hK : ∀ v, Kr v = some r → K v) : intBin op k a b K := by
  cases op <;> simp only [ekInt, intBin, Option.some.injEq, Option.ite_none_right_eq_some, reduceCtorEq] at h ⊢ <;>
    first | exact hK _ h | (obtain ⟨h1, h⟩ := h; exact ⟨h1, hK _ h⟩)
def ekSh {R : Type} (op : BinOp) (k : IntKind) (a b : Int) (K : V → Option R) : Option R :=
  match op with
  | .shl => if 0 ≤ b then K (.d (.int k) (.int (k.wrap (a * 2 ^ (min b.toNat k.bits))))) else none
  | .shr => if 0 ≤ b then K (.d (.int k) (.int (a.fdiv (2 ^ (min b.toNat k.bits))))) else none
  | _ => none
theorem ekSh_ok {R : Type} {r : R} {Kr : V → Option R} {op : BinOp} {k : IntKind} {a b : Int}  {K : V → Prop} (h : ekSh op k a b Kr = some r) (hK : ∀ v, Kr v = some r → K v) : shBin op k a b K := by
  cases op <;> simp only [ekSh, shBin, Option.some.injEq, Option.ite_none_right_eq_some, reduceCtorEq] at h ⊢ <;>
    (obtain ⟨h1, h⟩ := h; exact ⟨h1, hK _ h⟩)
def ekStr {R : Type} (op : BinOp) (a b : List UInt8) (K : V → Option R) : Option R :=
  match op with
  | .add => if a.length + b.length ≤ 140737488355328 then K (.d .str (.str (a ++ b))) else none
  | .eql => K (.d .bool (.bool (a == b)))
  | .neq => K (.d .bool (.bool (!(a == b))))
  | .lss => K (.d .bool (.bool (Op.bytesLess a b)))
  | .leq => K (.d .bool (.bool (Op.bytesLess a b || a == b)))
  | .gtr => K (.d .bool (.bool (!(Op.bytesLess a b || a == b))))
  | .geq => K (.d .bool (.bool (!Op.bytesLess a b)))
  | _ => none
theorem ekStr_ok {R : Type} {r : R} {Kr : V → Option R} {op : BinOp} {a b : List UInt8}  {K : V → Prop} (h : ekStr op a b Kr = some r) (hK : ∀ v, Kr v = some r → K v) : strBin op a b K := by
  cases op <;> simp only [ekStr, strBin, Option.some.injEq, Option.ite_none_right_eq_some, reduceCtorEq] at h ⊢ <;>
    first | exact hK _ h | (obtain ⟨h1, h⟩ := h; exact ⟨h1, hK _ h⟩)
def ekAgg {R : Type} (op : BinOp) (b : Bool) (K : V → Option R) : Option R :=
  match op with
  | .eql => K (.d .bool (.bool b))
  | .neq => K (.d .bool (.bool (!b)))
  | _ => none
theorem ekAgg_ok {R : Type} {r : R} {Kr : V → Option R} {op : BinOp} {b : Bool}  {K : V → Prop} (h : ekAgg op b Kr = some r) (hK : ∀ v, Kr v = some r → K v) : aggBin op b K := by
  cases op <;> simp only [ekAgg, aggBin, reduceCtorEq] at h ⊢ <;> exact hK _ h
def ekBoolBin {R : Type} (op : BinOp) (x y : Bool) (K : V → Option R) : Option R :=
  match op with
  | .eql => K (.d .bool (.bool (x == y)))
  | .neq => K (.d .bool (.bool (!(x == y))))
  | _ => none
def ekPtrBin {R : Type} (op : BinOp) (x y : Option Bool) (K : V → Option R) : Option R :=
  match op, x, y with
  | .eql, some a, some true => K (.d .bool (.bool a))
  | .neq, some a, some true => K (.d .bool (.bool (!a)))
  | .eql, some true, some b => K (.d .bool (.bool b))
  | .neq, some true, some b => K (.d .bool (.bool (!b)))
  | _, _, _ => none
def ekSlBin {R : Type} (op : BinOp) (x : Option (Option Bool)) (y : V) (K : V → Option R) : Option R :=
  match op, x, y with
  | .eql, some r, .nilc => K (nilV r)
  | .neq, some r, .nilc => K (nilV (r.map (!·)))
  | _, _, _ => none
def ekBin {R : Type} (P : Program) (op : BinOp) (T : TypeId) (x y : V) (K : V → Option R) : Option R :=
  match ty P T with
  | .int k => if x.isInt k then (if BinOp.isShift op then (if y.isAnyInt then ekSh op k x.toInt y.toInt K else none) else (if y.isInt k then ekInt op k x.toInt y.toInt K else none)) else none
  | .bool => if x.isBool ∧ y.isBool then ekBoolBin op x.toBool y.toBool K else none
  | .str => if x.isStr ∧ y.isStr then ekStr op x.toStr y.toStr K else none
  | .ptr => ekPtrBin op x.nilQ y.nilQ K
  | .arr n e => if eqOk P T = true ∧ x.isData (.arr n e) ∧ y.isData (.arr n e) then ekAgg op (C.beq x.toC y.toC) K else none
  | .struct sz os fs => if eqOk P T = true ∧ x.isData (.struct sz os fs) ∧ y.isData (.struct sz os fs) then ekAgg op (C.beq x.toC y.toC) K else none
  | .slice _ _ => ekSlBin op x.nilS y K
  | _ => none
theorem ekBin_ok {R : Type} {r : R} {Kr : V → Option R} {P : Program} {op : BinOp} {T : TypeId} {x y : V} {K : V → Prop} (h : ekBin P op T x y Kr = some r) (hK : ∀ v, Kr v = some r → K v) : pvBin P op T x y K := by
  unfold ekBin at h
  unfold pvBin
  generalize ty P T = τ at h ⊢
  split at h
  · simp only [Option.ite_none_right_eq_some] at h
    obtain ⟨h1, h2⟩ := h
    refine ⟨h1, ?_⟩
    split at h2
    · rename_i hs
      rw [if_pos hs]
      simp only [Option.ite_none_right_eq_some] at h2
      exact ⟨h2.1, ekSh_ok h2.2 hK⟩
    · rename_i hs
      rw [if_neg hs]
      simp only [Option.ite_none_right_eq_some] at h2
      exact ⟨h2.1, ekInt_ok h2.2 hK⟩
  · simp only [Option.ite_none_right_eq_some] at h
    obtain ⟨⟨h1, h2⟩, h3⟩ := h
    refine ⟨h1, h2, ?_⟩
    cases op <;> simp only [ekBoolBin, reduceCtorEq] at h3 ⊢ <;> exact hK _ h3
  · simp only [Option.ite_none_right_eq_some] at h
    exact ⟨h.1.1, h.1.2, ekStr_ok h.2 hK⟩
  · simp only [ekPtrBin] at h
    split at h <;> (try (cases h)) <;> simp_all
  · simp only [Option.ite_none_right_eq_some] at h
    exact ⟨h.1.1, h.1.2.1, h.1.2.2, by rw [C.eqb_dec]; exact ekAgg_ok h.2 hK⟩
  · simp only [Option.ite_none_right_eq_some] at h
    exact ⟨h.1.1, h.1.2.1, h.1.2.2, by rw [C.eqb_dec]; exact ekAgg_ok h.2 hK⟩
  · simp only [ekSlBin] at h
    split at h <;> (try (cases h)) <;> simp_all
  · cases h
def ekSlice {R : Type} (P : Program) (T : TypeId) (x : V) (lo hi mx : Option V) (K : V → Option R) : Option R :=
  match ty P T with
  | .str => (match boundI lo 0, boundI hi x.toStr.length with
      | some l, some h => if x.isStr ∧ mx.isNone then (if 0 ≤ l ∧ l ≤ h ∧ h ≤ x.toStr.length then K (.d .str (.str ((x.toStr.take h.toNat).drop l.toNat))) else none) else none
      | _, _ => none)
  | .slice eb e => (match x with
      | .sr k q lo0 n cp eb' e' => if eb' = eb ∧ e' = e then (match boundI lo 0, boundI hi n, mx with
          | some l, some h, none => if 0 ≤ l ∧ l ≤ h ∧ h ≤ n then K (.sr k q (lo0 + l.toNat) (h - l).toNat (cp.map (· - l.toNat)) eb e) else none
          | some l, some h, some m => if hi.isSome = true then (match boundI (some m) 0 with
              | some m => if 0 ≤ l ∧ l = h ∧ h = m ∧ m ≤ n then K (.emp eb e) else none
              | none => none) else none
          | _, _, _ => none) else none
      | x => (match x.asSl with
        | some (eb', e', cs) => if eb' = eb ∧ e' = e then (match boundI lo 0, boundI hi cs.length, mx with
          | some l, some h, none => if 0 ≤ l ∧ l ≤ h ∧ h ≤ cs.length then K (.d (.slice eb e) (.slice (cut cs l h))) else none
          | some l, some h, some m => if hi.isSome = true then (match boundI (some m) 0 with
              | some m => if 0 ≤ l ∧ l = h ∧ h = m ∧ m ≤ cs.length then K (.emp eb e) else none
              | none => none) else none
          | _, _, _ => none) else none
        | none => none))
  | _ => (match ptrArr P T with
    | some (n, eb, e) => if n * eb ≤ 140737488355328 ∧ n ≤ maxLen ∧ mx.isNone then (match boundI lo 0, boundI hi n with
        | some l, some h => if 0 ≤ l ∧ l ≤ h ∧ h ≤ n then (match x with
            | .ptr k q τ => if τ = .arr n e then K (.sr k q l.toNat (h - l).toNat (some (n - l.toNat)) eb e) else none
            | .cptr τ c => if τ = .arr n e then K (.d (.slice eb e) (.slice (cut c.elems l h))) else none
            | _ => none) else none
        | _, _ => none) else none
    | none => none)
theorem ekSlice_ok {R : Type} {r : R} {Kr : V → Option R} {P : Program} {T : TypeId} {x : V} {lo hi mx : Option V} {K : V → Prop} (h : ekSlice P T x lo hi mx Kr = some r) (hK : ∀ v, Kr v = some r → K v) : pvSlice P T x lo hi mx K := by
  unfold ekSlice at h
  unfold pvSlice
  generalize ty P T = τ at h ⊢
  split at h
  · split at h
    · rename_i l hh e1 e2
      simp only [Option.ite_none_right_eq_some] at h
      obtain ⟨⟨h1, h2⟩, h3, h⟩ := h
      refine ⟨h1, by simpa using h2, ?_⟩
      rw [e1, e2]
      exact ⟨h3.1, h3.2.1, h3.2.2, hK _ h⟩
    · cases h
  · split at h
    · simp only [Option.ite_none_right_eq_some] at h
      obtain ⟨⟨h1, h2⟩, h⟩ := h
      refine ⟨h1, h2, ?_⟩
      split at h
      · rename_i e1 e2
        simp only [Option.ite_none_right_eq_some] at h
        obtain ⟨h3, h⟩ := h
        rw [e1, e2]
        exact ⟨h3.1, h3.2.1, h3.2.2, hK _ h⟩
      · rename_i e1 e2
        simp only [Option.ite_none_right_eq_some] at h
        obtain ⟨h3, h⟩ := h
        rw [e1, e2]
        refine ⟨h3, ?_⟩
        split at h
        · rename_i e3
          simp only [Option.ite_none_right_eq_some] at h
          obtain ⟨h4, h⟩ := h
          rw [e3]
          exact ⟨h4.1, h4.2.1, h4.2.2.1, h4.2.2.2, hK _ h⟩
        · cases h
      · cases h
    · rename_i x' hx'
      cases x <;> (try exact (hx' _ _ _ _ _ _ _ rfl).elim) <;> (
        split at h
        · rename_i e0
          simp only [e0]
          simp only [Option.ite_none_right_eq_some] at h
          obtain ⟨⟨h1, h2⟩, h⟩ := h
          refine ⟨h1, h2, ?_⟩
          split at h
          · rename_i e1 e2
            simp only [Option.ite_none_right_eq_some] at h
            obtain ⟨h3, h⟩ := h
            rw [e1, e2]
            exact ⟨h3.1, h3.2.1, h3.2.2, hK _ h⟩
          · rename_i e1 e2
            simp only [Option.ite_none_right_eq_some] at h
            obtain ⟨h3, h⟩ := h
            rw [e1, e2]
            refine ⟨h3, ?_⟩
            split at h
            · rename_i e3
              simp only [Option.ite_none_right_eq_some] at h
              obtain ⟨h4, h⟩ := h
              rw [e3]
              exact ⟨h4.1, h4.2.1, h4.2.2.1, h4.2.2.2, hK _ h⟩
            · cases h
          · cases h
        · cases h)
  · rename_i hn1 hn2
    split at h
    · rename_i e0
      split <;> first | exact (hn1 rfl).elim | exact (hn2 _ _ rfl).elim | skip
      rw [e0]
      simp only [Option.ite_none_right_eq_some] at h
      obtain ⟨⟨h1, h2, h3⟩, h⟩ := h
      refine ⟨h1, h2, by simpa using h3, ?_⟩
      split at h
      · rename_i e1 e2
        rw [e1, e2]
        simp only [Option.ite_none_right_eq_some] at h
        obtain ⟨h4, h⟩ := h
        refine ⟨h4.1, h4.2.1, h4.2.2, ?_⟩
        split at h
        · simp only [Option.ite_none_right_eq_some] at h
          obtain ⟨h5, h⟩ := h
          exact ⟨h5, hK _ h⟩
        · simp only [Option.ite_none_right_eq_some] at h
          obtain ⟨h5, h⟩ := h
          exact ⟨h5, hK _ h⟩
        · cases h
      · cases h
    · cases h
def ekLen {R : Type} (P : Program) (T : TypeId) (x : V) (K : V → Option R) : Option R :=
  match ty P T, x with
  | .str, .d τ c => if τ = .str then K (.d (.int .i64) (.int c.toStr.length)) else none
  | .slice _ _, .nilc => K (.d (.int .i64) (.int 0))
  | .slice _ _, .sr _ _ _ n _ _ _ => K (.d (.int .i64) (.int n))
  | .slice eb e, x => (match x.asSl with
      | some (eb', e', cs) => if eb' = eb ∧ e' = e then K (.d (.int .i64) (.int cs.length)) else none
      | none => none)
  | .arr n _, _ => if (n : Int) ≤ 9223372036854775807 then K (.d (.int .i64) (.int n)) else none
  | _, _ => none
theorem ekLen_ok {R : Type} {r : R} {Kr : V → Option R} {P : Program} {T : TypeId} {x : V} {K : V → Prop} (h : ekLen P T x Kr = some r) (hK : ∀ v, Kr v = some r → K v) : pvLen P T x K := by
  unfold ekLen at h
  unfold pvLen
  generalize ty P T = τ at h ⊢
  cases τ <;> (try (cases h; done)) <;> cases x <;> (try (cases h; done)) <;> simp only [Option.ite_none_right_eq_some] at h ⊢ <;>
    first
    | exact hK _ h
    | (obtain ⟨h1, h⟩ := h; exact ⟨h1, hK _ h⟩)
    | (split at h
       · rename_i e0
         simp only [Option.ite_none_right_eq_some] at h
         obtain ⟨h1, h⟩ := h
         rw [e0]
         exact ⟨h1.1, h1.2, hK _ h⟩
       · cases h)
def ekIndexAddr {R : Type} (P : Program) (T : TypeId) (x i : V) (K : V → Option R) : Option R :=
  if i.isAnyInt then
  match ty P T, x with
  | .slice eb e, .sr k q lo n _ eb' e' => if eb' = eb ∧ e' = e then (if 0 ≤ i.toInt ∧ i.toInt < n then K (.ptr k (q ++ [lo + i.toInt.toNat]) e) else none) else none
  | .slice eb e, x => (match x.asSl with
      | some (eb', e', cs) => if eb' = eb ∧ e' = e then (if 0 ≤ i.toInt ∧ i.toInt < cs.length then K (.cptr e (cs.getD i.toInt.toNat .nil)) else none) else none
      | none => none)
  | .arr n e, .ptr k q τ => if τ = .arr n e then (if 0 ≤ i.toInt ∧ i.toInt < n then K (.ptr k (q ++ [i.toInt.toNat]) e) else none) else none
  | .arr n e, .cptr τ c => if τ = .arr n e then (if 0 ≤ i.toInt ∧ i.toInt < n then K (.cptr e (c.get i.toInt.toNat)) else none) else none
  | _, _ => none
  else none
theorem ekIndexAddr_ok {R : Type} {r : R} {Kr : V → Option R} {P : Program} {T : TypeId} {x i : V} {K : V → Prop} (h : ekIndexAddr P T x i Kr = some r) (hK : ∀ v, Kr v = some r → K v) : pvIndexAddr P T x i K := by
  unfold ekIndexAddr at h
  unfold pvIndexAddr
  simp only [Option.ite_none_right_eq_some] at h
  obtain ⟨h0, h⟩ := h
  refine ⟨h0, ?_⟩
  generalize ty P T = τ at h ⊢
  cases τ <;> (try (cases h; done)) <;> cases x <;> (try (cases h; done)) <;> simp only [Option.ite_none_right_eq_some] at h ⊢ <;>
    first
    | (obtain ⟨h1, h2, h⟩ := h; exact ⟨h1.1, h1.2, h2.1, h2.2, hK _ h⟩)
    | (obtain ⟨h1, h2, h⟩ := h; exact ⟨h1, h2.1, h2.2, hK _ h⟩)
    | (split at h
       · rename_i e0
         simp only [Option.ite_none_right_eq_some] at h
         obtain ⟨h1, h2, h⟩ := h
         rw [e0]
         exact ⟨h1.1, h1.2, h2.1, h2.2, hK _ h⟩
       · cases h)
def ekFieldAddr {R : Type} (P : Program) (T : TypeId) (x : V) (i : Nat) (K : V → Option R) : Option R :=
  match x with
  | .ptr k q τ => if τ = ty P T ∧ τ.isStruct = true ∧ (τ.child i).isSome = true ∧ (τ.get i).size ≠ 0 then K (.ptr k (q ++ [i]) (τ.get i)) else none
  | .cptr τ c => if τ = ty P T ∧ τ.isStruct = true ∧ (τ.child i).isSome = true ∧ (τ.get i).size ≠ 0 then K (.cptr (τ.get i) (c.get i)) else none
  | _ => none
theorem ekFieldAddr_ok {R : Type} {r : R} {Kr : V → Option R} {P : Program} {T : TypeId} {x : V} {i : Nat} {K : V → Prop} (h : ekFieldAddr P T x i Kr = some r) (hK : ∀ v, Kr v = some r → K v) : pvFieldAddr P T x i K := by
  unfold ekFieldAddr at h
  unfold pvFieldAddr
  split at h
  · simp only [Option.ite_none_right_eq_some] at h
    obtain ⟨h1, h⟩ := h
    exact ⟨h1.1, h1.2.1, h1.2.2.1, h1.2.2.2, hK _ h⟩
  · simp only [Option.ite_none_right_eq_some] at h
    obtain ⟨h1, h⟩ := h
    exact ⟨h1.1, h1.2.1, h1.2.2.1, h1.2.2.2, hK _ h⟩
  · cases h
def ekUn {R : Type} (P : Program) (op : UnOp) (T : TypeId) (x : V) (K : V → Option R) : Option R :=
  match ty P T, op with
  | .bool, .not => if x.isBool then K (.d .bool (.bool (!x.toBool))) else none
  | .int k, .neg => if x.isInt k then K (.d (.int k) (.int (k.wrap (0 - x.toInt)))) else none
  | _, _ => none
theorem ekUn_ok {R : Type} {r : R} {Kr : V → Option R} {P : Program} {op : UnOp} {T : TypeId} {x : V} {K : V → Prop} (h : ekUn P op T x Kr = some r) (hK : ∀ v, Kr v = some r → K v) : pvUn P op T x K := by
  unfold ekUn at h
  unfold pvUn
  generalize ty P T = τ at h ⊢
  split at h
  · simp only [Option.ite_none_right_eq_some] at h
    obtain ⟨h1, h⟩ := h
    exact ⟨h1, hK _ h⟩
  · simp only [Option.ite_none_right_eq_some] at h
    obtain ⟨h1, h⟩ := h
    exact ⟨h1, hK _ h⟩
  · cases h
def ekConv {R : Type} (P : Program) (src dst : TypeId) (x : V) (K : V → Option R) : Option R :=
  match ty P src, ty P dst with
  | .int k, .int k2 => if x.isInt k then K (.d (.int k2) (.int (k2.wrap x.toInt))) else none
  | .str, .str => if x.isStr then K x else none
  | _, _ => none
theorem ekConv_ok {R : Type} {r : R} {Kr : V → Option R} {P : Program} {src dst : TypeId} {x : V} {K : V → Prop} (h : ekConv P src dst x Kr = some r) (hK : ∀ v, Kr v = some r → K v) : pvConv P src dst x K := by
  unfold ekConv at h
  unfold pvConv
  generalize ty P src = τ at h ⊢
  generalize ty P dst = τ2 at h ⊢
  split at h
  · simp only [Option.ite_none_right_eq_some] at h
    obtain ⟨h1, h⟩ := h
    exact ⟨h1, hK _ h⟩
  · simp only [Option.ite_none_right_eq_some] at h
    obtain ⟨h1, h⟩ := h
    exact ⟨h1, hK _ h⟩
  · cases h
def ekBuiltin {R : Type} (P : Program) (b : Builtin) (ts : Array TypeId) (xs : List V) (K : V → Option R) : Option R :=
  match b, xs with
  | .len, [x] => if 0 < ts.size then ekLen P (ts.getD 0 0) x K else none
  | .min, [x, y] => (match x with
      | .d (.int k) _ => if y.isInt k then K (.d (.int k) (.int (if y.toInt < x.toInt then y.toInt else x.toInt))) else none
      | _ => none)
  | .max, [x, y] => (match x with
      | .d (.int k) _ => if y.isInt k then K (.d (.int k) (.int (if x.toInt < y.toInt then y.toInt else x.toInt))) else none
      | _ => none)
  | _, _ => none
theorem ekBuiltin_ok {R : Type} {r : R} {Kr : V → Option R} {P : Program} {b : Builtin} {ts : Array TypeId} {xs : List V}  {K : V → Prop} (h : ekBuiltin P b ts xs Kr = some r) (hK : ∀ v, Kr v = some r → K v) : pvBuiltin P b ts xs K := by
  unfold ekBuiltin at h
  unfold pvBuiltin
  split at h
  · simp only [Option.ite_none_right_eq_some] at h
    exact ⟨h.1, ekLen_ok h.2 hK⟩
  · split at h
    · simp only [Option.ite_none_right_eq_some] at h
      obtain ⟨h1, h⟩ := h
      exact ⟨h1, hK _ h⟩
    · cases h
  · split at h
    · simp only [Option.ite_none_right_eq_some] at h
      obtain ⟨h1, h⟩ := h
      exact ⟨h1, hK _ h⟩
    · cases h
  · cases h
def ekPv {R : Type} (P : Program) (op : Op) (ρ : Operand → V) (K : V → Option R) : Option R :=
  match op with
  | .move x => K (ρ x)
  | .assign x => K (ρ x)
  | .pick c a b => if (ρ c).isBool then (bif (ρ c).toBool then K (ρ a) else K (ρ b)) else none
  | .nilCheck x => if (ρ x).nilQ = some false then K (ρ x) else none
  | .binOp op T x y _ => ekBin P op T (ρ x) (ρ y) K
  | .unOp op T x => ekUn P op T (ρ x) K
  | .convert src dst x => ekConv P src dst (ρ x) K
  | .fieldAddr T x i => ekFieldAddr P T (ρ x) i K
  | .field T x i => if (ρ x).ty = ty P T ∧ (ρ x).ty.isStruct = true ∧ ((ρ x).ty.child i).isSome = true ∧ ((ρ x).ty.get i).known = true ∧ (ρ x).plain = true ∧ ((ρ x).get i).isAny = false then K ((ρ x).get i) else none
  | .indexAddr T x i => ekIndexAddr P T (ρ x) (ρ i) K
  | .index T x i => if (ρ i).isAnyInt then (match ty P T with
      | .arr n e => if (ρ x).ty = .arr n e ∧ (ρ x).plain = true ∧ e.known = true then (if 0 ≤ (ρ i).toInt ∧ (ρ i).toInt < n then (if ((ρ x).get (ρ i).toInt.toNat).isAny = false then K ((ρ x).get (ρ i).toInt.toNat) else none) else none) else none
      | .str => if (ρ x).isStr then (if 0 ≤ (ρ i).toInt ∧ (ρ i).toInt < (ρ x).toStr.length then K (.d (.int .u8) (.int ((ρ x).toStr.getD (ρ i).toInt.toNat 0).toNat)) else none) else none
      | _ => none) else none
  | .slice T x lo hi mx => ekSlice P T (ρ x) (lo.map ρ) (hi.map ρ) (mx.map ρ) K
  | .extract x i => (match ρ x with
      | .tup xs => (match xs[i]? with | some y => K y | none => none)
      | _ => none)
  | .makeFunc fn first caps => (match fn, first.toList with
      | .func f, [] => if (caps.toList.map ρ).all V.plain = true then K (.fn f (caps.toList.map ρ)) else none
      | _, _ => none)
  | .call c => (match c.callee with
      | .builtin b => ekBuiltin P b c.argTypes (c.args.toList.map ρ) K
      | _ => none)
  | _ => none
theorem ekPv_ok {R : Type} {r : R} {Kr : V → Option R} {P : Program} {op : Op} {ρ : Operand → V}  {K : V → Prop} (h : ekPv P op ρ Kr = some r) (hK : ∀ v, Kr v = some r → K v) : pv P op ρ K := by
  unfold ekPv at h
  unfold pv
  split at h
  · exact hK _ h
  · exact hK _ h
  · simp only [Option.ite_none_right_eq_some] at h
    obtain ⟨h1, h⟩ := h
    refine ⟨h1, fun e => ?_, fun e => ?_⟩ <;> rw [e] at h <;> exact hK _ h
  · simp only [Option.ite_none_right_eq_some] at h
    obtain ⟨h1, h⟩ := h
    exact ⟨h1, hK _ h⟩
  · exact ekBin_ok h hK
  · exact ekUn_ok h hK
  · exact ekConv_ok h hK
  · exact ekFieldAddr_ok h hK
  · simp only [Option.ite_none_right_eq_some] at h
    obtain ⟨h1, h⟩ := h
    exact ⟨h1.1, h1.2.1, h1.2.2.1, h1.2.2.2.1, h1.2.2.2.2.1, V.isAny_false h1.2.2.2.2.2, hK _ h⟩
  · exact ekIndexAddr_ok h hK
  · simp only [Option.ite_none_right_eq_some] at h
    obtain ⟨h0, h⟩ := h
    refine ⟨h0, ?_⟩
    rename_i T _ _
    generalize ty P T = τ at h ⊢
    split at h
    · simp only [Option.ite_none_right_eq_some] at h
      obtain ⟨h1, h2, h3, h⟩ := h
      exact ⟨h1.1, h1.2.1, h1.2.2, h2.1, h2.2, V.isAny_false h3, hK _ h⟩
    · simp only [Option.ite_none_right_eq_some] at h
      obtain ⟨h1, h2, h⟩ := h
      exact ⟨h1, h2.1, h2.2, hK _ h⟩
    · cases h
  · exact ekSlice_ok h hK
  · split at h
    · rename_i e0
      simp only [e0]
      split at h
      · rename_i e1; simp only [e1]; exact hK _ h
      · cases h
    · cases h
  · split at h
    · rename_i e0
      simp only [e0]
      simp only [Option.ite_none_right_eq_some] at h
      obtain ⟨h1, h⟩ := h
      exact ⟨h1, hK _ h⟩
    · cases h
  · split at h
    · rename_i e0
      simp only [e0]
      exact ekBuiltin_ok h hK
    · cases h
  · cases h

end Go.E

namespace Go.E
open Go

def ekSrc {R : Type} (P : Program) (s : S) (t' : TypeId) (eb : Nat) (e : Ty) (Y : V) (K : List C → Option R) : Option R :=
  match ty P t' with
  | .slice _ _ => (match Y with
    | .nilc => K []
    | Y => match elemsOf s Y with
      | some (eb', e', ys) => if eb' = eb ∧ e' = e then K ys else none
      | none => none)
  | .str => if e = .int .u8 ∧ eb = 1 ∧ Y.isStr then K (Y.toStr.map fun b => C.int b.toNat) else none
  | _ => none
theorem ekSrc_ok {R : Type} {r : R} {Kr : List C → Option R} {P : Program} {s : S} {A' : Key → Option O} (hA : leA s.A A') {t' : TypeId} {eb : Nat} {e : Ty} {Y : V} {K : List C → Prop} (h : ekSrc P s t' eb e Y Kr = some r) (hK : ∀ ys, Kr ys = some r → K ys) : srcK P (s.wA A') t' eb e Y K := by
  unfold ekSrc at h
  unfold srcK
  generalize ty P t' = τ at h ⊢
  cases τ <;> (try (cases h; done))
  · simp only [Option.ite_none_right_eq_some] at h
    obtain ⟨h1, h⟩ := h
    exact ⟨h1.1, h1.2.1, h1.2.2, hK _ h⟩
  · cases Y <;> simp only at h ⊢ <;> first
      | exact hK _ h
      | (split at h
         · rename_i e0
           simp only [Option.ite_none_right_eq_some] at h
           obtain ⟨h1, h⟩ := h
           rw [elemsOf_wA hA e0]
           exact ⟨h1.1, h1.2, hK _ h⟩
         · cases h)
abbrev K3 (R : Type) := V → List (Key × O) → List (Nat × Option Nat) → Option R
def ekAppend {R : Type} (P : Program) (m : Nat) (dst : Nat) (s : S) (t t' : TypeId) (x y : V) (K : K3 R) : Option R :=
  if zeroB P (elemT P t) = true then
  match ty P t with
  | .slice eb e => (match x with
    | .emp _ _ | .nilc => ekSrc P s t' eb e y fun ys =>
        if m = 3 then (if ys.isEmpty = false then K (.sr (.l dst) [] 0 ys.length none eb e) [(.l dst, .box (.d (.arr ys.length e) (.agg ys)))] [] else none) else K (.sl eb e ys dst) [] [(dst, some ys.length)]
    | _ => none)
  | _ => none
  else none
def ekLenM {R : Type} (P : Program) (s : S) (T : TypeId) (k : Key) (K : V → Option R) : Option R :=
  match mapT P T, s.obj k with
  | some _, some (.map _ _ es) => if es.length ≤ 9223372036854775807 then K (.d (.int .i64) (.int es.length)) else none
  | _, _ => none
/-- What is found under a key. -/
def ekLook {α R : Type} : List (C × α) → C → (Option α → Option R) → Option R
  | [], _, K => K none
  | (k, v) :: es, c, K => if C.beq c k = true then K (some v) else ekLook es c K
theorem ekLook_ok {α R : Type} {r : R} {c : C} {Kr : Option α → Option R} : ∀ {es : List (C × α)}, ekLook es c Kr = some r → Kr (lookM es c) = some r
  | [], h => h
  | (k, v) :: es, h => by
    simp only [ekLook] at h
    simp only [lookM, C.eqb_dec]
    split at h
    · rename_i e; rw [if_pos e]; exact h
    · rename_i e; rw [if_neg e]; exact ekLook_ok h
def ekI {R : Type} (X : Cx) (m : Nat) (dst : Nat) (o : Oper) (ρ : Operand → V) (s : S) (K : K3 R) : Option R :=
  match o.op with
  | .load T x => (match ρ x with
      | .ptr k q τ => (match s.obj k with
          | some (.box y) => if (y.at q).isAny = false ∧ τ = ty X.P T ∧ τ.known = true then K (view (y.at q)) [] [] else none
          | _ => none)
      | .cptr τ c => if τ = ty X.P T ∧ τ.known = true then K (.d τ c) [] [] else none
      | _ => none)
  | .alloc T => if zeroB X.P T = true then K (.ptr (.l dst) [] (ty X.P T)) [(.l dst, .box (zeroX (ty X.P T)))] [] else none
  | .box _ x => if m = 5 then (if (ρ x).plain = true then (match closeV (ρ x) with
        | some cc => K (.cptr (ρ x).ty cc) [] []
        | none => none) else none)
      else if (ρ x).plain = true ∧ (ρ x).noSl = true then K (.ptr (.l dst) [] (ρ x).ty) [(.l dst, .box (ρ x))] [] else none
  | .buildSlice t len parts => (match ty X.P t with
      | .slice eb e => (match len with
        | 0 => if parts.toList.length = 0 then K (.emp eb e) [] [] else none
        | len + 1 => if zeroB X.P (elemT X.P t) = true ∧ e.size ≠ 0 ∧ (len + 1) * e.size ≤ 16777216 ∧ (len + 1) * eb ≤ 140737488355328 ∧ parts.toList.map (·.1) = List.range (len + 1) then
            (match closeVs (parts.toList.map fun x => ρ x.2) with
              | some cs => if (parts.toList.map (fun x => ρ x.2)).all (fun x => decide (x.ty = e) && x.plain) = true then (if m = 4 then K (.sl eb e cs dst) [] [(dst, some cs.length)] else K (.d (.slice eb e) (.slice cs)) [] []) else none
              | none => none) else none)
      | _ => none)
  | .build T parts => if zeroB X.P T = true ∧ (ty X.P T).disj = true ∧ (ty X.P T).isAgg = true ∧ buildB (ty X.P T) (zeroX (ty X.P T)) (parts.toList.map fun p => (p.1, ρ p.2)) = true then
      K (buildV (ty X.P T) (zeroX (ty X.P T)) (parts.toList.map fun p => (p.1, ρ p.2))) [] [] else none
  | .makeSlice t l c => (match ty X.P t with
      | .slice eb e => if zeroB X.P (elemT X.P t) = true ∧ (ρ l).isAnyInt ∧ (ρ c).isAnyInt ∧ e.size ≠ 0 then (if 0 ≤ (ρ l).toInt ∧ (ρ l).toInt ≤ (ρ c).toInt ∧ (ρ c).toInt ≤ 9223372036854775807 ∧ (ρ c).toInt.toNat * eb ≤ 140737488355328 then
          K (.sr (.l dst) [] 0 (ρ l).toInt.toNat (some (ρ c).toInt.toNat) eb e) [(.l dst, .box (.d (.arr (ρ l).toInt.toNat e) (.agg (List.replicate (ρ l).toInt.toNat (zeroC e)))))] [] else none) else none
      | _ => none)
  | .makeMap T r => (match r, mapT X.P T with
      | none, some (kt, et) => K (.mp (.l dst)) [(.l dst, .map (ty X.P kt) (ty X.P et) [])] []
      | _, _ => none)
  | .lookup T x i ok => (match mapT X.P T, ρ x with
      | some (kt, et), .mp k => (match s.obj k with
          | some (.map kτ _ es) => if kτ = ty X.P kt ∧ eqOk X.P kt = true ∧ zeroB X.P et = true ∧ (ρ i).isData kτ then
              ekLook es (ρ i).toC (fun r => K (if ok then .tup [r.getD (zeroX (ty X.P et)), .d .bool (.bool r.isSome)] else r.getD (zeroX (ty X.P et))) [] []) else none
          | _ => none)
      | _, _ => none)
  | .call c => (match c.callee with
      | .value _ => none
      | .builtin .append => (match c.args.toList, c.argTypes.toList with
          | [x, y], [t, t'] => ekAppend X.P m dst s t t' (ρ x) (ρ y) K
          | _, _ => none)
      | .builtin .len => (match c.args.toList, c.argTypes.toList with
          | [x], [T] => (match ρ x with
              | .mp k => ekLenM X.P s T k fun v => K v [] []
              | _ => ekPv X.P o.op ρ fun v => K v [] [])
          | _, _ => ekPv X.P o.op ρ fun v => K v [] [])
      | _ => ekPv X.P o.op ρ fun v => K v [] [])
  | .convert src dst' x => (match strOf X.P s src dst' (ρ x) with
      | some ys => K (.d .str (.str (ys.map byteC))) [] []
      | none => ekPv X.P o.op ρ fun v => K v [] [])
  | _ => ekPv X.P o.op ρ fun v => K v [] []
theorem ekAppend_ok {P : Program} {md : List (Nat × Nat)} {m dst : Nat} (hm : modeOf md dst = m) {s : S} {A' : Key → Option O} (hA : leA s.A A') {t t' : TypeId} {x y : V} {R : Type} {r : R} {Kr : K3 R} {K : V → List (Key × O) → List (Nat × Option Nat) → Prop} :
    ekAppend P m dst s t t' x y Kr = some r → (∀ v lo tn, Kr v lo tn = some r → K v lo tn) → zeroB P (elemT P t) = true ∧ (match ty P t, x with
              | .slice eb e, .emp _ _ => srcK P (s.wA A') t' eb e y fun ys => if modeOf md dst = 3 then ys ≠ [] ∧ K (.sr (.l dst) [] 0 ys.length none eb e) [(.l dst, .box (.d (.arr ys.length e) (.agg ys)))] [] else K (.sl eb e ys dst) [] [(dst, some ys.length)]
              | .slice eb e, .nilc => srcK P (s.wA A') t' eb e y fun ys => if modeOf md dst = 3 then ys ≠ [] ∧ K (.sr (.l dst) [] 0 ys.length none eb e) [(.l dst, .box (.d (.arr ys.length e) (.agg ys)))] [] else K (.sl eb e ys dst) [] [(dst, some ys.length)]
              | _, _ => False) := by
  intro h hK
  unfold ekAppend at h
  simp only [Option.ite_none_right_eq_some] at h
  obtain ⟨h0, h⟩ := h
  refine ⟨h0, ?_⟩
  generalize ty P t = τ at h ⊢
  cases τ <;> (try (cases h; done))
  cases x <;> (try (cases h; done)) <;> simp only at h ⊢ <;>
    (refine ekSrc_ok hA h fun ys h => ?_
     split at h
     · rename_i hm3
       rw [if_pos (hm.trans hm3)]
       simp only [Option.ite_none_right_eq_some] at h
       obtain ⟨h1, h⟩ := h
       exact ⟨by intro e1; subst e1; simp at h1, hK _ _ _ h⟩
     · rename_i hm3
       rw [if_neg (by rw [hm]; exact hm3)]
       exact hK _ _ _ h)
theorem ekI_ok {X : Cx} {md : List (Nat × Nat)} {m dst : Nat} (hm : modeOf md dst = m) {o : Oper} {ρ : Operand → V} {s base : S} {A' : Key → Option O} (hA : leA s.A A') {R : Type} {r : R} {Kr : K3 R} {K : V → List (Key × O) → List (Nat × Option Nat) → Prop} (h : ekI X m dst o ρ s Kr = some r) (hK : ∀ v lo tn, Kr v lo tn = some r → K v lo tn) :
    iop X md base dst o ρ (s.wA A') K := by
  unfold ekI at h
  unfold iop
  generalize o.op = op at h ⊢
  split at h
  · split at h
    · rename_i e0
      simp only [e0]
      split at h
      · rename_i e1
        simp only [obj_wA hA e1]
        simp only [Option.ite_none_right_eq_some] at h
        obtain ⟨h1, h⟩ := h
        exact ⟨V.isAny_false h1.1, h1.2.1, h1.2.2, hK _ _ _ h⟩
      · cases h
    · rename_i e0
      simp only [e0]
      simp only [Option.ite_none_right_eq_some] at h
      obtain ⟨h1, h⟩ := h
      exact ⟨h1.1, h1.2, hK _ _ _ h⟩
    · cases h
  · simp only [Option.ite_none_right_eq_some] at h
    obtain ⟨h1, h⟩ := h
    exact ⟨h1, hK _ _ _ h⟩
  · dsimp only
    split at h
    · rename_i hm5
      rw [if_pos (hm.trans hm5)]
      simp only [Option.ite_none_right_eq_some] at h
      obtain ⟨h1, h⟩ := h
      split at h
      · rename_i cc hcc
        rw [hcc]
        exact ⟨h1, hK _ _ _ h⟩
      · cases h
    · rename_i hm5
      rw [if_neg (by rw [hm]; exact hm5)]
      simp only [Option.ite_none_right_eq_some] at h
      obtain ⟨h1, h⟩ := h
      exact ⟨h1.1, h1.2, hK _ _ _ h⟩
  · rename_i t len parts
    dsimp only
    generalize ty X.P t = τ at h ⊢
    cases τ <;> (try (cases h; done))
    cases len with
    | zero =>
      simp only [Option.ite_none_right_eq_some] at h
      obtain ⟨h1, h⟩ := h
      exact ⟨h1, hK _ _ _ h⟩
    | succ len =>
      simp only [Option.ite_none_right_eq_some] at h
      obtain ⟨h1, h⟩ := h
      refine ⟨h1.1, h1.2.1, h1.2.2.1, h1.2.2.2.1, h1.2.2.2.2, ?_⟩
      split at h
      · rename_i e0
        rw [e0]
        simp only [Option.ite_none_right_eq_some] at h
        obtain ⟨h2, h⟩ := h
        refine ⟨fun x hx => ?_, ?_⟩
        · have := List.all_eq_true.1 h2 x hx
          simpa using this
        · rw [hm]
          split at h
          · rename_i e4; rw [if_pos e4]; exact hK _ _ _ h
          · rename_i e4; rw [if_neg e4]; exact hK _ _ _ h
      · cases h
  · simp only [Option.ite_none_right_eq_some] at h
    obtain ⟨h1, h⟩ := h
    exact ⟨h1.1, h1.2.1, h1.2.2.1, buildB_ok h1.2.2.2, hK _ _ _ h⟩
  · rename_i t _ _
    dsimp only
    generalize ty X.P t = τ at h ⊢
    cases τ <;> (try (cases h; done))
    simp only [Option.ite_none_right_eq_some] at h
    obtain ⟨h1, h⟩ := h
    obtain ⟨h2, h⟩ := h
    exact ⟨h1.1, h1.2.1, h1.2.2.1, h2.1, h2.2.1, h2.2.2.1, h2.2.2.2, h1.2.2.2, hK _ _ _ h⟩
  · split at h
    · rename_i e0
      simp only [e0]
      exact hK _ _ _ h
    · cases h
  · split at h
    · rename_i e0 e1
      simp only [e0, e1]
      split at h
      · rename_i e2
        simp only [obj_wA hA e2]
        simp only [Option.ite_none_right_eq_some] at h
        obtain ⟨h1, h⟩ := h
        refine ⟨h1.1, h1.2.1, h1.2.2.1, h1.2.2.2, ?_⟩
        exact hK _ _ _ (ekLook_ok h)
      · cases h
    · cases h
  · split at h
    · cases h
    · rename_i e0
      simp only [e0]
      split at h
      · rename_i e1 e2
        simp only [e1, e2]
        exact ekAppend_ok hm hA h hK
      · cases h
    · rename_i e0
      simp only [e0]
      split at h
      · rename_i e1 e2
        simp only [e1, e2]
        split at h
        · rename_i e3
          simp only [e3]
          unfold ekLenM at h
          split at h
          · rename_i e4 e5
            simp only [Option.ite_none_right_eq_some] at h
            obtain ⟨h2, h⟩ := h
            simp only [e4, obj_wA hA e5]
            exact ⟨h2, hK _ _ _ h⟩
          · cases h
        · rename_i hx
          split
          · rename_i k hk
            exact (hx k hk).elim
          · exact ekPv_ok h (fun v h => hK _ _ _ h)
      · rename_i hx
        split
        · rename_i a b hk hk2
          exact (hx _ _ hk hk2).elim
        · exact ekPv_ok h (fun v h => hK _ _ _ h)
    · rename_i h1 h2 h3
      dsimp only
      split
      · rename_i e; exact (h1 _ e).elim
      · rename_i e; exact (h2 e).elim
      · rename_i e; exact (h3 e).elim
      · exact ekPv_ok h (fun v h => hK _ _ _ h)
  · split at h
    · rename_i e0
      simp only [strOf_wA hA e0]
      exact hK _ _ _ h
    · have hp := ekPv_ok (K := fun y => K y [] []) h (fun v h => hK _ _ _ h)
      dsimp only
      split
      · rename_i e1
        exact (strOf_noConv (K := fun y => K y [] []) e1 hp).elim
      · exact hp
  · split <;> first
      | exact ekPv_ok h (fun v h => hK _ _ _ h)
      | (rename_i hx; exact (hx _ rfl).elim)
      | (rename_i hx _; exact (hx _ _ rfl).elim)
      | (rename_i hx _ _ _ _; exact (hx _ _ _ _ rfl).elim)
      | (rename_i hx _ _ _ _ _; exact (hx _ _ _ _ rfl).elim)
      | (exfalso; simp [ekPv] at h; done)
      | simp_all

end Go.E
