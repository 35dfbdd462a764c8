/-
  What the functions on the way compute, part 2.
  Conditions: none.
-/
import Derived.Test.YtocikigkaboleaaDoorKa
set_option linter.all false
namespace Go.Proofs.YtocikigkaboleaaDoor
open Go Go.E
/-- What holds of the pools that are made here. -/
structure PoolOk (pool : List C) : Prop where
  wf : ∀ t ∈ pool, C.wf tTx t
  rule : ∀ t ∈ pool, (t.get 9).elems.length ≤ 300
  conds : ∀ t ∈ pool, (((t.get 10).get 0).get 4).elems.length ≤ 12
  len : pool.length ≤ 60
theorem subP_mem {n : Nat} {least : C} {pool : List C} {t x : C} (h : x ∈ subP n least pool t) : x ∈ pool ∨ x = t := by
  unfold subP at h
  split at h
  · simpa using h
  · exact .inl h
theorem subP_len (n : Nat) (least : C) (pool : List C) (t : C) : (subP n least pool t).length ≤ pool.length + 1 := by
  unfold subP
  split <;> simp
theorem poolF_props (least : C) (Q : C → Prop) : ∀ (l : List C) (i : Nat) (pool : List C), (∀ t ∈ l, ∀ j, ¬ greatC j t → Q t) → (∀ t ∈ pool, Q t) → pool.length ≤ i → i ≤ 60 →
    (∀ t ∈ poolF least l i pool, Q t) ∧ (poolF least l i pool).length ≤ 60
  | [], i, pool, _, h2, h3, h4 => by simp only [poolF]; exact ⟨h2, by omega⟩
  | t :: ts, i, pool, h1, h2, h3, h4 => by
    simp only [poolF]
    split
    · exact ⟨h2, by omega⟩
    · rename_i hg
      have : i < 60 := by unfold greatC at hg; omega
      refine poolF_props least Q ts (i + 1) _ (fun x hx => h1 x (by simp [hx])) (fun x hx => ?_) ?_ (by omega)
      · rcases subP_mem hx with h | h
        · exact h2 x h
        · subst h; exact h1 x (by simp) i hg
      · have := subP_len 4 least pool t
        omega
theorem poolOk {least : C} {l : List C} (hw : ∀ t ∈ poolF least l 0 [], C.wf tTx t) : PoolOk (poolF least l 0 []) := by
  have h := poolF_props least (fun t => (t.get 9).elems.length ≤ 300 ∧ (((t.get 10).get 0).get 4).elems.length ≤ 12) l 0 [] (fun t _ j hg => by unfold greatC at hg; omega) (fun t ht => by simp at ht) (by simp) (by omega)
  exact ⟨hw, fun t ht => (h.1 t ht).1, fun t ht => (h.1 t ht).2, h.2⟩
section
variable {pool : List C} (O : PoolOk pool)
include O
theorem weight_range {t : C} (ht : t ∈ pool) : 1 ≤ weightC t ∧ weightC t ≤ 29 := by
  have h1 := O.rule t ht
  have h2 := O.conds t ht
  unfold weightC wt
  split
  · omega
  · rename_i h
    have : 1 ≤ (weights.getD (t.get 0).toInt.toNat .nil).toInt := by
      have h3 : (t.get 0).toInt.toNat < 8 := by omega
      generalize (t.get 0).toInt.toNat = i at h3
      match i, h3 with
      | 0, _ | 1, _ | 2, _ | 3, _ | 4, _ | 5, _ | 6, _ | 7, _ => decide
    have h4 := (weights_range (t.get 0).toInt).2
    have h5 : (t.get 9).elems.length / 32 ≤ 9 := by omega
    omega
theorem pays_range {t : C} (ht : t ∈ pool) : 0 ≤ paysC t ∧ paysC t ≤ 1099511627776 := by
  have hf := C.wf_kid (i := 3) (f := .int .u64) (O.wf t ht) rfl rfl rfl
  have : 0 ≤ (t.get 3).toInt := by
    have := hf.2.1
    simpa [IntKind.min, IntKind.signed] using this
  unfold paysC
  split <;> omega
theorem prod_wrap {a b : C} (ha : a ∈ pool) (hb : b ∈ pool) : IntKind.u64.wrap (paysC a * IntKind.u64.wrap (weightC b)) = paysC a * weightC b := by
  obtain ⟨w1, w2⟩ := weight_range O hb
  obtain ⟨p1, p2⟩ := pays_range O ha
  rw [IntWalk.u64_in (weightC b) (by omega)]
  have h1 : 0 ≤ paysC a * weightC b := Int.mul_nonneg p1 (by omega)
  have h2 : paysC a * weightC b ≤ 1099511627776 * 29 := Int.mul_le_mul p2 w2 (by omega) (by omega)
  exact IntWalk.u64_in _ (by omega)
theorem better_eq {a b : C} (ha : a ∈ pool) (hb : b ∈ pool) : betterC a b = decide (paysC b * weightC a < paysC a * weightC b) := by
  unfold betterC
  rw [prod_wrap O ha hb, prod_wrap O hb ha]
theorem better_trans {a b c : C} (ha : a ∈ pool) (hb : b ∈ pool) (hc : c ∈ pool) (h1 : paysC c * weightC b ≤ paysC b * weightC c) (h2 : paysC b * weightC a < paysC a * weightC b) : paysC c * weightC a < paysC a * weightC c := by
  have wa := (weight_range O ha).1
  have wb := (weight_range O hb).1
  have wc := (weight_range O hc).1
  have e1 : paysC c * weightC b * weightC a ≤ paysC b * weightC c * weightC a := Int.mul_le_mul_of_nonneg_right h1 (by omega)
  have e2 : paysC b * weightC a * weightC c < paysC a * weightC b * weightC c := Int.mul_lt_mul_of_pos_right h2 (by omega)
  have e3 : paysC b * weightC c * weightC a = paysC b * weightC a * weightC c := by rw [Int.mul_assoc, Int.mul_comm (weightC c), ← Int.mul_assoc]
  have e4 : paysC c * weightC b * weightC a = paysC c * weightC a * weightC b := by rw [Int.mul_assoc, Int.mul_comm (weightC b), ← Int.mul_assoc]
  have e5 : paysC a * weightC b * weightC c = paysC a * weightC c * weightC b := by rw [Int.mul_assoc, Int.mul_comm (weightC b), ← Int.mul_assoc]
  refine Int.lt_of_mul_lt_mul_right (a := weightC b) ?_ (by omega)
  omega
/-- What a search for the best one has found so far. -/
def Found (pool : List C) (sk : Nat → Bool) (i : Nat) (best : Int) : Prop :=
  (best < 0 ∧ ∀ j, j < i → sk j = true) ∨ ∃ b : Nat, best = b ∧ b < i ∧ sk b = false ∧ ∀ j, j < i → sk j = false →
    paysC (pool.getD j .nil) * weightC (pool.getD b .nil) ≤ paysC (pool.getD b .nil) * weightC (pool.getD j .nil) ∧ (j < b → paysC (pool.getD j .nil) * weightC (pool.getD b .nil) < paysC (pool.getD b .nil) * weightC (pool.getD j .nil))
omit O in
theorem getD_mem' {i : Nat} (h : i < pool.length) : pool.getD i .nil ∈ pool := by
  rw [List.getD_eq_getElem?_getD, List.getElem?_eq_getElem h]
  exact List.getElem_mem h
theorem scan_found (out : List C) (nx : C → C) (room : Int) : ∀ (ts : List C) (i : Nat) (best : Int), ts = pool.drop i → Found pool (fun j => skipC out nx room j (pool.getD j .nil)) i best → i ≤ pool.length →
    Found pool (fun j => skipC out nx room j (pool.getD j .nil)) pool.length (scanC pool out nx room ts i best)
  | [], i, best, h, hF, hi => by
    have : i = pool.length := by
      have := congrArg List.length h
      simp at this
      omega
    subst this
    exact hF
  | t :: ts, i, best, h, hF, hi => by
    have hlt : i < pool.length := by
      have := congrArg List.length h
      simp at this
      omega
    have ht : t = pool.getD i .nil := by
      rw [List.drop_eq_getElem_cons hlt] at h
      cases h
      simp [hlt]
    have hts : ts = pool.drop (i + 1) := by
      rw [List.drop_eq_getElem_cons hlt] at h
      cases h
      rfl
    simp only [scanC]
    refine scan_found out nx room ts (i + 1) _ hts ?_ hlt
    subst ht
    cases hsk : skipC out nx room i (pool.getD i .nil) with
    | true =>
      simp only [cond_true]
      rcases hF with ⟨h1, h2⟩ | ⟨b, rfl, h1, h2, h3⟩
      · refine .inl ⟨h1, fun j hj => ?_⟩
        by_cases e : j = i
        · subst e; exact hsk
        · exact h2 j (by omega)
      · refine .inr ⟨b, rfl, by omega, h2, fun j hj hs => ?_⟩
        by_cases e : j = i
        · subst e; exact absurd (hs.symm.trans hsk) Bool.false_ne_true
        · exact h3 j (by omega) hs
    | false =>
      simp only [cond_false]
      rcases hF with ⟨h1, h2⟩ | ⟨b, rfl, h1, h2, h3⟩
      · have : (decide (best < 0) || betterC (pool.getD i .nil) (pool.getD best.toNat .nil)) = true := by simp [h1]
        rw [this]
        refine .inr ⟨i, rfl, by omega, hsk, fun j hj hs => ?_⟩
        by_cases e : j = i
        · subst e; exact ⟨Int.le_refl _, fun h => by omega⟩
        · exact absurd (hs.symm.trans (h2 j (by omega))) Bool.false_ne_true
      · have hbl : b < pool.length := by omega
        have hb0 : decide ((b : Int) < 0) = false := by simp
        rw [hb0, Bool.false_or, Int.toNat_natCast, better_eq O (getD_mem' hlt) (getD_mem' hbl)]
        by_cases hbt : paysC (pool.getD b .nil) * weightC (pool.getD i .nil) < paysC (pool.getD i .nil) * weightC (pool.getD b .nil)
        · rw [decide_eq_true hbt]
          refine .inr ⟨i, rfl, by omega, hsk, fun j hj hs => ?_⟩
          by_cases e : j = i
          · subst e; exact ⟨Int.le_refl _, fun h => by omega⟩
          · have h4 := (h3 j (by omega) hs).1
            have h5 := better_trans O (getD_mem' hlt) (getD_mem' hbl) (getD_mem' (show j < pool.length by omega)) h4 hbt
            exact ⟨by omega, fun _ => h5⟩
        · rw [decide_eq_false hbt]
          refine .inr ⟨b, rfl, by omega, h2, fun j hj hs => ?_⟩
          by_cases e : j = i
          · subst e; exact ⟨by omega, fun h => by omega⟩
          · exact h3 j (by omega) hs
theorem scan_best (out : List C) (nx : C → C) (room : Int) : Found pool (fun j => skipC out nx room j (pool.getD j .nil)) pool.length (scanC pool out nx room pool 0 (-1)) :=
  scan_found O out nx room pool 0 (-1) (by simp) (.inl ⟨by omega, fun j hj => by omega⟩) (Nat.zero_le _)
end
/-- The weights of some of the orders. -/
def sumIf (p : Nat → Bool) : List C → Nat → Int
  | [], _ => 0
  | t :: ts, i => (bif p i then weightC t else 0) + sumIf p ts (i + 1)
theorem sumIf_le {p q : Nat → Bool} : ∀ (l : List C) (i : Nat), (∀ t ∈ l, 0 ≤ weightC t) → (∀ j, p j = true → q j = true) → sumIf p l i ≤ sumIf q l i
  | [], i, _, _ => by simp [sumIf]
  | t :: ts, i, h1, h2 => by
    have ih := sumIf_le ts (i + 1) (fun x hx => h1 x (by simp [hx])) h2
    have := h1 t (by simp)
    simp only [sumIf]
    cases hp : p i with
    | true => rw [h2 i hp]; simp only [cond_true]; omega
    | false => cases hq : q i <;> simp only [cond_true, cond_false] <;> omega
theorem sumIf_same {p q : Nat → Bool} : ∀ (l : List C) (i : Nat), (∀ j, i ≤ j → p j = q j) → sumIf p l i = sumIf q l i
  | [], i, _ => rfl
  | t :: ts, i, h => by
    simp only [sumIf]
    rw [h i (Nat.le_refl _), sumIf_same ts (i + 1) fun j hj => h j (by omega)]
theorem sumIf_add {p q : Nat → Bool} {r : Nat} (hq : ∀ j, q j = (p j || j == r)) (hp : p r = false) : ∀ (l : List C) (i : Nat), i ≤ r → r < i + l.length → sumIf q l i = sumIf p l i + weightC (l.getD (r - i) .nil)
  | [], i, h1, h2 => by simp at h2; omega
  | t :: ts, i, h1, h2 => by
    simp only [sumIf]
    by_cases e : r = i
    · subst e
      have : q r = true := by rw [hq]; simp
      rw [this, hp, sumIf_same (p := q) (q := p) ts (r + 1) fun j hj => by rw [hq]; simp; omega]
      simp only [cond_true, cond_false, Nat.sub_self, List.getD_cons_zero]
      omega
    · have e1 : q i = p i := by rw [hq]; simp; omega
      rw [e1, sumIf_add hq hp ts (i + 1) (by omega) (by simp at h2; omega), show r - i = (r - (i + 1)) + 1 by omega, List.getD_cons_succ]
      omega
theorem sumIf_bound {p : Nat → Bool} : ∀ (l : List C) (i : Nat), (∀ t ∈ l, 0 ≤ weightC t ∧ weightC t ≤ 29) → 0 ≤ sumIf p l i ∧ sumIf p l i ≤ 29 * l.length
  | [], i, _ => by simp [sumIf]
  | t :: ts, i, h => by
    have ih := sumIf_bound (p := p) ts (i + 1) (fun x hx => h x (by simp [hx]))
    have := h t (by simp)
    simp only [sumIf, List.length_cons]
    cases p i <;> simp only [cond_true, cond_false] <;> omega
/-- Which numbers are picked. -/
def inB (out : List C) (j : Nat) : Bool := decide (0 ≤ findI out j 0)
theorem nexts_at (n : Nat) (next : List C) : ∀ (l : List C) (nx : C → C) (t : C), t ∈ l ∨ nx (t.get 1) = nextC n next (t.get 1).toInt → nexts n next l nx (t.get 1) = nextC n next (t.get 1).toInt
  | [], nx, t, h => by simpa [nexts] using h
  | x :: xs, nx, t, h => by
    simp only [nexts]
    refine nexts_at n next xs _ t ?_
    by_cases e : t.get 1 = x.get 1
    · right
      unfold updC
      rw [if_pos (C.eqb_iff.2 e), e]
    · rcases h with h | h
      · rcases List.mem_cons.1 h with rfl | h
        · exact absurd rfl e
        · exact .inl h
      · right
        unfold updC
        rw [if_neg (fun h => e (C.eqb_iff.1 h))]
        exact h
theorem pickC_prefix (pool : List C) : ∀ (f : Nat) (out : List C) (nx : C → C) (room : Int), ∃ rest, pickC pool f out nx room = out ++ rest
  | 0, out, nx, room => ⟨[], by simp [pickC]⟩
  | f + 1, out, nx, room => by
    simp only [pickC]
    split
    · exact ⟨[], by simp⟩
    · obtain ⟨rest, h⟩ := pickC_prefix pool f _ _ _
      rw [h]
      exact ⟨_, by rw [List.append_assoc]⟩
/-- What is so all along. -/
structure PickInv (pool : List C) (nx0 : C → C) (room0 : Int) (out : List C) (nx : C → C) (room : Int) : Prop where
  hroom : room = room0 - sumIf (inB out) pool 0
  hleast : 0 ≤ room
  acc : ∀ a, nx a = nx0 a ∨ ∃ j : Nat, j < pool.length ∧ inB out j = true ∧ (pool.getD j .nil).get 1 = a ∧ ((pool.getD j .nil).get 2).toInt = (nx0 a).toInt
theorem pickC_end {pool : List C} (O : PoolOk pool) {nx0 : C → C} {room0 : Int} (hr0 : room0 ≤ 2000) : ∀ (f : Nat) (out : List C) (nx : C → C) (room : Int), pool.length < f + countC pool.length out → PickInv pool nx0 room0 out nx room →
    ∃ nx' room', PickInv pool nx0 room0 (pickC pool f out nx room) nx' room' ∧ ∀ j, j < pool.length → skipC (pickC pool f out nx room) nx' room' j (pool.getD j .nil) = true
  | 0, out, nx, room, hf, I => by
    have := countC_le pool.length out
    omega
  | f + 1, out, nx, room, hf, I => by
    simp only [pickC]
    rcases scan_best O out nx room with ⟨h1, h2⟩ | ⟨b, h0, h1, h2, _⟩
    · rw [if_pos h1]
      exact ⟨nx, room, I, h2⟩
    · rw [if_neg (by omega), h0, Int.toNat_natCast]
      have hbm : pool.getD b .nil ∈ pool := getD_mem' h1
      obtain ⟨w1, w2⟩ := weight_range O hbm
      simp only [skipC, Bool.or_eq_false_iff, decide_eq_false_iff_not, Bool.not_eq_false', decide_eq_true_eq] at h2
      obtain ⟨h3, h4, h5⟩ := h2
      have hq : ∀ j, inB (out ++ [.int b]) j = (inB out j || j == b) := by
        intro j
        rw [Bool.eq_iff_iff]
        simp only [inB, Bool.or_eq_true, decide_eq_true_eq, beq_iff_eq, findI_append]
        omega
      have hpb : inB out b = false := by simp only [inB, decide_eq_false_iff_not]; exact h3
      have hs := sumIf_add hq hpb pool 0 (Nat.zero_le _) (by omega)
      rw [Nat.sub_zero] at hs
      have hI := I.hroom
      have hl := I.hleast
      have ewr : IntKind.i64.wrap (room - weightC (pool.getD b .nil)) = room - weightC (pool.getD b .nil) := by
        have hb := sumIf_bound (p := inB out) pool 0 (fun t ht => ⟨by have := (weight_range O ht).1; omega, (weight_range O ht).2⟩)
        exact IntWalk.i64_in _ (by omega)
      refine pickC_end O hr0 f _ _ _ ?_ ⟨by rw [ewr, hs, hI]; omega, by rw [ewr]; omega, fun a => ?_⟩
      · have := countC_more (m := pool.length) (out := out) (b := (b : Int)) (by omega) (by omega) (by omega)
        omega
      · have mono : ∀ j, inB out j = true → inB (out ++ [.int b]) j = true := fun j hj => by rw [hq, hj]; rfl
        by_cases e : a = (pool.getD b .nil).get 1
        · rcases I.acc a with h | ⟨j, j1, j2, j3, j4⟩
          · refine .inr ⟨b, h1, by rw [hq]; simp, e.symm, ?_⟩
            rw [h4, ← e, h]
          · exact .inr ⟨j, j1, mono j j2, j3, j4⟩
        · rcases I.acc a with h | ⟨j, j1, j2, j3, j4⟩
          · left
            unfold updC
            rw [if_neg (fun h => e (C.eqb_iff.1 h))]
            exact h
          · exact .inr ⟨j, j1, mono j j2, j3, j4⟩
section
variable {pool : List C} (O : PoolOk pool) {next : List C} {n : Nat} {room : Int}
/-- The picks. -/
noncomputable def picks (n : Nat) (next pool : List C) (room : Int) : List C := pickC pool (pool.length + 1) [] (nexts n next pool (fun _ => .int 0)) room
include O
/-- No order that could have been picked first pays better than the one that was. -/
theorem law_first {i : Nat} (hi : i < pool.length) (hn : ((pool.getD i .nil).get 2).toInt = (nextC n next ((pool.getD i .nil).get 1).toInt).toInt) (hw : ¬ room < weightC (pool.getD i .nil)) :
    ∃ (b : Nat) (rest : List C), picks n next pool room = .int b :: rest ∧ b < pool.length ∧
      paysC (pool.getD i .nil) * weightC (pool.getD b .nil) ≤ paysC (pool.getD b .nil) * weightC (pool.getD i .nil) ∧
      (i < b → paysC (pool.getD i .nil) * weightC (pool.getD b .nil) < paysC (pool.getD b .nil) * weightC (pool.getD i .nil)) := by
  have hsk : skipC [] (nexts n next pool (fun _ => .int 0)) room i (pool.getD i .nil) = false := by
    simp only [skipC, findI]
    rw [nexts_at n next pool _ _ (.inl (getD_mem' hi)), hn]
    rw [decide_eq_true rfl, decide_eq_false hw]
    rfl
  unfold picks
  simp only [pickC]
  rcases scan_best O [] (nexts n next pool (fun _ => .int 0)) room with ⟨h1, h2⟩ | ⟨b, h0, h1, h2, h3⟩
  · exact absurd (hsk.symm.trans (h2 i hi)) Bool.false_ne_true
  · rw [if_neg (by omega), h0]
    obtain ⟨rest, hr⟩ := pickC_prefix pool pool.length ([] ++ [.int b]) (updC (nexts n next pool (fun _ => .int 0)) ((pool.getD (b : Int).toNat .nil).get 1) (.int (IntKind.u64.wrap ((nexts n next pool (fun _ => .int 0) ((pool.getD (b : Int).toNat .nil).get 1)).toInt + 1)))) (IntKind.i64.wrap (room - weightC (pool.getD (b : Int).toNat .nil)))
    exact ⟨b, rest, hr, h1, h3 i hi hsk⟩
/-- With room for all, whoever is next by number is picked, or one like it. -/
theorem law_all (hr : 0 ≤ room ∧ room ≤ 2000) (hall : sumIf (fun _ => true) pool 0 ≤ room) {i : Nat} (hi : i < pool.length) (hn : ((pool.getD i .nil).get 2).toInt = (nextC n next ((pool.getD i .nil).get 1).toInt).toInt) (hin : inB (picks n next pool room) i = false) :
    ∃ j, j < pool.length ∧ j ≠ i ∧ (pool.getD j .nil).get 1 = (pool.getD i .nil).get 1 ∧ ((pool.getD j .nil).get 2).toInt = ((pool.getD i .nil).get 2).toInt := by
  have s0 : sumIf (inB []) pool 0 = 0 := by
    have : ∀ (l : List C) (i : Nat), sumIf (inB []) l i = 0 := by
      intro l
      induction l with
      | nil => intro i; rfl
      | cons t ts ih => intro i; simp only [sumIf, ih, inB, findI]; simp
    exact this pool 0
  obtain ⟨nx', room', I, hs⟩ := pickC_end O hr.2 (pool.length + 1) [] (nexts n next pool (fun _ => .int 0)) room (by omega) ⟨by rw [s0]; omega, hr.1, fun a => .inl rfl⟩
  have h1 := hs i hi
  have I1 := I.hroom
  have hin' : inB (pickC pool (pool.length + 1) [] (nexts n next pool (fun _ => .int 0)) room) i = false := hin
  have h2 := sumIf_add (p := inB (pickC pool (pool.length + 1) [] (nexts n next pool (fun _ => .int 0)) room)) (q := fun j => inB (pickC pool (pool.length + 1) [] (nexts n next pool (fun _ => .int 0)) room) j || j == i) (fun j => rfl) hin' pool 0 (Nat.zero_le _) (by omega)
  have h3 := sumIf_le (p := fun j => inB (pickC pool (pool.length + 1) [] (nexts n next pool (fun _ => .int 0)) room) j || j == i) (q := fun _ => true) pool 0 (fun t ht => by have := (weight_range O ht).1; omega) (fun _ _ => rfl)
  rw [Nat.sub_zero] at h2
  have hw : ¬ room' < weightC (pool.getD i .nil) := by omega
  simp only [skipC, Bool.or_eq_true, decide_eq_true_eq, Bool.not_eq_true', decide_eq_false_iff_not] at h1
  have hnin : ¬ (0 : Int) ≤ findI (pickC pool (pool.length + 1) [] (nexts n next pool (fun _ => .int 0)) room) i 0 := by
    simpa only [inB, decide_eq_false_iff_not] using hin'
  have hne : ¬ ((pool.getD i .nil).get 2).toInt = (nx' ((pool.getD i .nil).get 1)).toInt := by
    rcases h1 with h1 | h1 | h1
    · exact absurd h1 hnin
    · exact h1
    · exact absurd h1 hw
  rcases I.acc ((pool.getD i .nil).get 1) with h | ⟨j, j1, j2, j3, j4⟩
  · rw [h, nexts_at n next pool _ _ (.inl (getD_mem' hi))] at hne
    exact absurd hn hne
  · refine ⟨j, j1, fun e => ?_, j3, ?_⟩
    · subst e; rw [hin'] at j2; cases j2
    · rw [j4, nexts_at n next pool _ _ (.inl (getD_mem' hi)), hn]
end
end Go.Proofs.YtocikigkaboleaaDoor

namespace Go.Proofs.YtocikigkaboleaaDoor
open Go Go.E
set_option maxRecDepth 10000
set_option maxHeartbeats 4000000
set_option linter.unusedSimpArgs false
variable {gl : Nat → Option (Ty × C)}
/-- An order with a number and a fee alone. -/
def txC (a b : Int) : C := .agg [.int 0, .int 0, .int a, .int b, .int 0, .int 0, .int 0, zeroC (.arr 32 (.int .u8)), .agg [zeroC (.arr 2 (.arr 32 (.int .u8))), .int 0], .slice [], .agg [.agg [.int 0, .int 0, zeroC (.arr 2 (.int .u64)), zeroC (.arr 2 (.int .u64)), .slice []], zeroC (.arr 2 tSig2)]]
theorem txC_weight (a b : Int) : weightC (txC a b) = 1 := by
  simp [weightC, wt, txC, C.get, C.elems, C.toInt, weights]
theorem txC_from (a b : Int) : (txC a b).get 1 = .int 0 := rfl
theorem txC_nonce (a b : Int) : (txC a b).get 2 = .int a := rfl
theorem txC_fee (a b : Int) : (txC a b).get 3 = .int b := rfl
theorem toInt_int (a : Int) : (C.int a).toInt = a := rfl
theorem wrap_in {a : Int} (h : 0 ≤ a ∧ a ≤ 100) : IntKind.u64.wrap a = a := IntWalk.u64_in _ (by omega)
theorem wrap_ii {a : Int} (h : 0 ≤ a ∧ a ≤ 100) : IntKind.i64.wrap a = a := IntWalk.i64_in _ (by omega)
theorem upd_same (nx : C → C) (c v : C) : updC nx c v c = v := by unfold updC; rw [if_pos (C.eqb_refl c)]
theorem awake_picks : picks 2 [.int 0, .int 0] [txC 1 5, txC 0 1] 9 = [.int 1, .int 0] := by
  have w1 : IntKind.u64.wrap 1 = 1 := by decide
  have w2 : IntKind.u64.wrap 2 = 2 := by decide
  have w3 : IntKind.i64.wrap 8 = 8 := by decide
  have w4 : IntKind.i64.wrap 7 = 7 := by decide
  unfold picks
  simp only [List.length_cons, List.length_nil, pickC, scanC, skipC, findI, nexts, txC_from, txC_nonce, txC_weight, toInt_int, upd_same, nextC]
  simp [toInt_int, upd_same, txC_from, txC_nonce, txC_weight, findI, w1, w2, w3, w4]
theorem txC_fold (a b : Int) : C.agg [.int 0, .int 0, .int a, .int b, .int 0, .int 0, .int 0, zeroC (.arr 32 (.int .u8)), .agg [zeroC (.arr 2 (.arr 32 (.int .u8))), .int 0], .slice [], .agg [.agg [.int 0, .int 0, zeroC (.arr 2 (.int .u64)), zeroC (.arr 2 (.int .u64)), .slice []], zeroC (.arr 2 tSig2)]] = txC a b := rfl
theorem sub1 : subP 2 (.int 0) [] (txC 1 5) = [txC 1 5] := by
  simp [subP, subE, txC_from, txC_fee, toInt_int]
theorem sub2 : subP 2 (.int 0) [txC 1 5] (txC 0 1) = [txC 1 5, txC 0 1] := by
  simp [subP, subE, txC_from, txC_fee, toInt_int]
theorem awake_Pick (hg : GW gl) {A : Key → Option O} (T : CourtAt A (.l 7023) (.l 21023) (.l 40007) (.l 21021) (.l 28003) 2 none (some 2) [.int 9, .int 0] [.int 0, .int 0] (.int 0) (.int 0) (.int 0) [] [txC 1 5, txC 0 1] []) :
    DCalls (X0 gl) 6 [.ptr (.g (.l 7023)) [] tCourt, .d (.int .i64) (.int 9)] A (.ts 8 (.int .i64) [.int 1, .int 0]) [] := by
  have h := picker_Pick hg T 9
  rwa [show pickC [txC 1 5, txC 0 1] ([txC 1 5, txC 0 1].length + 1) [] (nexts 2 [.int 0, .int 0] [txC 1 5, txC 0 1] (fun _ => .int 0)) 9 = [.int 1, .int 0] from awake_picks] at h
theorem awake (hg : GW gl) (A : Key → Option O) : DCalls (X0 gl) 9 [] A (.d .bool (.bool true)) [] := by
  refine dcalls_intro (n := 34) (ok0 gl) Tryd.func9 rfl rfl (by simp) ?_
  intro A' hA
  refine dc_seq (dc_region (ok0 gl) [] (by kernel_rfl) ?_)
  simp only [go_sem, ↓gx_tt, ↓gx_tf, ↓gx_ft, ↓gx_ff, ↓gx_u2, ↓gk_tt, ↓gk_tf, ↓gk_ff, ↓gk_ft, reduceCtorEq, Nat.reduceEqDiff, ↓reduceIte, Nat.reduceAdd, Nat.reduceSub, Nat.reduceLT, Nat.reduceMul, Nat.reduceBEq, Int.reduceLE, Int.reduceLT, Int.reduceAdd, Int.reduceSub, Int.reduceToNat, Int.reduceNeg, Int.reduceMul, Nat.reduceLeDiff]
  refine dc_seq (dc_region (ok0 gl) [] (by kernel_rfl) (vc_n [()] ?_))
  simp only [go_sem, ↓gx_tt, ↓gx_tf, ↓gx_ft, ↓gx_ff, ↓gx_u2, ↓gk_tt, ↓gk_tf, ↓gk_ff, ↓gk_ft, reduceCtorEq, Nat.reduceEqDiff, ↓reduceIte, Nat.reduceAdd, Nat.reduceSub, Nat.reduceLT, Nat.reduceMul, Nat.reduceBEq, Int.reduceLE, Int.reduceLT, Int.reduceAdd, Int.reduceSub, Int.reduceToNat, Int.reduceNeg, Int.reduceMul, Nat.reduceLeDiff]
  refine ⟨rfl, fun y hy => by simp at hy; rcases hy with rfl | rfl <;> exact ⟨rfl, rfl⟩, ?_⟩
  refine vcR_op [(), (), (), (), (), (), (), (), ()] rfl ?_
  refine vcO_call _ (court_New _ [.int 9, .int 0] (.int 0) (by decide) (by decide) 9 (by decide)) rfl (by simp only [go_sem]) rfl ?_ ?_ ?_ ?_ ?_ <;> simp only [go_sem, ↓gx_tt, ↓gx_tf, ↓gx_ft, ↓gx_ff, ↓gx_u2, ↓gk_tt, ↓gk_tf, ↓gk_ff, ↓gk_ft, reduceCtorEq, Nat.reduceEqDiff, ↓reduceIte, Nat.reduceAdd, Nat.reduceSub, Nat.reduceLT, Nat.reduceMul, Nat.reduceBEq, Int.reduceLE, Int.reduceLT, Int.reduceAdd, Int.reduceSub, Int.reduceToNat, Int.reduceNeg, Int.reduceMul, Nat.reduceLeDiff, courtL]
  refine dc_seq (dc_seq (dc_region (ok0 gl) [] (by kernel_rfl) ?_))
  simp only [go_sem, ↓gx_tt, ↓gx_tf, ↓gx_ft, ↓gx_ff, ↓gx_u2, ↓gk_tt, ↓gk_tf, ↓gk_ff, ↓gk_ft, reduceCtorEq, Nat.reduceEqDiff, ↓reduceIte, Nat.reduceAdd, Nat.reduceSub, Nat.reduceLT, Nat.reduceMul, Nat.reduceBEq, Int.reduceLE, Int.reduceLT, Int.reduceAdd, Int.reduceSub, Int.reduceToNat, Int.reduceNeg, Int.reduceMul, Nat.reduceLeDiff]
  refine dc_cond _ rfl (fun h => by simp at h) (fun _ => dc_skip ?_)
  refine dc_seq (dc_region (ok0 gl) [] (by kernel_rfl) (vc_n [(), ()] ?_))
  simp only [go_sem, ↓gx_tt, ↓gx_tf, ↓gx_ft, ↓gx_ff, ↓gx_u2, ↓gk_tt, ↓gk_tf, ↓gk_ff, ↓gk_ft, reduceCtorEq, Nat.reduceEqDiff, ↓reduceIte, Nat.reduceAdd, Nat.reduceSub, Nat.reduceLT, Nat.reduceMul, Nat.reduceBEq, Int.reduceLE, Int.reduceLT, Int.reduceAdd, Int.reduceSub, Int.reduceToNat, Int.reduceNeg, Int.reduceMul, Nat.reduceLeDiff]
  refine vcR_op [(), (), (), (), (), (), (), (), ()] rfl ?_
  refine vcO_call _ (court_Submit (⟨by simp only [go_sem, ↓gx_tt, ↓gx_tf, ↓gx_ft, ↓gx_ff, ↓gx_u2, ↓gk_tt, ↓gk_tf, ↓gk_ff, ↓gk_ft, reduceCtorEq, Nat.reduceEqDiff, ↓reduceIte, Nat.reduceAdd, Nat.reduceSub, Nat.reduceLT, Nat.reduceMul, Nat.reduceBEq, Int.reduceLE, Int.reduceLT, Int.reduceAdd, Int.reduceSub, Int.reduceToNat, Int.reduceNeg, Int.reduceMul, Nat.reduceLeDiff], ⟨by simp only [go_sem, ↓gx_tt, ↓gx_tf, ↓gx_ft, ↓gx_ff, ↓gx_u2, ↓gk_tt, ↓gk_tf, ↓gk_ff, ↓gk_ft, reduceCtorEq, Nat.reduceEqDiff, ↓reduceIte, Nat.reduceAdd, Nat.reduceSub, Nat.reduceLT, Nat.reduceMul, Nat.reduceBEq, Int.reduceLE, Int.reduceLT, Int.reduceAdd, Int.reduceSub, Int.reduceToNat, Int.reduceNeg, Int.reduceMul, Nat.reduceLeDiff], by simp only [go_sem, ↓gx_tt, ↓gx_tf, ↓gx_ft, ↓gx_ff, ↓gx_u2, ↓gk_tt, ↓gk_tf, ↓gk_ff, ↓gk_ft, reduceCtorEq, Nat.reduceEqDiff, ↓reduceIte, Nat.reduceAdd, Nat.reduceSub, Nat.reduceLT, Nat.reduceMul, Nat.reduceBEq, Int.reduceLE, Int.reduceLT, Int.reduceAdd, Int.reduceSub, Int.reduceToNat, Int.reduceNeg, Int.reduceMul, Nat.reduceLeDiff], by simp only [go_sem, ↓gx_tt, ↓gx_tf, ↓gx_ft, ↓gx_ff, ↓gx_u2, ↓gk_tt, ↓gk_tf, ↓gk_ff, ↓gk_ft, reduceCtorEq, Nat.reduceEqDiff, ↓reduceIte, Nat.reduceAdd, Nat.reduceSub, Nat.reduceLT, Nat.reduceMul, Nat.reduceBEq, Int.reduceLE, Int.reduceLT, Int.reduceAdd, Int.reduceSub, Int.reduceToNat, Int.reduceNeg, Int.reduceMul, Nat.reduceLeDiff]⟩⟩ : CourtAt _ (.l 7023) (.l 21023) (.l 40007) (.l 21021) (.l 28003) 2 none (some 2) [.int 9, .int 0] [.int 0, .int 0] (.int 0) (.int 0) (.int 0) [] [] []) (by decide) (txC 1 5)) rfl (by simp only [go_sem]) rfl ?_ ?_ ?_ ?_ ?_ <;> simp only [go_sem, ↓gx_tt, ↓gx_tf, ↓gx_ft, ↓gx_ff, ↓gx_u2, ↓gk_tt, ↓gk_tf, ↓gk_ff, ↓gk_ft, reduceCtorEq, Nat.reduceEqDiff, ↓reduceIte, Nat.reduceAdd, Nat.reduceSub, Nat.reduceLT, Nat.reduceMul, Nat.reduceBEq, Int.reduceLE, Int.reduceLT, Int.reduceAdd, Int.reduceSub, Int.reduceToNat, Int.reduceNeg, Int.reduceMul, Nat.reduceLeDiff, txC_fold, sub1]
  refine dc_seq (dc_region (ok0 gl) [] (by kernel_rfl) (vc_n [(), ()] ?_))
  simp only [go_sem, ↓gx_tt, ↓gx_tf, ↓gx_ft, ↓gx_ff, ↓gx_u2, ↓gk_tt, ↓gk_tf, ↓gk_ff, ↓gk_ft, reduceCtorEq, Nat.reduceEqDiff, ↓reduceIte, Nat.reduceAdd, Nat.reduceSub, Nat.reduceLT, Nat.reduceMul, Nat.reduceBEq, Int.reduceLE, Int.reduceLT, Int.reduceAdd, Int.reduceSub, Int.reduceToNat, Int.reduceNeg, Int.reduceMul, Nat.reduceLeDiff]
  refine vcR_op [(), (), (), (), (), (), (), (), ()] rfl ?_
  refine vcO_call _ (court_Submit (⟨by simp only [go_sem, ↓gx_tt, ↓gx_tf, ↓gx_ft, ↓gx_ff, ↓gx_u2, ↓gk_tt, ↓gk_tf, ↓gk_ff, ↓gk_ft, reduceCtorEq, Nat.reduceEqDiff, ↓reduceIte, Nat.reduceAdd, Nat.reduceSub, Nat.reduceLT, Nat.reduceMul, Nat.reduceBEq, Int.reduceLE, Int.reduceLT, Int.reduceAdd, Int.reduceSub, Int.reduceToNat, Int.reduceNeg, Int.reduceMul, Nat.reduceLeDiff], ⟨by simp only [go_sem, ↓gx_tt, ↓gx_tf, ↓gx_ft, ↓gx_ff, ↓gx_u2, ↓gk_tt, ↓gk_tf, ↓gk_ff, ↓gk_ft, reduceCtorEq, Nat.reduceEqDiff, ↓reduceIte, Nat.reduceAdd, Nat.reduceSub, Nat.reduceLT, Nat.reduceMul, Nat.reduceBEq, Int.reduceLE, Int.reduceLT, Int.reduceAdd, Int.reduceSub, Int.reduceToNat, Int.reduceNeg, Int.reduceMul, Nat.reduceLeDiff], by simp only [go_sem, ↓gx_tt, ↓gx_tf, ↓gx_ft, ↓gx_ff, ↓gx_u2, ↓gk_tt, ↓gk_tf, ↓gk_ff, ↓gk_ft, reduceCtorEq, Nat.reduceEqDiff, ↓reduceIte, Nat.reduceAdd, Nat.reduceSub, Nat.reduceLT, Nat.reduceMul, Nat.reduceBEq, Int.reduceLE, Int.reduceLT, Int.reduceAdd, Int.reduceSub, Int.reduceToNat, Int.reduceNeg, Int.reduceMul, Nat.reduceLeDiff], by simp only [go_sem, ↓gx_tt, ↓gx_tf, ↓gx_ft, ↓gx_ff, ↓gx_u2, ↓gk_tt, ↓gk_tf, ↓gk_ff, ↓gk_ft, reduceCtorEq, Nat.reduceEqDiff, ↓reduceIte, Nat.reduceAdd, Nat.reduceSub, Nat.reduceLT, Nat.reduceMul, Nat.reduceBEq, Int.reduceLE, Int.reduceLT, Int.reduceAdd, Int.reduceSub, Int.reduceToNat, Int.reduceNeg, Int.reduceMul, Nat.reduceLeDiff]⟩⟩ : CourtAt _ (.l 7023) (.l 21023) (.l 40007) (.l 21021) (.l 28003) 2 none (some 2) [.int 9, .int 0] [.int 0, .int 0] (.int 0) (.int 0) (.int 0) [] [txC 1 5] []) (by decide) (txC 0 1)) rfl (by simp only [go_sem]) rfl ?_ ?_ ?_ ?_ ?_ <;> simp only [go_sem, ↓gx_tt, ↓gx_tf, ↓gx_ft, ↓gx_ff, ↓gx_u2, ↓gk_tt, ↓gk_tf, ↓gk_ff, ↓gk_ft, reduceCtorEq, Nat.reduceEqDiff, ↓reduceIte, Nat.reduceAdd, Nat.reduceSub, Nat.reduceLT, Nat.reduceMul, Nat.reduceBEq, Int.reduceLE, Int.reduceLT, Int.reduceAdd, Int.reduceSub, Int.reduceToNat, Int.reduceNeg, Int.reduceMul, Nat.reduceLeDiff, txC_fold, sub2]
  refine dc_seq (dc_region (ok0 gl) [] (by kernel_rfl) (vc_n [()] ?_))
  simp only [go_sem, ↓gx_tt, ↓gx_tf, ↓gx_ft, ↓gx_ff, ↓gx_u2, ↓gk_tt, ↓gk_tf, ↓gk_ff, ↓gk_ft, reduceCtorEq, Nat.reduceEqDiff, ↓reduceIte, Nat.reduceAdd, Nat.reduceSub, Nat.reduceLT, Nat.reduceMul, Nat.reduceBEq, Int.reduceLE, Int.reduceLT, Int.reduceAdd, Int.reduceSub, Int.reduceToNat, Int.reduceNeg, Int.reduceMul, Nat.reduceLeDiff]
  refine vcR_op [(), (), (), (), (), (), (), (), ()] rfl ?_
  refine vcO_call _ (awake_Pick hg ⟨by simp only [go_sem, ↓gx_tt, ↓gx_tf, ↓gx_ft, ↓gx_ff, ↓gx_u2, ↓gk_tt, ↓gk_tf, ↓gk_ff, ↓gk_ft, reduceCtorEq, Nat.reduceEqDiff, ↓reduceIte, Nat.reduceAdd, Nat.reduceSub, Nat.reduceLT, Nat.reduceMul, Nat.reduceBEq, Int.reduceLE, Int.reduceLT, Int.reduceAdd, Int.reduceSub, Int.reduceToNat, Int.reduceNeg, Int.reduceMul, Nat.reduceLeDiff], ⟨by simp only [go_sem, ↓gx_tt, ↓gx_tf, ↓gx_ft, ↓gx_ff, ↓gx_u2, ↓gk_tt, ↓gk_tf, ↓gk_ff, ↓gk_ft, reduceCtorEq, Nat.reduceEqDiff, ↓reduceIte, Nat.reduceAdd, Nat.reduceSub, Nat.reduceLT, Nat.reduceMul, Nat.reduceBEq, Int.reduceLE, Int.reduceLT, Int.reduceAdd, Int.reduceSub, Int.reduceToNat, Int.reduceNeg, Int.reduceMul, Nat.reduceLeDiff], by simp only [go_sem, ↓gx_tt, ↓gx_tf, ↓gx_ft, ↓gx_ff, ↓gx_u2, ↓gk_tt, ↓gk_tf, ↓gk_ff, ↓gk_ft, reduceCtorEq, Nat.reduceEqDiff, ↓reduceIte, Nat.reduceAdd, Nat.reduceSub, Nat.reduceLT, Nat.reduceMul, Nat.reduceBEq, Int.reduceLE, Int.reduceLT, Int.reduceAdd, Int.reduceSub, Int.reduceToNat, Int.reduceNeg, Int.reduceMul, Nat.reduceLeDiff], by simp only [go_sem, ↓gx_tt, ↓gx_tf, ↓gx_ft, ↓gx_ff, ↓gx_u2, ↓gk_tt, ↓gk_tf, ↓gk_ff, ↓gk_ft, reduceCtorEq, Nat.reduceEqDiff, ↓reduceIte, Nat.reduceAdd, Nat.reduceSub, Nat.reduceLT, Nat.reduceMul, Nat.reduceBEq, Int.reduceLE, Int.reduceLT, Int.reduceAdd, Int.reduceSub, Int.reduceToNat, Int.reduceNeg, Int.reduceMul, Nat.reduceLeDiff]⟩⟩) rfl (by simp only [go_sem]) rfl ?_ ?_ ?_ ?_ ?_ <;> simp only [go_sem, ↓gx_tt, ↓gx_tf, ↓gx_ft, ↓gx_ff, ↓gx_u2, ↓gk_tt, ↓gk_tf, ↓gk_ff, ↓gk_ft, reduceCtorEq, Nat.reduceEqDiff, ↓reduceIte, Nat.reduceAdd, Nat.reduceSub, Nat.reduceLT, Nat.reduceMul, Nat.reduceBEq, Int.reduceLE, Int.reduceLT, Int.reduceAdd, Int.reduceSub, Int.reduceToNat, Int.reduceNeg, Int.reduceMul, Nat.reduceLeDiff]
  have z2 : ((2 : Nat) : Int) = 2 := rfl
  refine dc_seq (dc_region (ok0 gl) [] (by kernel_rfl) ?_)
  simp only [go_sem, ↓gx_tt, ↓gx_tf, ↓gx_ft, ↓gx_ff, ↓gx_u2, ↓gk_tt, ↓gk_tf, ↓gk_ff, ↓gk_ft, reduceCtorEq, Nat.reduceEqDiff, ↓reduceIte, Nat.reduceAdd, Nat.reduceSub, Nat.reduceLT, Nat.reduceMul, Nat.reduceBEq, Int.reduceLE, Int.reduceLT, Int.reduceAdd, Int.reduceSub, Int.reduceToNat, Int.reduceNeg, Int.reduceMul, Nat.reduceLeDiff, z2]
  refine dc_ret ⟨.inr rfl, ?_⟩
  simp only [retOk, go_sem, ↓gx_tt, ↓gx_tf, ↓gx_ft, ↓gx_ff, ↓gx_u2, ↓gk_tt, ↓gk_tf, ↓gk_ff, ↓gk_ft, reduceCtorEq, Nat.reduceEqDiff, ↓reduceIte, Nat.reduceAdd, Nat.reduceSub, Nat.reduceLT, Nat.reduceMul, Nat.reduceBEq, Int.reduceLE, Int.reduceLT, Int.reduceAdd, Int.reduceSub, Int.reduceToNat, Int.reduceNeg, Int.reduceMul, Nat.reduceLeDiff, Tryd.f9] <;> try rfl
end Go.Proofs.YtocikigkaboleaaDoor

namespace Go.Proofs.YtocikigkaboleaaDoor
open Go Go.E
set_option maxRecDepth 10000
set_option maxHeartbeats 8000000
set_option linter.unusedSimpArgs false
variable {gl : Nat → Option (Ty × C)}
/-- The court's objects, as the law has them. -/
def bestL (pool : List C) : List (Key × O) := [
  (.l 45023, .box (.agg tCourt [.ptr (.l 59023) [] tTill, .ptr (.l 66003) [] tNotary2, .d (.int .u64) (.int 0), .d (.int .u64) (.int 0), .ts 240 tBond [], .ts 2368 tTx pool, .ts 40 tEvent []])),
  (.l 66003, .box (.agg tNotary2 [.mp (.l 66001)])), (.l 66001, .map (.arr 32 (.int .u8)) tEntry2 []),
  (.l 59023, .box (.agg tTill [.sr (.l 78007) [] 0 4 none 8 (.int .u64), .sr (.l 59021) [] 0 4 (some 4) 8 (.int .u64), .d (.int .u64) (.int 0)])),
  (.l 59021, .box (.d (.arr 4 (.int .u64)) (.agg [.int 0, .int 0, .int 0, .int 0]))), (.l 78007, .box (.d (.arr 4 (.int .u64)) (.agg [.int 100, .int 100, .int 100, .int 0])))]
/-- The slots that are needed all along. -/
def bestE (pool P : List C) (rm : Int) : List (Nat × V) := [(8, .d (.slice 8 (.int .i64)) (.slice P)), (7, .d (.slice 2368 tTx) (.slice pool)), (5, .ptr (.l 45023) [] tCourt), (1, .d (.int .i64) (.int rm))]
theorem room_range (r : Int) : 0 ≤ IntKind.i64.wrap ((IntKind.u64.wrap r).tmod 2000) ∧ IntKind.i64.wrap ((IntKind.u64.wrap r).tmod 2000) < 2000 := by
  have h : 0 ≤ IntKind.u64.wrap r := by rw [IntKind.wrap_u64]; omega
  rw [Int.tmod_eq_emod_of_nonneg h, IntWalk.i64_in _ (by omega)]
  omega
/-- Is a number among those that are picked? -/
def anyI (cs : List C) (x : Int) : Bool := cs.any fun c => decide (c.toInt = x)
theorem anyI_take {cs : List C} {k : Nat} (x : Int) (h : k < cs.length) : anyI (cs.take (k + 1)) x = (anyI (cs.take k) x || decide ((cs.getD k .nil).toInt = x)) := by
  unfold anyI
  rw [← take_snoc cs h, List.any_append]
  simp
theorem anyI_in (cs : List C) (i : Nat) : anyI cs i = inB cs i := by
  unfold anyI inB
  rw [Bool.eq_iff_iff, decide_eq_true_eq, findI_nonneg _ _ _ (Int.le_refl _)]
  simp only [List.any_eq_true, decide_eq_true_eq]
  constructor
  · rintro ⟨c, h1, h2⟩; exact ⟨c, h1, h2.symm⟩
  · rintro ⟨c, h1, h2⟩; exact ⟨c, h1, h2.symm⟩
/-- Is there one like it among the first k? -/
def twinB (pool : List C) (i : Nat) : Nat → Bool
  | 0 => false
  | k + 1 => twinB pool i k || (!decide (k = i) && (decide (((pool.getD k .nil).get 1).toInt = ((pool.getD i .nil).get 1).toInt) && decide (((pool.getD k .nil).get 2).toInt = ((pool.getD i .nil).get 2).toInt)))
theorem twinB_of {pool : List C} {i j : Nat} (h1 : j ≠ i) (h2 : ((pool.getD j .nil).get 1).toInt = ((pool.getD i .nil).get 1).toInt) (h3 : ((pool.getD j .nil).get 2).toInt = ((pool.getD i .nil).get 2).toInt) : ∀ {k : Nat}, j < k → twinB pool i k = true
  | 0, h => by omega
  | k + 1, h => by
    simp only [twinB]
    by_cases e : j = k
    · subst e
      rw [decide_eq_false h1, decide_eq_true h2, decide_eq_true h3]
      simp
    · rw [twinB_of h1 h2 h3 (show j < k by omega), Bool.true_or]
theorem sumIf_drop {pool : List C} {i : Nat} (h : i < pool.length) : sumIf (fun _ => true) (pool.drop i) i = weightC (pool.getD i .nil) + sumIf (fun _ => true) (pool.drop (i + 1)) (i + 1) := by
  rw [List.drop_eq_getElem_cons h]
  simp only [sumIf, cond_true, List.getD_eq_getElem?_getD, List.getElem?_eq_getElem h, Option.getD_some]
theorem run_PickerBest (hg : GW gl) (l room : C) : DCalls (X0 gl) 3 [.d (.slice 2368 tTx) l, .d (.int .i64) room] (fun _ => none) (.d .bool (.bool true)) [] := by
  obtain ⟨tb, hpool⟩ := pooled gl
  refine dcalls_intro (n := 195) (ok0 gl) Tryd.func3 rfl rfl (by simp) ?_
  intro A' hA
  refine dc_facts fun W => ?_
  obtain ⟨cs, rfl⟩ : ∃ cs, l = .slice cs := ⟨_, (C.slice_eta (W.at (t := 0) rfl)).symm⟩
  obtain ⟨r, rfl⟩ : ∃ r, room = .int r := ⟨_, (W.at (t := 1) rfl).1⟩
  clear W
  refine dc_seq (dc_region (ok0 gl) [] (by kernel_rfl) ?_)
  simp only [go_sem, ↓gx_tt, ↓gx_tf, ↓gx_ft, ↓gx_ff, ↓gx_u2, ↓gk_tt, ↓gk_tf, ↓gk_ff, ↓gk_ft, reduceCtorEq, Nat.reduceEqDiff, ↓reduceIte, Nat.reduceAdd, Nat.reduceSub, Nat.reduceLT, Nat.reduceMul, Nat.reduceBEq, Int.reduceLE, Int.reduceLT, Int.reduceAdd, Int.reduceSub, Int.reduceToNat, Int.reduceNeg, Int.reduceMul, Nat.reduceLeDiff]
  refine dc_seq (dc_region (ok0 gl) [] (by kernel_rfl) (vc_n [()] ?_))
  simp only [go_sem, ↓gx_tt, ↓gx_tf, ↓gx_ft, ↓gx_ff, ↓gx_u2, ↓gk_tt, ↓gk_tf, ↓gk_ff, ↓gk_ft, reduceCtorEq, Nat.reduceEqDiff, ↓reduceIte, Nat.reduceAdd, Nat.reduceSub, Nat.reduceLT, Nat.reduceMul, Nat.reduceBEq, Int.reduceLE, Int.reduceLT, Int.reduceAdd, Int.reduceSub, Int.reduceToNat, Int.reduceNeg, Int.reduceMul, Nat.reduceLeDiff]
  refine vcR_op [(), (), (), (), (), (), (), (), ()] rfl ?_
  refine vcO_call _ (hpool _ (.int 0) cs) rfl (by simp only [go_sem]) rfl ?_ ?_ ?_ ?_ ?_ <;> simp only [go_sem, ↓gx_tt, ↓gx_tf, ↓gx_ft, ↓gx_ff, ↓gx_u2, ↓gk_tt, ↓gk_tf, ↓gk_ff, ↓gk_ft, reduceCtorEq, Nat.reduceEqDiff, ↓reduceIte, Nat.reduceAdd, Nat.reduceSub, Nat.reduceLT, Nat.reduceMul, Nat.reduceBEq, Int.reduceLE, Int.reduceLT, Int.reduceAdd, Int.reduceSub, Int.reduceToNat, Int.reduceNeg, Int.reduceMul, Nat.reduceLeDiff, poolL]
  refine dc_seq (dc_seq (dc_region (ok0 gl) [] (by kernel_rfl) ?_))
  simp only [go_sem, ↓gx_tt, ↓gx_tf, ↓gx_ft, ↓gx_ff, ↓gx_u2, ↓gk_tt, ↓gk_tf, ↓gk_ff, ↓gk_ft, reduceCtorEq, Nat.reduceEqDiff, ↓reduceIte, Nat.reduceAdd, Nat.reduceSub, Nat.reduceLT, Nat.reduceMul, Nat.reduceBEq, Int.reduceLE, Int.reduceLT, Int.reduceAdd, Int.reduceSub, Int.reduceToNat, Int.reduceNeg, Int.reduceMul, Nat.reduceLeDiff]
  refine dc_cond _ rfl (fun h => by simp at h) (fun _ => dc_skip ?_)
  refine dc_seq (dc_region (ok0 gl) [] (by kernel_rfl) ?_)
  simp only [go_sem, ↓gx_tt, ↓gx_tf, ↓gx_ft, ↓gx_ff, ↓gx_u2, ↓gk_tt, ↓gk_tf, ↓gk_ff, ↓gk_ft, reduceCtorEq, Nat.reduceEqDiff, ↓reduceIte, Nat.reduceAdd, Nat.reduceSub, Nat.reduceLT, Nat.reduceMul, Nat.reduceBEq, Int.reduceLE, Int.reduceLT, Int.reduceAdd, Int.reduceSub, Int.reduceToNat, Int.reduceNeg, Int.reduceMul, Nat.reduceLeDiff]
  refine ⟨by decide, ?_⟩
  obtain ⟨hr0, hr1⟩ := room_range r
  generalize IntKind.i64.wrap ((IntKind.u64.wrap r).tmod 2000) = rm at hr0 hr1 ⊢
  generalize hpe : poolF (.int 0) cs 0 [] = pool
  refine DC.weak (s' := ⟨[(5, .ptr (.l 45023) [] tCourt), (1, .d (.int .i64) (.int rm))], bestL pool, A', []⟩) ?_ ?_
  · refine weak_to rfl ?_ ?_ ?_ ?_ ?_ <;> simp only [go_sem, ↓gx_tt, ↓gx_tf, ↓gx_ft, ↓gx_ff, ↓gx_u2, ↓gk_tt, ↓gk_tf, ↓gk_ff, ↓gk_ft, reduceCtorEq, Nat.reduceEqDiff, ↓reduceIte, Nat.reduceAdd, Nat.reduceSub, Nat.reduceLT, Nat.reduceMul, Nat.reduceBEq, Int.reduceLE, Int.reduceLT, Int.reduceAdd, Int.reduceSub, Int.reduceToNat, Int.reduceNeg, Int.reduceMul, Nat.reduceLeDiff, bestL]
  unfold bestL
  refine dc_seq (dc_region (ok0 gl) [] (by kernel_rfl) (vc_n [()] ?_))
  simp only [go_sem, ↓gx_tt, ↓gx_tf, ↓gx_ft, ↓gx_ff, ↓gx_u2, ↓gk_tt, ↓gk_tf, ↓gk_ff, ↓gk_ft, reduceCtorEq, Nat.reduceEqDiff, ↓reduceIte, Nat.reduceAdd, Nat.reduceSub, Nat.reduceLT, Nat.reduceMul, Nat.reduceBEq, Int.reduceLE, Int.reduceLT, Int.reduceAdd, Int.reduceSub, Int.reduceToNat, Int.reduceNeg, Int.reduceMul, Nat.reduceLeDiff]
  refine vcR_op [(), (), (), (), (), (), (), (), ()] rfl ?_
  refine vcO_call _ (court_Pool (⟨by simp only [go_sem, ↓gx_tt, ↓gx_tf, ↓gx_ft, ↓gx_ff, ↓gx_u2, ↓gk_tt, ↓gk_tf, ↓gk_ff, ↓gk_ft, reduceCtorEq, Nat.reduceEqDiff, ↓reduceIte, Nat.reduceAdd, Nat.reduceSub, Nat.reduceLT, Nat.reduceMul, Nat.reduceBEq, Int.reduceLE, Int.reduceLT, Int.reduceAdd, Int.reduceSub, Int.reduceToNat, Int.reduceNeg, Int.reduceMul, Nat.reduceLeDiff], ⟨by simp only [go_sem, ↓gx_tt, ↓gx_tf, ↓gx_ft, ↓gx_ff, ↓gx_u2, ↓gk_tt, ↓gk_tf, ↓gk_ff, ↓gk_ft, reduceCtorEq, Nat.reduceEqDiff, ↓reduceIte, Nat.reduceAdd, Nat.reduceSub, Nat.reduceLT, Nat.reduceMul, Nat.reduceBEq, Int.reduceLE, Int.reduceLT, Int.reduceAdd, Int.reduceSub, Int.reduceToNat, Int.reduceNeg, Int.reduceMul, Nat.reduceLeDiff], by simp only [go_sem, ↓gx_tt, ↓gx_tf, ↓gx_ft, ↓gx_ff, ↓gx_u2, ↓gk_tt, ↓gk_tf, ↓gk_ff, ↓gk_ft, reduceCtorEq, Nat.reduceEqDiff, ↓reduceIte, Nat.reduceAdd, Nat.reduceSub, Nat.reduceLT, Nat.reduceMul, Nat.reduceBEq, Int.reduceLE, Int.reduceLT, Int.reduceAdd, Int.reduceSub, Int.reduceToNat, Int.reduceNeg, Int.reduceMul, Nat.reduceLeDiff], by simp only [go_sem, ↓gx_tt, ↓gx_tf, ↓gx_ft, ↓gx_ff, ↓gx_u2, ↓gk_tt, ↓gk_tf, ↓gk_ff, ↓gk_ft, reduceCtorEq, Nat.reduceEqDiff, ↓reduceIte, Nat.reduceAdd, Nat.reduceSub, Nat.reduceLT, Nat.reduceMul, Nat.reduceBEq, Int.reduceLE, Int.reduceLT, Int.reduceAdd, Int.reduceSub, Int.reduceToNat, Int.reduceNeg, Int.reduceMul, Nat.reduceLeDiff]⟩⟩ : Court4 _ (.l 45023) (.l 59023) (.l 78007) (.l 59021) (.l 66003) (.int 0) pool)) rfl (by simp only [go_sem]) rfl ?_ ?_ ?_ ?_ ?_ <;> simp only [go_sem, ↓gx_tt, ↓gx_tf, ↓gx_ft, ↓gx_ff, ↓gx_u2, ↓gk_tt, ↓gk_tf, ↓gk_ff, ↓gk_ft, reduceCtorEq, Nat.reduceEqDiff, ↓reduceIte, Nat.reduceAdd, Nat.reduceSub, Nat.reduceLT, Nat.reduceMul, Nat.reduceBEq, Int.reduceLE, Int.reduceLT, Int.reduceAdd, Int.reduceSub, Int.reduceToNat, Int.reduceNeg, Int.reduceMul, Nat.reduceLeDiff]
  refine dc_seq (dc_region (ok0 gl) [] (by kernel_rfl) (vc_n [(), ()] ?_))
  simp only [go_sem, ↓gx_tt, ↓gx_tf, ↓gx_ft, ↓gx_ff, ↓gx_u2, ↓gk_tt, ↓gk_tf, ↓gk_ff, ↓gk_ft, reduceCtorEq, Nat.reduceEqDiff, ↓reduceIte, Nat.reduceAdd, Nat.reduceSub, Nat.reduceLT, Nat.reduceMul, Nat.reduceBEq, Int.reduceLE, Int.reduceLT, Int.reduceAdd, Int.reduceSub, Int.reduceToNat, Int.reduceNeg, Int.reduceMul, Nat.reduceLeDiff]
  refine vcR_op [(), (), (), (), (), (), (), (), ()] rfl ?_
  refine vcO_call _ (picker_Pick hg (⟨by simp only [go_sem, ↓gx_tt, ↓gx_tf, ↓gx_ft, ↓gx_ff, ↓gx_u2, ↓gk_tt, ↓gk_tf, ↓gk_ff, ↓gk_ft, reduceCtorEq, Nat.reduceEqDiff, ↓reduceIte, Nat.reduceAdd, Nat.reduceSub, Nat.reduceLT, Nat.reduceMul, Nat.reduceBEq, Int.reduceLE, Int.reduceLT, Int.reduceAdd, Int.reduceSub, Int.reduceToNat, Int.reduceNeg, Int.reduceMul, Nat.reduceLeDiff], ⟨by simp only [go_sem, ↓gx_tt, ↓gx_tf, ↓gx_ft, ↓gx_ff, ↓gx_u2, ↓gk_tt, ↓gk_tf, ↓gk_ff, ↓gk_ft, reduceCtorEq, Nat.reduceEqDiff, ↓reduceIte, Nat.reduceAdd, Nat.reduceSub, Nat.reduceLT, Nat.reduceMul, Nat.reduceBEq, Int.reduceLE, Int.reduceLT, Int.reduceAdd, Int.reduceSub, Int.reduceToNat, Int.reduceNeg, Int.reduceMul, Nat.reduceLeDiff], by simp only [go_sem, ↓gx_tt, ↓gx_tf, ↓gx_ft, ↓gx_ff, ↓gx_u2, ↓gk_tt, ↓gk_tf, ↓gk_ff, ↓gk_ft, reduceCtorEq, Nat.reduceEqDiff, ↓reduceIte, Nat.reduceAdd, Nat.reduceSub, Nat.reduceLT, Nat.reduceMul, Nat.reduceBEq, Int.reduceLE, Int.reduceLT, Int.reduceAdd, Int.reduceSub, Int.reduceToNat, Int.reduceNeg, Int.reduceMul, Nat.reduceLeDiff], by simp only [go_sem, ↓gx_tt, ↓gx_tf, ↓gx_ft, ↓gx_ff, ↓gx_u2, ↓gk_tt, ↓gk_tf, ↓gk_ff, ↓gk_ft, reduceCtorEq, Nat.reduceEqDiff, ↓reduceIte, Nat.reduceAdd, Nat.reduceSub, Nat.reduceLT, Nat.reduceMul, Nat.reduceBEq, Int.reduceLE, Int.reduceLT, Int.reduceAdd, Int.reduceSub, Int.reduceToNat, Int.reduceNeg, Int.reduceMul, Nat.reduceLeDiff]⟩⟩ : Court4 _ (.l 45023) (.l 59023) (.l 78007) (.l 59021) (.l 66003) (.int 0) pool) rm) rfl (by simp only [go_sem]) rfl ?_ ?_ ?_ ?_ ?_ <;> simp only [go_sem, ↓gx_tt, ↓gx_tf, ↓gx_ft, ↓gx_ff, ↓gx_u2, ↓gk_tt, ↓gk_tf, ↓gk_ff, ↓gk_ft, reduceCtorEq, Nat.reduceEqDiff, ↓reduceIte, Nat.reduceAdd, Nat.reduceSub, Nat.reduceLT, Nat.reduceMul, Nat.reduceBEq, Int.reduceLE, Int.reduceLT, Int.reduceAdd, Int.reduceSub, Int.reduceToNat, Int.reduceNeg, Int.reduceMul, Nat.reduceLeDiff]
  generalize hP : pickC pool (pool.length + 1) [] (nexts 4 [.int 0, .int 0, .int 0, .int 0] pool (fun _ => .int 0)) rm = P
  have hP' : picks 4 [.int 0, .int 0, .int 0, .int 0] pool rm = P := hP
  refine DC.weak (s' := ⟨bestE pool P rm, bestL pool, A', []⟩) ?_ ?_
  · refine weak_to rfl ?_ ?_ ?_ ?_ ?_ <;> simp only [go_sem, ↓gx_tt, ↓gx_tf, ↓gx_ft, ↓gx_ff, ↓gx_u2, ↓gk_tt, ↓gk_tf, ↓gk_ff, ↓gk_ft, reduceCtorEq, Nat.reduceEqDiff, ↓reduceIte, Nat.reduceAdd, Nat.reduceSub, Nat.reduceLT, Nat.reduceMul, Nat.reduceBEq, Int.reduceLE, Int.reduceLT, Int.reduceAdd, Int.reduceSub, Int.reduceToNat, Int.reduceNeg, Int.reduceMul, Nat.reduceLeDiff, bestE, bestL]
  refine dc_facts fun W => ?_
  have hpw : C.wf (.slice 2368 tTx) (.slice pool) := W.at (t := 7) rfl
  have hPw : C.wf (.slice 8 (.int .i64)) (.slice P) := W.at (t := 8) rfl
  clear W
  have O : PoolOk pool := by subst hpe; exact poolOk hpw.2.2.2
  have hpl := O.len
  have hPl : P.length ≤ 9223372036854775807 := hPw.2.2.1
  unfold bestE bestL
  refine dc_seq (dc_seq (dc_region (ok0 gl) [] (by kernel_rfl) ?_))
  simp only [go_sem, ↓gx_tt, ↓gx_tf, ↓gx_ft, ↓gx_ff, ↓gx_u2, ↓gk_tt, ↓gk_tf, ↓gk_ff, ↓gk_ft, reduceCtorEq, Nat.reduceEqDiff, ↓reduceIte, Nat.reduceAdd, Nat.reduceSub, Nat.reduceLT, Nat.reduceMul, Nat.reduceBEq, Int.reduceLE, Int.reduceLT, Int.reduceAdd, Int.reduceSub, Int.reduceToNat, Int.reduceNeg, Int.reduceMul, Nat.reduceLeDiff]
  refine dc_block (dc_count (fun i => ⟨(42, .d (.int .i64) (.int i)) :: (41, .d (.int .i64) (.int pool.length)) :: (40, .d (.slice 2368 tTx) (.slice pool)) :: bestE pool P rm, bestL pool, A', []⟩) pool.length (fun _ => True) ?_ trivial ?_)
  · refine weak_to rfl ?_ ?_ ?_ ?_ ?_ <;> simp only [go_sem, ↓gx_tt, ↓gx_tf, ↓gx_ft, ↓gx_ff, ↓gx_u2, ↓gk_tt, ↓gk_tf, ↓gk_ff, ↓gk_ft, reduceCtorEq, Nat.reduceEqDiff, ↓reduceIte, Nat.reduceAdd, Nat.reduceSub, Nat.reduceLT, Nat.reduceMul, Nat.reduceBEq, Int.reduceLE, Int.reduceLT, Int.reduceAdd, Int.reduceSub, Int.reduceToNat, Int.reduceNeg, Int.reduceMul, Nat.reduceLeDiff, bestE, bestL]
    rfl
  · intro i hi _
    unfold bestE bestL
    refine dc_seq (dc_region (ok0 gl) [] (by kernel_rfl) ?_)
    simp only [go_sem, ↓gx_tt, ↓gx_tf, ↓gx_ft, ↓gx_ff, ↓gx_u2, ↓gk_tt, ↓gk_tf, ↓gk_ff, ↓gk_ft, reduceCtorEq, Nat.reduceEqDiff, ↓reduceIte, Nat.reduceAdd, Nat.reduceSub, Nat.reduceLT, Nat.reduceMul, Nat.reduceBEq, Int.reduceLE, Int.reduceLT, Int.reduceAdd, Int.reduceSub, Int.reduceToNat, Int.reduceNeg, Int.reduceMul, Nat.reduceLeDiff]
    refine dc_seq (dc_cond _ rfl (fun hlt => dc_skip ?_) (fun hge => dc_exit ?_))
    · have hlt : i < pool.length := by have := of_decide_eq_true hlt; omega
      have e1 : ((i : Int).toNat) = i := Int.toNat_natCast i
      refine dc_seq (dc_block (dc_seq (dc_region (ok0 gl) [] (by kernel_rfl) ?_)))
      simp only [go_sem, ↓gx_tt, ↓gx_tf, ↓gx_ft, ↓gx_ff, ↓gx_u2, ↓gk_tt, ↓gk_tf, ↓gk_ff, ↓gk_ft, reduceCtorEq, Nat.reduceEqDiff, ↓reduceIte, Nat.reduceAdd, Nat.reduceSub, Nat.reduceLT, Nat.reduceMul, Nat.reduceBEq, Int.reduceLE, Int.reduceLT, Int.reduceAdd, Int.reduceSub, Int.reduceToNat, Int.reduceNeg, Int.reduceMul, Nat.reduceLeDiff, e1]
      refine ⟨by omega, by omega, ?_⟩
      generalize ht : pool.getD i .nil = t
      have htm : t ∈ pool := by rw [← ht]; exact getD_mem' hlt
      refine DC.weak (weak_fix 10 10 rfl rfl rfl rfl ?_ ?_ ?_ ?_ ?_ ?_) ?_ <;> simp only [go_sem, ↓gx_tt, ↓gx_tf, ↓gx_ft, ↓gx_ff, ↓gx_u2, ↓gk_tt, ↓gk_tf, ↓gk_ff, ↓gk_ft, reduceCtorEq, Nat.reduceEqDiff, ↓reduceIte, Nat.reduceAdd, Nat.reduceSub, Nat.reduceLT, Nat.reduceMul, Nat.reduceBEq, Int.reduceLE, Int.reduceLT, Int.reduceAdd, Int.reduceSub, Int.reduceToNat, Int.reduceNeg, Int.reduceMul, Nat.reduceLeDiff, ht]
      by_cases h1 : (t.get 2).toInt = (nextC 4 [.int 0, .int 0, .int 0, .int 0] (t.get 1).toInt).toInt
      · by_cases h2 : rm < weightC t
        · refine dc_seq (dc_seq (dc_drawn (ok0 gl) (mo gl) [] [0, 0, 0, 0, 0, 1, 0, 0, 0, 1, 0, 0, 0] (by kernel_rfl) (by kernel_rfl) (vd_n [(), (), (), (), ()] ?_)))
          simp only [go_sem, ↓gx_tt, ↓gx_tf, ↓gx_ft, ↓gx_ff, ↓gx_u2, ↓gk_tt, ↓gk_tf, ↓gk_ff, ↓gk_ft, reduceCtorEq, Nat.reduceEqDiff, ↓reduceIte, Nat.reduceAdd, Nat.reduceSub, Nat.reduceLT, Nat.reduceMul, Nat.reduceBEq, Int.reduceLE, Int.reduceLT, Int.reduceAdd, Int.reduceSub, Int.reduceToNat, Int.reduceNeg, Int.reduceMul, Nat.reduceLeDiff]
          refine vdR_op [(), (), ()] rfl ?_
          refine vdO_calli _ (court_Next (⟨by simp only [go_sem, ↓gx_tt, ↓gx_tf, ↓gx_ft, ↓gx_ff, ↓gx_u2, ↓gk_tt, ↓gk_tf, ↓gk_ff, ↓gk_ft, reduceCtorEq, Nat.reduceEqDiff, ↓reduceIte, Nat.reduceAdd, Nat.reduceSub, Nat.reduceLT, Nat.reduceMul, Nat.reduceBEq, Int.reduceLE, Int.reduceLT, Int.reduceAdd, Int.reduceSub, Int.reduceToNat, Int.reduceNeg, Int.reduceMul, Nat.reduceLeDiff], ⟨by simp only [go_sem, ↓gx_tt, ↓gx_tf, ↓gx_ft, ↓gx_ff, ↓gx_u2, ↓gk_tt, ↓gk_tf, ↓gk_ff, ↓gk_ft, reduceCtorEq, Nat.reduceEqDiff, ↓reduceIte, Nat.reduceAdd, Nat.reduceSub, Nat.reduceLT, Nat.reduceMul, Nat.reduceBEq, Int.reduceLE, Int.reduceLT, Int.reduceAdd, Int.reduceSub, Int.reduceToNat, Int.reduceNeg, Int.reduceMul, Nat.reduceLeDiff], by simp only [go_sem, ↓gx_tt, ↓gx_tf, ↓gx_ft, ↓gx_ff, ↓gx_u2, ↓gk_tt, ↓gk_tf, ↓gk_ff, ↓gk_ft, reduceCtorEq, Nat.reduceEqDiff, ↓reduceIte, Nat.reduceAdd, Nat.reduceSub, Nat.reduceLT, Nat.reduceMul, Nat.reduceBEq, Int.reduceLE, Int.reduceLT, Int.reduceAdd, Int.reduceSub, Int.reduceToNat, Int.reduceNeg, Int.reduceMul, Nat.reduceLeDiff], by simp only [go_sem, ↓gx_tt, ↓gx_tf, ↓gx_ft, ↓gx_ff, ↓gx_u2, ↓gk_tt, ↓gk_tf, ↓gk_ff, ↓gk_ft, reduceCtorEq, Nat.reduceEqDiff, ↓reduceIte, Nat.reduceAdd, Nat.reduceSub, Nat.reduceLT, Nat.reduceMul, Nat.reduceBEq, Int.reduceLE, Int.reduceLT, Int.reduceAdd, Int.reduceSub, Int.reduceToNat, Int.reduceNeg, Int.reduceMul, Nat.reduceLeDiff]⟩⟩ : Court4 _ (.l 45023) (.l 59023) (.l 78007) (.l 59021) (.l 66003) (.int 0) pool) (t.get 1)) rfl rfl (by simp only [go_sem]) rfl ?_ rfl ?_ ?_ ?_ <;> simp only [go_sem, ↓gx_tt, ↓gx_tf, ↓gx_ft, ↓gx_ff, ↓gx_u2, ↓gk_tt, ↓gk_tf, ↓gk_ff, ↓gk_ft, reduceCtorEq, Nat.reduceEqDiff, ↓reduceIte, Nat.reduceAdd, Nat.reduceSub, Nat.reduceLT, Nat.reduceMul, Nat.reduceBEq, Int.reduceLE, Int.reduceLT, Int.reduceAdd, Int.reduceSub, Int.reduceToNat, Int.reduceNeg, Int.reduceMul, Nat.reduceLeDiff, h1]
          refine vdR_guard [(), (), (), (), (), (), (), (), ()] false rfl rfl rfl (fun _ => ?_) (fun h => absurd rfl h)
          refine vdO_calli _ (weight hg _ t) rfl rfl (by simp only [go_sem]) rfl ?_ rfl ?_ ?_ ?_ <;> simp only [go_sem, ↓gx_tt, ↓gx_tf, ↓gx_ft, ↓gx_ff, ↓gx_u2, ↓gk_tt, ↓gk_tf, ↓gk_ff, ↓gk_ft, reduceCtorEq, Nat.reduceEqDiff, ↓reduceIte, Nat.reduceAdd, Nat.reduceSub, Nat.reduceLT, Nat.reduceMul, Nat.reduceBEq, Int.reduceLE, Int.reduceLT, Int.reduceAdd, Int.reduceSub, Int.reduceToNat, Int.reduceNeg, Int.reduceMul, Nat.reduceLeDiff, h2]
          refine dc_cond _ rfl (fun _ => dc_exit ?_) (fun h => by simp at h)
          refine dc_region (ok0 gl) [] (by kernel_rfl) ?_
          simp only [go_sem, ↓gx_tt, ↓gx_tf, ↓gx_ft, ↓gx_ff, ↓gx_u2, ↓gk_tt, ↓gk_tf, ↓gk_ff, ↓gk_ft, reduceCtorEq, Nat.reduceEqDiff, ↓reduceIte, Nat.reduceAdd, Nat.reduceSub, Nat.reduceLT, Nat.reduceMul, Nat.reduceBEq, Int.reduceLE, Int.reduceLT, Int.reduceAdd, Int.reduceSub, Int.reduceToNat, Int.reduceNeg, Int.reduceMul, Nat.reduceLeDiff]
          refine ⟨hlt, ?_⟩
          refine weak_to rfl ?_ ?_ ?_ ?_ ?_ <;> simp only [go_sem, ↓gx_tt, ↓gx_tf, ↓gx_ft, ↓gx_ff, ↓gx_u2, ↓gk_tt, ↓gk_tf, ↓gk_ff, ↓gk_ft, reduceCtorEq, Nat.reduceEqDiff, ↓reduceIte, Nat.reduceAdd, Nat.reduceSub, Nat.reduceLT, Nat.reduceMul, Nat.reduceBEq, Int.reduceLE, Int.reduceLT, Int.reduceAdd, Int.reduceSub, Int.reduceToNat, Int.reduceNeg, Int.reduceMul, Nat.reduceLeDiff, bestE, bestL]
          rw [IntWalk.i64_in _ (by omega)]; rfl
        · refine dc_seq (dc_seq (dc_drawn (ok0 gl) (mo gl) [] [0, 0, 0, 0, 0, 1, 0, 0, 0, 1, 0, 0, 0] (by kernel_rfl) (by kernel_rfl) (vd_n [(), (), (), (), ()] ?_)))
          simp only [go_sem, ↓gx_tt, ↓gx_tf, ↓gx_ft, ↓gx_ff, ↓gx_u2, ↓gk_tt, ↓gk_tf, ↓gk_ff, ↓gk_ft, reduceCtorEq, Nat.reduceEqDiff, ↓reduceIte, Nat.reduceAdd, Nat.reduceSub, Nat.reduceLT, Nat.reduceMul, Nat.reduceBEq, Int.reduceLE, Int.reduceLT, Int.reduceAdd, Int.reduceSub, Int.reduceToNat, Int.reduceNeg, Int.reduceMul, Nat.reduceLeDiff]
          refine vdR_op [(), (), ()] rfl ?_
          refine vdO_calli _ (court_Next (⟨by simp only [go_sem, ↓gx_tt, ↓gx_tf, ↓gx_ft, ↓gx_ff, ↓gx_u2, ↓gk_tt, ↓gk_tf, ↓gk_ff, ↓gk_ft, reduceCtorEq, Nat.reduceEqDiff, ↓reduceIte, Nat.reduceAdd, Nat.reduceSub, Nat.reduceLT, Nat.reduceMul, Nat.reduceBEq, Int.reduceLE, Int.reduceLT, Int.reduceAdd, Int.reduceSub, Int.reduceToNat, Int.reduceNeg, Int.reduceMul, Nat.reduceLeDiff], ⟨by simp only [go_sem, ↓gx_tt, ↓gx_tf, ↓gx_ft, ↓gx_ff, ↓gx_u2, ↓gk_tt, ↓gk_tf, ↓gk_ff, ↓gk_ft, reduceCtorEq, Nat.reduceEqDiff, ↓reduceIte, Nat.reduceAdd, Nat.reduceSub, Nat.reduceLT, Nat.reduceMul, Nat.reduceBEq, Int.reduceLE, Int.reduceLT, Int.reduceAdd, Int.reduceSub, Int.reduceToNat, Int.reduceNeg, Int.reduceMul, Nat.reduceLeDiff], by simp only [go_sem, ↓gx_tt, ↓gx_tf, ↓gx_ft, ↓gx_ff, ↓gx_u2, ↓gk_tt, ↓gk_tf, ↓gk_ff, ↓gk_ft, reduceCtorEq, Nat.reduceEqDiff, ↓reduceIte, Nat.reduceAdd, Nat.reduceSub, Nat.reduceLT, Nat.reduceMul, Nat.reduceBEq, Int.reduceLE, Int.reduceLT, Int.reduceAdd, Int.reduceSub, Int.reduceToNat, Int.reduceNeg, Int.reduceMul, Nat.reduceLeDiff], by simp only [go_sem, ↓gx_tt, ↓gx_tf, ↓gx_ft, ↓gx_ff, ↓gx_u2, ↓gk_tt, ↓gk_tf, ↓gk_ff, ↓gk_ft, reduceCtorEq, Nat.reduceEqDiff, ↓reduceIte, Nat.reduceAdd, Nat.reduceSub, Nat.reduceLT, Nat.reduceMul, Nat.reduceBEq, Int.reduceLE, Int.reduceLT, Int.reduceAdd, Int.reduceSub, Int.reduceToNat, Int.reduceNeg, Int.reduceMul, Nat.reduceLeDiff]⟩⟩ : Court4 _ (.l 45023) (.l 59023) (.l 78007) (.l 59021) (.l 66003) (.int 0) pool) (t.get 1)) rfl rfl (by simp only [go_sem]) rfl ?_ rfl ?_ ?_ ?_ <;> simp only [go_sem, ↓gx_tt, ↓gx_tf, ↓gx_ft, ↓gx_ff, ↓gx_u2, ↓gk_tt, ↓gk_tf, ↓gk_ff, ↓gk_ft, reduceCtorEq, Nat.reduceEqDiff, ↓reduceIte, Nat.reduceAdd, Nat.reduceSub, Nat.reduceLT, Nat.reduceMul, Nat.reduceBEq, Int.reduceLE, Int.reduceLT, Int.reduceAdd, Int.reduceSub, Int.reduceToNat, Int.reduceNeg, Int.reduceMul, Nat.reduceLeDiff, h1]
          refine vdR_guard [(), (), (), (), (), (), (), (), ()] false rfl rfl rfl (fun _ => ?_) (fun h => absurd rfl h)
          refine vdO_calli _ (weight hg _ t) rfl rfl (by simp only [go_sem]) rfl ?_ rfl ?_ ?_ ?_ <;> simp only [go_sem, ↓gx_tt, ↓gx_tf, ↓gx_ft, ↓gx_ff, ↓gx_u2, ↓gk_tt, ↓gk_tf, ↓gk_ff, ↓gk_ft, reduceCtorEq, Nat.reduceEqDiff, ↓reduceIte, Nat.reduceAdd, Nat.reduceSub, Nat.reduceLT, Nat.reduceMul, Nat.reduceBEq, Int.reduceLE, Int.reduceLT, Int.reduceAdd, Int.reduceSub, Int.reduceToNat, Int.reduceNeg, Int.reduceMul, Nat.reduceLeDiff, h2]
          refine dc_cond _ rfl (fun h => by simp at h) (fun _ => dc_skip ?_)
          have h1' : ((pool.getD i .nil).get 2).toInt = (nextC 4 [.int 0, .int 0, .int 0, .int 0] ((pool.getD i .nil).get 1).toInt).toInt := by rw [ht]; exact h1
          obtain ⟨b, rest, hp, hb, hc1, hc2⟩ := law_first O hlt h1' (by rw [ht]; exact h2)
          rw [hP'] at hp
          rw [ht] at hc1 hc2
          generalize hbt : pool.getD b .nil = bt at hc1 hc2
          have hbm : bt ∈ pool := by rw [← hbt]; exact getD_mem' hb
          have z0 : ¬ ((rest.length + 1 : Nat) : Int) = 0 := by omega
          have z1 : ¬ (b : Int) < 0 := by omega
          have z2 : ¬ (pool.length : Int) ≤ (b : Int) := by omega
          have z3 : ((b : Int)).toNat = b := Int.toNat_natCast b
          refine dc_seq (dc_seq (dc_region (ok0 gl) [] (by kernel_rfl) ?_))
          simp only [go_sem, ↓gx_tt, ↓gx_tf, ↓gx_ft, ↓gx_ff, ↓gx_u2, ↓gk_tt, ↓gk_tf, ↓gk_ff, ↓gk_ft, reduceCtorEq, Nat.reduceEqDiff, ↓reduceIte, Nat.reduceAdd, Nat.reduceSub, Nat.reduceLT, Nat.reduceMul, Nat.reduceBEq, Int.reduceLE, Int.reduceLT, Int.reduceAdd, Int.reduceSub, Int.reduceToNat, Int.reduceNeg, Int.reduceMul, Nat.reduceLeDiff, hp, z0, z1, z2]
          refine ⟨by omega, by omega, ?_⟩
          refine dc_cond _ rfl (fun h => by simp at h) (fun _ => dc_skip ?_)
          refine dc_seq (dc_region (ok0 gl) [] (by kernel_rfl) ?_)
          simp only [go_sem, ↓gx_tt, ↓gx_tf, ↓gx_ft, ↓gx_ff, ↓gx_u2, ↓gk_tt, ↓gk_tf, ↓gk_ff, ↓gk_ft, reduceCtorEq, Nat.reduceEqDiff, ↓reduceIte, Nat.reduceAdd, Nat.reduceSub, Nat.reduceLT, Nat.reduceMul, Nat.reduceBEq, Int.reduceLE, Int.reduceLT, Int.reduceAdd, Int.reduceSub, Int.reduceToNat, Int.reduceNeg, Int.reduceMul, Nat.reduceLeDiff, hp, z3, hbt]
          refine ⟨by omega, by omega, by omega, ?_⟩
          refine DC.weak (weak_fix 11 11 rfl rfl rfl rfl ?_ ?_ ?_ ?_ ?_ ?_) ?_ <;> simp only [go_sem, ↓gx_tt, ↓gx_tf, ↓gx_ft, ↓gx_ff, ↓gx_u2, ↓gk_tt, ↓gk_tf, ↓gk_ff, ↓gk_ft, reduceCtorEq, Nat.reduceEqDiff, ↓reduceIte, Nat.reduceAdd, Nat.reduceSub, Nat.reduceLT, Nat.reduceMul, Nat.reduceBEq, Int.reduceLE, Int.reduceLT, Int.reduceAdd, Int.reduceSub, Int.reduceToNat, Int.reduceNeg, Int.reduceMul, Nat.reduceLeDiff]
          refine dc_seq (dc_drawn (ok0 gl) (mo gl) [] [0, 0, 0, 0, 0, 0, 0, 0, 0, 0, 0, 0, 0, 0, 0, 0] (by kernel_rfl) (by kernel_rfl) (vd_n [(), (), (), ()] ?_))
          simp only [go_sem, ↓gx_tt, ↓gx_tf, ↓gx_ft, ↓gx_ff, ↓gx_u2, ↓gk_tt, ↓gk_tf, ↓gk_ff, ↓gk_ft, reduceCtorEq, Nat.reduceEqDiff, ↓reduceIte, Nat.reduceAdd, Nat.reduceSub, Nat.reduceLT, Nat.reduceMul, Nat.reduceBEq, Int.reduceLE, Int.reduceLT, Int.reduceAdd, Int.reduceSub, Int.reduceToNat, Int.reduceNeg, Int.reduceMul, Nat.reduceLeDiff]
          refine vdR_op [(), (), (), (), (), ()] rfl ?_
          refine vdO_call0 _ (weight hg _ bt) rfl rfl (by simp only [go_sem]) rfl ?_ rfl ?_ <;> simp only [go_sem, ↓gx_tt, ↓gx_tf, ↓gx_ft, ↓gx_ff, ↓gx_u2, ↓gk_tt, ↓gk_tf, ↓gk_ff, ↓gk_ft, reduceCtorEq, Nat.reduceEqDiff, ↓reduceIte, Nat.reduceAdd, Nat.reduceSub, Nat.reduceLT, Nat.reduceMul, Nat.reduceBEq, Int.reduceLE, Int.reduceLT, Int.reduceAdd, Int.reduceSub, Int.reduceToNat, Int.reduceNeg, Int.reduceMul, Nat.reduceLeDiff]
          refine vdR_op [(), (), (), (), (), (), (), (), ()] rfl ?_
          refine vdO_call0 _ (weight hg _ t) rfl rfl (by simp only [go_sem]) rfl ?_ rfl ?_ <;> simp only [go_sem, ↓gx_tt, ↓gx_tf, ↓gx_ft, ↓gx_ff, ↓gx_u2, ↓gk_tt, ↓gk_tf, ↓gk_ff, ↓gk_ft, reduceCtorEq, Nat.reduceEqDiff, ↓reduceIte, Nat.reduceAdd, Nat.reduceSub, Nat.reduceLT, Nat.reduceMul, Nat.reduceBEq, Int.reduceLE, Int.reduceLT, Int.reduceAdd, Int.reduceSub, Int.reduceToNat, Int.reduceNeg, Int.reduceMul, Nat.reduceLeDiff]
          refine DC.weak (s' := ⟨(13, .d (.int .u64) (.int (paysC bt * weightC t))) :: (12, .d (.int .u64) (.int (paysC t * weightC bt))) :: (9, .d (.int .i64) (.int i)) :: (42, .d (.int .i64) (.int i)) :: (41, .d (.int .i64) (.int pool.length)) :: (40, .d (.slice 2368 tTx) (.slice pool)) :: bestE pool P rm, bestL pool, A', []⟩) ?_ ?_
          · refine weak_to rfl ?_ ?_ ?_ ?_ ?_ <;> simp only [go_sem, ↓gx_tt, ↓gx_tf, ↓gx_ft, ↓gx_ff, ↓gx_u2, ↓gk_tt, ↓gk_tf, ↓gk_ff, ↓gk_ft, reduceCtorEq, Nat.reduceEqDiff, ↓reduceIte, Nat.reduceAdd, Nat.reduceSub, Nat.reduceLT, Nat.reduceMul, Nat.reduceBEq, Int.reduceLE, Int.reduceLT, Int.reduceAdd, Int.reduceSub, Int.reduceToNat, Int.reduceNeg, Int.reduceMul, Nat.reduceLeDiff, bestE, bestL, hp]
            exact ⟨congrArg (fun z => some (C.int z)) (prod_wrap O hbm htm), congrArg (fun z => some (C.int z)) (prod_wrap O htm hbm)⟩
          unfold bestE bestL
          have g1 : ¬ paysC bt * weightC t < paysC t * weightC bt := by omega
          by_cases g2 : paysC t * weightC bt = paysC bt * weightC t
          · have g3 : ¬ (i : Int) < (b : Int) := by
              intro h
              have := hc2 (by omega)
              omega
            refine dc_seq (dc_region (ok0 gl) [] (by kernel_rfl) ?_)
            simp only [go_sem, ↓gx_tt, ↓gx_tf, ↓gx_ft, ↓gx_ff, ↓gx_u2, ↓gk_tt, ↓gk_tf, ↓gk_ff, ↓gk_ft, reduceCtorEq, Nat.reduceEqDiff, ↓reduceIte, Nat.reduceAdd, Nat.reduceSub, Nat.reduceLT, Nat.reduceMul, Nat.reduceBEq, Int.reduceLE, Int.reduceLT, Int.reduceAdd, Int.reduceSub, Int.reduceToNat, Int.reduceNeg, Int.reduceMul, Nat.reduceLeDiff, g2, g3, hp, Int.lt_irrefl]
            refine ⟨by omega, ?_⟩
            refine dc_cond _ rfl (fun h => by simp at h) (fun _ => dc_skip ?_)
            refine dc_region (ok0 gl) [] (by kernel_rfl) ?_
            simp only [go_sem, ↓gx_tt, ↓gx_tf, ↓gx_ft, ↓gx_ff, ↓gx_u2, ↓gk_tt, ↓gk_tf, ↓gk_ff, ↓gk_ft, reduceCtorEq, Nat.reduceEqDiff, ↓reduceIte, Nat.reduceAdd, Nat.reduceSub, Nat.reduceLT, Nat.reduceMul, Nat.reduceBEq, Int.reduceLE, Int.reduceLT, Int.reduceAdd, Int.reduceSub, Int.reduceToNat, Int.reduceNeg, Int.reduceMul, Nat.reduceLeDiff]
            refine ⟨hlt, ?_⟩
            refine weak_to rfl ?_ ?_ ?_ ?_ ?_ <;> simp only [go_sem, ↓gx_tt, ↓gx_tf, ↓gx_ft, ↓gx_ff, ↓gx_u2, ↓gk_tt, ↓gk_tf, ↓gk_ff, ↓gk_ft, reduceCtorEq, Nat.reduceEqDiff, ↓reduceIte, Nat.reduceAdd, Nat.reduceSub, Nat.reduceLT, Nat.reduceMul, Nat.reduceBEq, Int.reduceLE, Int.reduceLT, Int.reduceAdd, Int.reduceSub, Int.reduceToNat, Int.reduceNeg, Int.reduceMul, Nat.reduceLeDiff, bestE, bestL]
            rw [IntWalk.i64_in _ (by omega)]; rfl
          · refine dc_seq (dc_region (ok0 gl) [] (by kernel_rfl) ?_)
            simp only [go_sem, ↓gx_tt, ↓gx_tf, ↓gx_ft, ↓gx_ff, ↓gx_u2, ↓gk_tt, ↓gk_tf, ↓gk_ff, ↓gk_ft, reduceCtorEq, Nat.reduceEqDiff, ↓reduceIte, Nat.reduceAdd, Nat.reduceSub, Nat.reduceLT, Nat.reduceMul, Nat.reduceBEq, Int.reduceLE, Int.reduceLT, Int.reduceAdd, Int.reduceSub, Int.reduceToNat, Int.reduceNeg, Int.reduceMul, Nat.reduceLeDiff, g1, g2, hp]
            refine dc_cond _ rfl (fun h => by simp at h) (fun _ => dc_skip ?_)
            refine dc_region (ok0 gl) [] (by kernel_rfl) ?_
            simp only [go_sem, ↓gx_tt, ↓gx_tf, ↓gx_ft, ↓gx_ff, ↓gx_u2, ↓gk_tt, ↓gk_tf, ↓gk_ff, ↓gk_ft, reduceCtorEq, Nat.reduceEqDiff, ↓reduceIte, Nat.reduceAdd, Nat.reduceSub, Nat.reduceLT, Nat.reduceMul, Nat.reduceBEq, Int.reduceLE, Int.reduceLT, Int.reduceAdd, Int.reduceSub, Int.reduceToNat, Int.reduceNeg, Int.reduceMul, Nat.reduceLeDiff]
            refine ⟨hlt, ?_⟩
            refine weak_to rfl ?_ ?_ ?_ ?_ ?_ <;> simp only [go_sem, ↓gx_tt, ↓gx_tf, ↓gx_ft, ↓gx_ff, ↓gx_u2, ↓gk_tt, ↓gk_tf, ↓gk_ff, ↓gk_ft, reduceCtorEq, Nat.reduceEqDiff, ↓reduceIte, Nat.reduceAdd, Nat.reduceSub, Nat.reduceLT, Nat.reduceMul, Nat.reduceBEq, Int.reduceLE, Int.reduceLT, Int.reduceAdd, Int.reduceSub, Int.reduceToNat, Int.reduceNeg, Int.reduceMul, Nat.reduceLeDiff, bestE, bestL]
            rw [IntWalk.i64_in _ (by omega)]; rfl
      · refine dc_seq (dc_seq (dc_drawn (ok0 gl) (mo gl) [] [0, 0, 0, 0, 0, 1, 0, 0, 0, 1, 0, 0, 0] (by kernel_rfl) (by kernel_rfl) (vd_n [(), (), (), (), ()] ?_)))
        simp only [go_sem, ↓gx_tt, ↓gx_tf, ↓gx_ft, ↓gx_ff, ↓gx_u2, ↓gk_tt, ↓gk_tf, ↓gk_ff, ↓gk_ft, reduceCtorEq, Nat.reduceEqDiff, ↓reduceIte, Nat.reduceAdd, Nat.reduceSub, Nat.reduceLT, Nat.reduceMul, Nat.reduceBEq, Int.reduceLE, Int.reduceLT, Int.reduceAdd, Int.reduceSub, Int.reduceToNat, Int.reduceNeg, Int.reduceMul, Nat.reduceLeDiff]
        refine vdR_op [(), (), (), (), (), (), (), (), ()] rfl ?_
        refine vdO_calli _ (court_Next (⟨by simp only [go_sem, ↓gx_tt, ↓gx_tf, ↓gx_ft, ↓gx_ff, ↓gx_u2, ↓gk_tt, ↓gk_tf, ↓gk_ff, ↓gk_ft, reduceCtorEq, Nat.reduceEqDiff, ↓reduceIte, Nat.reduceAdd, Nat.reduceSub, Nat.reduceLT, Nat.reduceMul, Nat.reduceBEq, Int.reduceLE, Int.reduceLT, Int.reduceAdd, Int.reduceSub, Int.reduceToNat, Int.reduceNeg, Int.reduceMul, Nat.reduceLeDiff], ⟨by simp only [go_sem, ↓gx_tt, ↓gx_tf, ↓gx_ft, ↓gx_ff, ↓gx_u2, ↓gk_tt, ↓gk_tf, ↓gk_ff, ↓gk_ft, reduceCtorEq, Nat.reduceEqDiff, ↓reduceIte, Nat.reduceAdd, Nat.reduceSub, Nat.reduceLT, Nat.reduceMul, Nat.reduceBEq, Int.reduceLE, Int.reduceLT, Int.reduceAdd, Int.reduceSub, Int.reduceToNat, Int.reduceNeg, Int.reduceMul, Nat.reduceLeDiff], by simp only [go_sem, ↓gx_tt, ↓gx_tf, ↓gx_ft, ↓gx_ff, ↓gx_u2, ↓gk_tt, ↓gk_tf, ↓gk_ff, ↓gk_ft, reduceCtorEq, Nat.reduceEqDiff, ↓reduceIte, Nat.reduceAdd, Nat.reduceSub, Nat.reduceLT, Nat.reduceMul, Nat.reduceBEq, Int.reduceLE, Int.reduceLT, Int.reduceAdd, Int.reduceSub, Int.reduceToNat, Int.reduceNeg, Int.reduceMul, Nat.reduceLeDiff], by simp only [go_sem, ↓gx_tt, ↓gx_tf, ↓gx_ft, ↓gx_ff, ↓gx_u2, ↓gk_tt, ↓gk_tf, ↓gk_ff, ↓gk_ft, reduceCtorEq, Nat.reduceEqDiff, ↓reduceIte, Nat.reduceAdd, Nat.reduceSub, Nat.reduceLT, Nat.reduceMul, Nat.reduceBEq, Int.reduceLE, Int.reduceLT, Int.reduceAdd, Int.reduceSub, Int.reduceToNat, Int.reduceNeg, Int.reduceMul, Nat.reduceLeDiff]⟩⟩ : Court4 _ (.l 45023) (.l 59023) (.l 78007) (.l 59021) (.l 66003) (.int 0) pool) (t.get 1)) rfl rfl (by simp only [go_sem]) rfl ?_ rfl ?_ ?_ ?_ <;> simp only [go_sem, ↓gx_tt, ↓gx_tf, ↓gx_ft, ↓gx_ff, ↓gx_u2, ↓gk_tt, ↓gk_tf, ↓gk_ff, ↓gk_ft, reduceCtorEq, Nat.reduceEqDiff, ↓reduceIte, Nat.reduceAdd, Nat.reduceSub, Nat.reduceLT, Nat.reduceMul, Nat.reduceBEq, Int.reduceLE, Int.reduceLT, Int.reduceAdd, Int.reduceSub, Int.reduceToNat, Int.reduceNeg, Int.reduceMul, Nat.reduceLeDiff, h1]
        refine dc_cond _ rfl (fun _ => dc_exit ?_) (fun h => by simp at h)
        refine dc_region (ok0 gl) [] (by kernel_rfl) ?_
        simp only [go_sem, ↓gx_tt, ↓gx_tf, ↓gx_ft, ↓gx_ff, ↓gx_u2, ↓gk_tt, ↓gk_tf, ↓gk_ff, ↓gk_ft, reduceCtorEq, Nat.reduceEqDiff, ↓reduceIte, Nat.reduceAdd, Nat.reduceSub, Nat.reduceLT, Nat.reduceMul, Nat.reduceBEq, Int.reduceLE, Int.reduceLT, Int.reduceAdd, Int.reduceSub, Int.reduceToNat, Int.reduceNeg, Int.reduceMul, Nat.reduceLeDiff]
        refine ⟨hlt, ?_⟩
        refine weak_to rfl ?_ ?_ ?_ ?_ ?_ <;> simp only [go_sem, ↓gx_tt, ↓gx_tf, ↓gx_ft, ↓gx_ff, ↓gx_u2, ↓gk_tt, ↓gk_tf, ↓gk_ff, ↓gk_ft, reduceCtorEq, Nat.reduceEqDiff, ↓reduceIte, Nat.reduceAdd, Nat.reduceSub, Nat.reduceLT, Nat.reduceMul, Nat.reduceBEq, Int.reduceLE, Int.reduceLT, Int.reduceAdd, Int.reduceSub, Int.reduceToNat, Int.reduceNeg, Int.reduceMul, Nat.reduceLeDiff, bestE, bestL]
        rw [IntWalk.i64_in _ (by omega)]; rfl
    · refine dc_seq (dc_region (ok0 gl) [] (by kernel_rfl) ?_)
      simp only [go_sem, ↓gx_tt, ↓gx_tf, ↓gx_ft, ↓gx_ff, ↓gx_u2, ↓gk_tt, ↓gk_tf, ↓gk_ff, ↓gk_ft, reduceCtorEq, Nat.reduceEqDiff, ↓reduceIte, Nat.reduceAdd, Nat.reduceSub, Nat.reduceLT, Nat.reduceMul, Nat.reduceBEq, Int.reduceLE, Int.reduceLT, Int.reduceAdd, Int.reduceSub, Int.reduceToNat, Int.reduceNeg, Int.reduceMul, Nat.reduceLeDiff]
      refine dc_seq (dc_seq (dc_region (ok0 gl) [] (by kernel_rfl) ?_))
      simp only [go_sem, ↓gx_tt, ↓gx_tf, ↓gx_ft, ↓gx_ff, ↓gx_u2, ↓gk_tt, ↓gk_tf, ↓gk_ff, ↓gk_ft, reduceCtorEq, Nat.reduceEqDiff, ↓reduceIte, Nat.reduceAdd, Nat.reduceSub, Nat.reduceLT, Nat.reduceMul, Nat.reduceBEq, Int.reduceLE, Int.reduceLT, Int.reduceAdd, Int.reduceSub, Int.reduceToNat, Int.reduceNeg, Int.reduceMul, Nat.reduceLeDiff]
      generalize hal : sumIf (fun _ => true) pool 0 = al
      have hbnd := sumIf_bound (p := fun _ => true) pool 0 (fun t ht => ⟨by have := (weight_range O ht).1; omega, (weight_range O ht).2⟩)
      refine dc_block (dc_count (fun i => ⟨(115, .d (.int .i64) (.int i)) :: (114, .d (.int .i64) (.int pool.length)) :: (113, .d (.slice 2368 tTx) (.slice pool)) :: (14, .d (.int .i64) (.int (al - sumIf (fun _ => true) (pool.drop i) i))) :: bestE pool P rm, bestL pool, A', []⟩) pool.length (fun _ => True) ?_ trivial ?_)
      · refine weak_to rfl ?_ ?_ ?_ ?_ ?_ <;> simp only [go_sem, ↓gx_tt, ↓gx_tf, ↓gx_ft, ↓gx_ff, ↓gx_u2, ↓gk_tt, ↓gk_tf, ↓gk_ff, ↓gk_ft, reduceCtorEq, Nat.reduceEqDiff, ↓reduceIte, Nat.reduceAdd, Nat.reduceSub, Nat.reduceLT, Nat.reduceMul, Nat.reduceBEq, Int.reduceLE, Int.reduceLT, Int.reduceAdd, Int.reduceSub, Int.reduceToNat, Int.reduceNeg, Int.reduceMul, Nat.reduceLeDiff, bestE, bestL]
        refine ⟨rfl, ?_⟩
        rw [List.drop_zero, hal, Int.sub_self]
      · intro i hi _
        unfold bestE bestL
        refine dc_seq (dc_region (ok0 gl) [] (by kernel_rfl) ?_)
        simp only [go_sem, ↓gx_tt, ↓gx_tf, ↓gx_ft, ↓gx_ff, ↓gx_u2, ↓gk_tt, ↓gk_tf, ↓gk_ff, ↓gk_ft, reduceCtorEq, Nat.reduceEqDiff, ↓reduceIte, Nat.reduceAdd, Nat.reduceSub, Nat.reduceLT, Nat.reduceMul, Nat.reduceBEq, Int.reduceLE, Int.reduceLT, Int.reduceAdd, Int.reduceSub, Int.reduceToNat, Int.reduceNeg, Int.reduceMul, Nat.reduceLeDiff]
        refine dc_seq (dc_cond _ rfl (fun hlt => dc_skip ?_) (fun hge => dc_exit ?_))
        · have hlt : i < pool.length := by have := of_decide_eq_true hlt; omega
          have e1 : ((i : Int).toNat) = i := Int.toNat_natCast i
          refine dc_seq (dc_block (dc_seq (dc_region (ok0 gl) [] (by kernel_rfl) ?_)))
          simp only [go_sem, ↓gx_tt, ↓gx_tf, ↓gx_ft, ↓gx_ff, ↓gx_u2, ↓gk_tt, ↓gk_tf, ↓gk_ff, ↓gk_ft, reduceCtorEq, Nat.reduceEqDiff, ↓reduceIte, Nat.reduceAdd, Nat.reduceSub, Nat.reduceLT, Nat.reduceMul, Nat.reduceBEq, Int.reduceLE, Int.reduceLT, Int.reduceAdd, Int.reduceSub, Int.reduceToNat, Int.reduceNeg, Int.reduceMul, Nat.reduceLeDiff, e1]
          refine ⟨by omega, by omega, ?_⟩
          generalize ht : pool.getD i .nil = t
          have htm : t ∈ pool := by rw [← ht]; exact getD_mem' hlt
          refine dc_region (ok0 gl) [] (by kernel_rfl) (vc_n [(), ()] ?_)
          simp only [go_sem, ↓gx_tt, ↓gx_tf, ↓gx_ft, ↓gx_ff, ↓gx_u2, ↓gk_tt, ↓gk_tf, ↓gk_ff, ↓gk_ft, reduceCtorEq, Nat.reduceEqDiff, ↓reduceIte, Nat.reduceAdd, Nat.reduceSub, Nat.reduceLT, Nat.reduceMul, Nat.reduceBEq, Int.reduceLE, Int.reduceLT, Int.reduceAdd, Int.reduceSub, Int.reduceToNat, Int.reduceNeg, Int.reduceMul, Nat.reduceLeDiff, ht]
          refine vcR_op [(), (), (), (), (), (), (), (), ()] rfl ?_
          refine vcO_call _ (weight hg _ t) rfl (by simp only [go_sem]) rfl ?_ ?_ ?_ ?_ ?_ <;> simp only [go_sem, ↓gx_tt, ↓gx_tf, ↓gx_ft, ↓gx_ff, ↓gx_u2, ↓gk_tt, ↓gk_tf, ↓gk_ff, ↓gk_ft, reduceCtorEq, Nat.reduceEqDiff, ↓reduceIte, Nat.reduceAdd, Nat.reduceSub, Nat.reduceLT, Nat.reduceMul, Nat.reduceBEq, Int.reduceLE, Int.reduceLT, Int.reduceAdd, Int.reduceSub, Int.reduceToNat, Int.reduceNeg, Int.reduceMul, Nat.reduceLeDiff]
          refine dc_region (ok0 gl) [] (by kernel_rfl) ?_
          simp only [go_sem, ↓gx_tt, ↓gx_tf, ↓gx_ft, ↓gx_ff, ↓gx_u2, ↓gk_tt, ↓gk_tf, ↓gk_ff, ↓gk_ft, reduceCtorEq, Nat.reduceEqDiff, ↓reduceIte, Nat.reduceAdd, Nat.reduceSub, Nat.reduceLT, Nat.reduceMul, Nat.reduceBEq, Int.reduceLE, Int.reduceLT, Int.reduceAdd, Int.reduceSub, Int.reduceToNat, Int.reduceNeg, Int.reduceMul, Nat.reduceLeDiff]
          refine ⟨hlt, ?_⟩
          refine weak_to rfl ?_ ?_ ?_ ?_ ?_ <;> simp only [go_sem, ↓gx_tt, ↓gx_tf, ↓gx_ft, ↓gx_ff, ↓gx_u2, ↓gk_tt, ↓gk_tf, ↓gk_ff, ↓gk_ft, reduceCtorEq, Nat.reduceEqDiff, ↓reduceIte, Nat.reduceAdd, Nat.reduceSub, Nat.reduceLT, Nat.reduceMul, Nat.reduceBEq, Int.reduceLE, Int.reduceLT, Int.reduceAdd, Int.reduceSub, Int.reduceToNat, Int.reduceNeg, Int.reduceMul, Nat.reduceLeDiff, bestE, bestL]
          have hd := sumIf_drop hlt
          rw [ht] at hd
          have hb1 := sumIf_bound (p := fun _ => true) (pool.drop i) i (fun t ht => ⟨by have := (weight_range O (List.mem_of_mem_drop ht)).1; omega, (weight_range O (List.mem_of_mem_drop ht)).2⟩)
          have hb2 := weight_range O htm
          have hb3 : (pool.drop i).length ≤ 60 := by simp; omega
          refine ⟨?_, ?_⟩
          · rw [IntWalk.i64_in _ (by omega)]; rfl
          · rw [IntWalk.i64_in _ (by omega)]
            exact congrArg (fun z => some (C.int z)) (by omega)
        · have hge : pool.length ≤ i := by have := of_decide_eq_false hge; omega
          have e0 : al - sumIf (fun _ => true) (pool.drop i) i = al := by
            rw [List.drop_eq_nil_of_le hge]; simp [sumIf]
          by_cases ha : rm < al
          · refine dc_seq (dc_seq (dc_region (ok0 gl) [] (by kernel_rfl) ?_))
            simp only [go_sem, ↓gx_tt, ↓gx_tf, ↓gx_ft, ↓gx_ff, ↓gx_u2, ↓gk_tt, ↓gk_tf, ↓gk_ff, ↓gk_ft, reduceCtorEq, Nat.reduceEqDiff, ↓reduceIte, Nat.reduceAdd, Nat.reduceSub, Nat.reduceLT, Nat.reduceMul, Nat.reduceBEq, Int.reduceLE, Int.reduceLT, Int.reduceAdd, Int.reduceSub, Int.reduceToNat, Int.reduceNeg, Int.reduceMul, Nat.reduceLeDiff, e0, ha]
            refine dc_cond _ rfl (fun _ => ?_) (fun h => by simp at h)
            refine dc_seq (dc_region (ok0 gl) [] (by kernel_rfl) (vc_n [] ?_))
            simp only [go_sem, ↓gx_tt, ↓gx_tf, ↓gx_ft, ↓gx_ff, ↓gx_u2, ↓gk_tt, ↓gk_tf, ↓gk_ff, ↓gk_ft, reduceCtorEq, Nat.reduceEqDiff, ↓reduceIte, Nat.reduceAdd, Nat.reduceSub, Nat.reduceLT, Nat.reduceMul, Nat.reduceBEq, Int.reduceLE, Int.reduceLT, Int.reduceAdd, Int.reduceSub, Int.reduceToNat, Int.reduceNeg, Int.reduceMul, Nat.reduceLeDiff]
            refine vcR_op [(), (), (), (), (), (), (), (), ()] rfl ?_
            refine vcO_call _ (awake hg _) rfl (by simp only [go_sem]) rfl ?_ ?_ ?_ ?_ ?_ <;> simp only [go_sem, ↓gx_tt, ↓gx_tf, ↓gx_ft, ↓gx_ff, ↓gx_u2, ↓gk_tt, ↓gk_tf, ↓gk_ff, ↓gk_ft, reduceCtorEq, Nat.reduceEqDiff, ↓reduceIte, Nat.reduceAdd, Nat.reduceSub, Nat.reduceLT, Nat.reduceMul, Nat.reduceBEq, Int.reduceLE, Int.reduceLT, Int.reduceAdd, Int.reduceSub, Int.reduceToNat, Int.reduceNeg, Int.reduceMul, Nat.reduceLeDiff]
            refine dc_ret ⟨.inr rfl, ?_⟩
            simp only [retOk, go_sem, ↓gx_tt, ↓gx_tf, ↓gx_ft, ↓gx_ff, ↓gx_u2, ↓gk_tt, ↓gk_tf, ↓gk_ff, ↓gk_ft, reduceCtorEq, Nat.reduceEqDiff, ↓reduceIte, Nat.reduceAdd, Nat.reduceSub, Nat.reduceLT, Nat.reduceMul, Nat.reduceBEq, Int.reduceLE, Int.reduceLT, Int.reduceAdd, Int.reduceSub, Int.reduceToNat, Int.reduceNeg, Int.reduceMul, Nat.reduceLeDiff, Tryd.f3] <;> try rfl
          · refine dc_seq (dc_seq (dc_region (ok0 gl) [] (by kernel_rfl) ?_))
            simp only [go_sem, ↓gx_tt, ↓gx_tf, ↓gx_ft, ↓gx_ff, ↓gx_u2, ↓gk_tt, ↓gk_tf, ↓gk_ff, ↓gk_ft, reduceCtorEq, Nat.reduceEqDiff, ↓reduceIte, Nat.reduceAdd, Nat.reduceSub, Nat.reduceLT, Nat.reduceMul, Nat.reduceBEq, Int.reduceLE, Int.reduceLT, Int.reduceAdd, Int.reduceSub, Int.reduceToNat, Int.reduceNeg, Int.reduceMul, Nat.reduceLeDiff, e0, ha]
            refine dc_cond _ rfl (fun h => by simp at h) (fun _ => dc_skip ?_)
            refine dc_seq (dc_seq (dc_region (ok0 gl) [] (by kernel_rfl) ?_))
            simp only [go_sem, ↓gx_tt, ↓gx_tf, ↓gx_ft, ↓gx_ff, ↓gx_u2, ↓gk_tt, ↓gk_tf, ↓gk_ff, ↓gk_ft, reduceCtorEq, Nat.reduceEqDiff, ↓reduceIte, Nat.reduceAdd, Nat.reduceSub, Nat.reduceLT, Nat.reduceMul, Nat.reduceBEq, Int.reduceLE, Int.reduceLT, Int.reduceAdd, Int.reduceSub, Int.reduceToNat, Int.reduceNeg, Int.reduceMul, Nat.reduceLeDiff]
            refine dc_block (dc_count (fun i => ⟨(130, .d (.int .i64) (.int i)) :: (129, .d (.int .i64) (.int pool.length)) :: (128, .d (.slice 2368 tTx) (.slice pool)) :: bestE pool P rm, bestL pool, A', []⟩) pool.length (fun _ => True) ?_ trivial ?_)
            · refine weak_to rfl ?_ ?_ ?_ ?_ ?_ <;> simp only [go_sem, ↓gx_tt, ↓gx_tf, ↓gx_ft, ↓gx_ff, ↓gx_u2, ↓gk_tt, ↓gk_tf, ↓gk_ff, ↓gk_ft, reduceCtorEq, Nat.reduceEqDiff, ↓reduceIte, Nat.reduceAdd, Nat.reduceSub, Nat.reduceLT, Nat.reduceMul, Nat.reduceBEq, Int.reduceLE, Int.reduceLT, Int.reduceAdd, Int.reduceSub, Int.reduceToNat, Int.reduceNeg, Int.reduceMul, Nat.reduceLeDiff, bestE, bestL]
              rfl
            · intro i hi _
              unfold bestE bestL
              refine dc_seq (dc_region (ok0 gl) [] (by kernel_rfl) ?_)
              simp only [go_sem, ↓gx_tt, ↓gx_tf, ↓gx_ft, ↓gx_ff, ↓gx_u2, ↓gk_tt, ↓gk_tf, ↓gk_ff, ↓gk_ft, reduceCtorEq, Nat.reduceEqDiff, ↓reduceIte, Nat.reduceAdd, Nat.reduceSub, Nat.reduceLT, Nat.reduceMul, Nat.reduceBEq, Int.reduceLE, Int.reduceLT, Int.reduceAdd, Int.reduceSub, Int.reduceToNat, Int.reduceNeg, Int.reduceMul, Nat.reduceLeDiff]
              refine dc_seq (dc_cond _ rfl (fun hlt => dc_skip ?_) (fun hge => dc_exit ?_))
              · have hlt : i < pool.length := by have := of_decide_eq_true hlt; omega
                have e1 : ((i : Int).toNat) = i := Int.toNat_natCast i
                refine dc_seq (dc_block (dc_seq (dc_region (ok0 gl) [] (by kernel_rfl) ?_)))
                simp only [go_sem, ↓gx_tt, ↓gx_tf, ↓gx_ft, ↓gx_ff, ↓gx_u2, ↓gk_tt, ↓gk_tf, ↓gk_ff, ↓gk_ft, reduceCtorEq, Nat.reduceEqDiff, ↓reduceIte, Nat.reduceAdd, Nat.reduceSub, Nat.reduceLT, Nat.reduceMul, Nat.reduceBEq, Int.reduceLE, Int.reduceLT, Int.reduceAdd, Int.reduceSub, Int.reduceToNat, Int.reduceNeg, Int.reduceMul, Nat.reduceLeDiff, e1]
                refine ⟨by omega, by omega, ?_⟩
                generalize ht : pool.getD i .nil = t
                refine DC.weak (weak_fix 18 18 rfl rfl rfl rfl ?_ ?_ ?_ ?_ ?_ ?_) ?_ <;> simp only [go_sem, ↓gx_tt, ↓gx_tf, ↓gx_ft, ↓gx_ff, ↓gx_u2, ↓gk_tt, ↓gk_tf, ↓gk_ff, ↓gk_ft, reduceCtorEq, Nat.reduceEqDiff, ↓reduceIte, Nat.reduceAdd, Nat.reduceSub, Nat.reduceLT, Nat.reduceMul, Nat.reduceBEq, Int.reduceLE, Int.reduceLT, Int.reduceAdd, Int.reduceSub, Int.reduceToNat, Int.reduceNeg, Int.reduceMul, Nat.reduceLeDiff, ht]
                refine dc_seq (dc_region (ok0 gl) [] (by kernel_rfl) ?_)
                simp only [go_sem, ↓gx_tt, ↓gx_tf, ↓gx_ft, ↓gx_ff, ↓gx_u2, ↓gk_tt, ↓gk_tf, ↓gk_ff, ↓gk_ft, reduceCtorEq, Nat.reduceEqDiff, ↓reduceIte, Nat.reduceAdd, Nat.reduceSub, Nat.reduceLT, Nat.reduceMul, Nat.reduceBEq, Int.reduceLE, Int.reduceLT, Int.reduceAdd, Int.reduceSub, Int.reduceToNat, Int.reduceNeg, Int.reduceMul, Nat.reduceLeDiff]
                refine dc_seq (dc_seq (dc_region (ok0 gl) [] (by kernel_rfl) ?_))
                simp only [go_sem, ↓gx_tt, ↓gx_tf, ↓gx_ft, ↓gx_ff, ↓gx_u2, ↓gk_tt, ↓gk_tf, ↓gk_ff, ↓gk_ft, reduceCtorEq, Nat.reduceEqDiff, ↓reduceIte, Nat.reduceAdd, Nat.reduceSub, Nat.reduceLT, Nat.reduceMul, Nat.reduceBEq, Int.reduceLE, Int.reduceLT, Int.reduceAdd, Int.reduceSub, Int.reduceToNat, Int.reduceNeg, Int.reduceMul, Nat.reduceLeDiff]
                refine dc_block (dc_count (fun k => ⟨(137, .d (.int .i64) (.int k)) :: (136, .d (.int .i64) (.int P.length)) :: (135, .d (.slice 8 (.int .i64)) (.slice P)) :: (19, .d .bool (.bool (anyI (P.take k) i))) :: (18, .cptr tTx t) :: (17, .d (.int .i64) (.int i)) :: (130, .d (.int .i64) (.int i)) :: (129, .d (.int .i64) (.int pool.length)) :: (128, .d (.slice 2368 tTx) (.slice pool)) :: bestE pool P rm, bestL pool, A', []⟩) P.length (fun _ => True) ?_ trivial ?_)
                · refine weak_to rfl ?_ ?_ ?_ ?_ ?_ <;> simp only [go_sem, ↓gx_tt, ↓gx_tf, ↓gx_ft, ↓gx_ff, ↓gx_u2, ↓gk_tt, ↓gk_tf, ↓gk_ff, ↓gk_ft, reduceCtorEq, Nat.reduceEqDiff, ↓reduceIte, Nat.reduceAdd, Nat.reduceSub, Nat.reduceLT, Nat.reduceMul, Nat.reduceBEq, Int.reduceLE, Int.reduceLT, Int.reduceAdd, Int.reduceSub, Int.reduceToNat, Int.reduceNeg, Int.reduceMul, Nat.reduceLeDiff, bestE, bestL]
                  exact ⟨rfl, rfl⟩
                · intro k hk _
                  unfold bestE bestL
                  refine dc_seq (dc_region (ok0 gl) [] (by kernel_rfl) ?_)
                  simp only [go_sem, ↓gx_tt, ↓gx_tf, ↓gx_ft, ↓gx_ff, ↓gx_u2, ↓gk_tt, ↓gk_tf, ↓gk_ff, ↓gk_ft, reduceCtorEq, Nat.reduceEqDiff, ↓reduceIte, Nat.reduceAdd, Nat.reduceSub, Nat.reduceLT, Nat.reduceMul, Nat.reduceBEq, Int.reduceLE, Int.reduceLT, Int.reduceAdd, Int.reduceSub, Int.reduceToNat, Int.reduceNeg, Int.reduceMul, Nat.reduceLeDiff]
                  refine dc_seq (dc_cond _ rfl (fun hlt2 => dc_skip ?_) (fun hge => dc_exit ?_))
                  · have hlt2 : k < P.length := by have := of_decide_eq_true hlt2; omega
                    have e2 : ((k : Int).toNat) = k := Int.toNat_natCast k
                    have e3 := anyI_take (i : Int) hlt2
                    refine dc_seq (dc_block (dc_seq (dc_region (ok0 gl) [] (by kernel_rfl) ?_)))
                    simp only [go_sem, ↓gx_tt, ↓gx_tf, ↓gx_ft, ↓gx_ff, ↓gx_u2, ↓gk_tt, ↓gk_tf, ↓gk_ff, ↓gk_ft, reduceCtorEq, Nat.reduceEqDiff, ↓reduceIte, Nat.reduceAdd, Nat.reduceSub, Nat.reduceLT, Nat.reduceMul, Nat.reduceBEq, Int.reduceLE, Int.reduceLT, Int.reduceAdd, Int.reduceSub, Int.reduceToNat, Int.reduceNeg, Int.reduceMul, Nat.reduceLeDiff, e2]
                    refine ⟨by omega, by omega, ?_⟩
                    cases hik : anyI (P.take k) i with
                    | true =>
                      rw [hik] at e3
                      refine dc_region (ok0 gl) [] (by kernel_rfl) ?_
                      simp only [go_sem, ↓gx_tt, ↓gx_tf, ↓gx_ft, ↓gx_ff, ↓gx_u2, ↓gk_tt, ↓gk_tf, ↓gk_ff, ↓gk_ft, reduceCtorEq, Nat.reduceEqDiff, ↓reduceIte, Nat.reduceAdd, Nat.reduceSub, Nat.reduceLT, Nat.reduceMul, Nat.reduceBEq, Int.reduceLE, Int.reduceLT, Int.reduceAdd, Int.reduceSub, Int.reduceToNat, Int.reduceNeg, Int.reduceMul, Nat.reduceLeDiff, hik]
                      refine dc_region (ok0 gl) [] (by kernel_rfl) ?_
                      simp only [go_sem, ↓gx_tt, ↓gx_tf, ↓gx_ft, ↓gx_ff, ↓gx_u2, ↓gk_tt, ↓gk_tf, ↓gk_ff, ↓gk_ft, reduceCtorEq, Nat.reduceEqDiff, ↓reduceIte, Nat.reduceAdd, Nat.reduceSub, Nat.reduceLT, Nat.reduceMul, Nat.reduceBEq, Int.reduceLE, Int.reduceLT, Int.reduceAdd, Int.reduceSub, Int.reduceToNat, Int.reduceNeg, Int.reduceMul, Nat.reduceLeDiff]
                      refine ⟨hlt2, ?_⟩
                      refine weak_to rfl ?_ ?_ ?_ ?_ ?_ <;> simp only [go_sem, ↓gx_tt, ↓gx_tf, ↓gx_ft, ↓gx_ff, ↓gx_u2, ↓gk_tt, ↓gk_tf, ↓gk_ff, ↓gk_ft, reduceCtorEq, Nat.reduceEqDiff, ↓reduceIte, Nat.reduceAdd, Nat.reduceSub, Nat.reduceLT, Nat.reduceMul, Nat.reduceBEq, Int.reduceLE, Int.reduceLT, Int.reduceAdd, Int.reduceSub, Int.reduceToNat, Int.reduceNeg, Int.reduceMul, Nat.reduceLeDiff, bestE, bestL]
                      refine ⟨?_, ?_⟩
                      · rw [IntWalk.i64_in _ (by omega)]; rfl
                      · rw [e3]; rfl
                    | false =>
                      rw [hik] at e3
                      refine dc_region (ok0 gl) [] (by kernel_rfl) ?_
                      simp only [go_sem, ↓gx_tt, ↓gx_tf, ↓gx_ft, ↓gx_ff, ↓gx_u2, ↓gk_tt, ↓gk_tf, ↓gk_ff, ↓gk_ft, reduceCtorEq, Nat.reduceEqDiff, ↓reduceIte, Nat.reduceAdd, Nat.reduceSub, Nat.reduceLT, Nat.reduceMul, Nat.reduceBEq, Int.reduceLE, Int.reduceLT, Int.reduceAdd, Int.reduceSub, Int.reduceToNat, Int.reduceNeg, Int.reduceMul, Nat.reduceLeDiff, hik]
                      refine dc_region (ok0 gl) [] (by kernel_rfl) ?_
                      simp only [go_sem, ↓gx_tt, ↓gx_tf, ↓gx_ft, ↓gx_ff, ↓gx_u2, ↓gk_tt, ↓gk_tf, ↓gk_ff, ↓gk_ft, reduceCtorEq, Nat.reduceEqDiff, ↓reduceIte, Nat.reduceAdd, Nat.reduceSub, Nat.reduceLT, Nat.reduceMul, Nat.reduceBEq, Int.reduceLE, Int.reduceLT, Int.reduceAdd, Int.reduceSub, Int.reduceToNat, Int.reduceNeg, Int.reduceMul, Nat.reduceLeDiff]
                      refine ⟨hlt2, ?_⟩
                      refine weak_to rfl ?_ ?_ ?_ ?_ ?_ <;> simp only [go_sem, ↓gx_tt, ↓gx_tf, ↓gx_ft, ↓gx_ff, ↓gx_u2, ↓gk_tt, ↓gk_tf, ↓gk_ff, ↓gk_ft, reduceCtorEq, Nat.reduceEqDiff, ↓reduceIte, Nat.reduceAdd, Nat.reduceSub, Nat.reduceLT, Nat.reduceMul, Nat.reduceBEq, Int.reduceLE, Int.reduceLT, Int.reduceAdd, Int.reduceSub, Int.reduceToNat, Int.reduceNeg, Int.reduceMul, Nat.reduceLeDiff, bestE, bestL]
                      refine ⟨?_, ?_⟩
                      · rw [IntWalk.i64_in _ (by omega)]; rfl
                      · rw [e3]; rfl
                  · have hge : P.length ≤ k := by have := of_decide_eq_false hge; omega
                    have e3 : anyI (P.take k) i = anyI P i := by rw [List.take_of_length_le hge]
                    by_cases h1 : (t.get 2).toInt = (nextC 4 [.int 0, .int 0, .int 0, .int 0] (t.get 1).toInt).toInt
                    · cases hin : anyI P i with
                      | true =>
                        refine dc_seq (dc_drawn (ok0 gl) (mo gl) [] [0, 0, 0, 0, 0, 1, 0, 0, 0, 0, 0] (by kernel_rfl) (by kernel_rfl) (vd_n [(), (), (), (), ()] ?_))
                        simp only [go_sem, ↓gx_tt, ↓gx_tf, ↓gx_ft, ↓gx_ff, ↓gx_u2, ↓gk_tt, ↓gk_tf, ↓gk_ff, ↓gk_ft, reduceCtorEq, Nat.reduceEqDiff, ↓reduceIte, Nat.reduceAdd, Nat.reduceSub, Nat.reduceLT, Nat.reduceMul, Nat.reduceBEq, Int.reduceLE, Int.reduceLT, Int.reduceAdd, Int.reduceSub, Int.reduceToNat, Int.reduceNeg, Int.reduceMul, Nat.reduceLeDiff]
                        refine vdR_op [(), (), (), (), (), (), (), (), ()] rfl ?_
                        refine vdO_calli _ (court_Next (⟨by simp only [go_sem, ↓gx_tt, ↓gx_tf, ↓gx_ft, ↓gx_ff, ↓gx_u2, ↓gk_tt, ↓gk_tf, ↓gk_ff, ↓gk_ft, reduceCtorEq, Nat.reduceEqDiff, ↓reduceIte, Nat.reduceAdd, Nat.reduceSub, Nat.reduceLT, Nat.reduceMul, Nat.reduceBEq, Int.reduceLE, Int.reduceLT, Int.reduceAdd, Int.reduceSub, Int.reduceToNat, Int.reduceNeg, Int.reduceMul, Nat.reduceLeDiff], ⟨by simp only [go_sem, ↓gx_tt, ↓gx_tf, ↓gx_ft, ↓gx_ff, ↓gx_u2, ↓gk_tt, ↓gk_tf, ↓gk_ff, ↓gk_ft, reduceCtorEq, Nat.reduceEqDiff, ↓reduceIte, Nat.reduceAdd, Nat.reduceSub, Nat.reduceLT, Nat.reduceMul, Nat.reduceBEq, Int.reduceLE, Int.reduceLT, Int.reduceAdd, Int.reduceSub, Int.reduceToNat, Int.reduceNeg, Int.reduceMul, Nat.reduceLeDiff], by simp only [go_sem, ↓gx_tt, ↓gx_tf, ↓gx_ft, ↓gx_ff, ↓gx_u2, ↓gk_tt, ↓gk_tf, ↓gk_ff, ↓gk_ft, reduceCtorEq, Nat.reduceEqDiff, ↓reduceIte, Nat.reduceAdd, Nat.reduceSub, Nat.reduceLT, Nat.reduceMul, Nat.reduceBEq, Int.reduceLE, Int.reduceLT, Int.reduceAdd, Int.reduceSub, Int.reduceToNat, Int.reduceNeg, Int.reduceMul, Nat.reduceLeDiff], by simp only [go_sem, ↓gx_tt, ↓gx_tf, ↓gx_ft, ↓gx_ff, ↓gx_u2, ↓gk_tt, ↓gk_tf, ↓gk_ff, ↓gk_ft, reduceCtorEq, Nat.reduceEqDiff, ↓reduceIte, Nat.reduceAdd, Nat.reduceSub, Nat.reduceLT, Nat.reduceMul, Nat.reduceBEq, Int.reduceLE, Int.reduceLT, Int.reduceAdd, Int.reduceSub, Int.reduceToNat, Int.reduceNeg, Int.reduceMul, Nat.reduceLeDiff]⟩⟩ : Court4 _ (.l 45023) (.l 59023) (.l 78007) (.l 59021) (.l 66003) (.int 0) pool) (t.get 1)) rfl rfl (by simp only [go_sem]) rfl ?_ rfl ?_ ?_ ?_ <;> simp only [go_sem, ↓gx_tt, ↓gx_tf, ↓gx_ft, ↓gx_ff, ↓gx_u2, ↓gk_tt, ↓gk_tf, ↓gk_ff, ↓gk_ft, reduceCtorEq, Nat.reduceEqDiff, ↓reduceIte, Nat.reduceAdd, Nat.reduceSub, Nat.reduceLT, Nat.reduceMul, Nat.reduceBEq, Int.reduceLE, Int.reduceLT, Int.reduceAdd, Int.reduceSub, Int.reduceToNat, Int.reduceNeg, Int.reduceMul, Nat.reduceLeDiff, h1, e3, hin]
                        refine dc_cond _ rfl (fun h => by simp at h) (fun _ => dc_skip ?_)
                        refine dc_region (ok0 gl) [] (by kernel_rfl) ?_
                        simp only [go_sem, ↓gx_tt, ↓gx_tf, ↓gx_ft, ↓gx_ff, ↓gx_u2, ↓gk_tt, ↓gk_tf, ↓gk_ff, ↓gk_ft, reduceCtorEq, Nat.reduceEqDiff, ↓reduceIte, Nat.reduceAdd, Nat.reduceSub, Nat.reduceLT, Nat.reduceMul, Nat.reduceBEq, Int.reduceLE, Int.reduceLT, Int.reduceAdd, Int.reduceSub, Int.reduceToNat, Int.reduceNeg, Int.reduceMul, Nat.reduceLeDiff]
                        refine ⟨hlt, ?_⟩
                        refine weak_to rfl ?_ ?_ ?_ ?_ ?_ <;> simp only [go_sem, ↓gx_tt, ↓gx_tf, ↓gx_ft, ↓gx_ff, ↓gx_u2, ↓gk_tt, ↓gk_tf, ↓gk_ff, ↓gk_ft, reduceCtorEq, Nat.reduceEqDiff, ↓reduceIte, Nat.reduceAdd, Nat.reduceSub, Nat.reduceLT, Nat.reduceMul, Nat.reduceBEq, Int.reduceLE, Int.reduceLT, Int.reduceAdd, Int.reduceSub, Int.reduceToNat, Int.reduceNeg, Int.reduceMul, Nat.reduceLeDiff, bestE, bestL]
                        rw [IntWalk.i64_in _ (by omega)]; rfl
                      | false =>
                        have htw : twinB pool i pool.length = true := by
                          obtain ⟨j, j1, j2, j3, j4⟩ := law_all (n := 4) (next := [.int 0, .int 0, .int 0, .int 0]) (room := rm) O ⟨hr0, by omega⟩ (by rw [hal]; omega) hlt (by rw [ht]; exact h1) (by rw [hP', ← anyI_in]; exact hin)
                          exact twinB_of j2 (by rw [j3]) j4 j1
                        refine dc_seq (dc_drawn (ok0 gl) (mo gl) [] [0, 0, 0, 0, 0, 1, 0, 0, 0, 0, 0] (by kernel_rfl) (by kernel_rfl) (vd_n [(), (), (), (), ()] ?_))
                        simp only [go_sem, ↓gx_tt, ↓gx_tf, ↓gx_ft, ↓gx_ff, ↓gx_u2, ↓gk_tt, ↓gk_tf, ↓gk_ff, ↓gk_ft, reduceCtorEq, Nat.reduceEqDiff, ↓reduceIte, Nat.reduceAdd, Nat.reduceSub, Nat.reduceLT, Nat.reduceMul, Nat.reduceBEq, Int.reduceLE, Int.reduceLT, Int.reduceAdd, Int.reduceSub, Int.reduceToNat, Int.reduceNeg, Int.reduceMul, Nat.reduceLeDiff]
                        refine vdR_op [(), (), (), (), (), (), (), (), ()] rfl ?_
                        refine vdO_calli _ (court_Next (⟨by simp only [go_sem, ↓gx_tt, ↓gx_tf, ↓gx_ft, ↓gx_ff, ↓gx_u2, ↓gk_tt, ↓gk_tf, ↓gk_ff, ↓gk_ft, reduceCtorEq, Nat.reduceEqDiff, ↓reduceIte, Nat.reduceAdd, Nat.reduceSub, Nat.reduceLT, Nat.reduceMul, Nat.reduceBEq, Int.reduceLE, Int.reduceLT, Int.reduceAdd, Int.reduceSub, Int.reduceToNat, Int.reduceNeg, Int.reduceMul, Nat.reduceLeDiff], ⟨by simp only [go_sem, ↓gx_tt, ↓gx_tf, ↓gx_ft, ↓gx_ff, ↓gx_u2, ↓gk_tt, ↓gk_tf, ↓gk_ff, ↓gk_ft, reduceCtorEq, Nat.reduceEqDiff, ↓reduceIte, Nat.reduceAdd, Nat.reduceSub, Nat.reduceLT, Nat.reduceMul, Nat.reduceBEq, Int.reduceLE, Int.reduceLT, Int.reduceAdd, Int.reduceSub, Int.reduceToNat, Int.reduceNeg, Int.reduceMul, Nat.reduceLeDiff], by simp only [go_sem, ↓gx_tt, ↓gx_tf, ↓gx_ft, ↓gx_ff, ↓gx_u2, ↓gk_tt, ↓gk_tf, ↓gk_ff, ↓gk_ft, reduceCtorEq, Nat.reduceEqDiff, ↓reduceIte, Nat.reduceAdd, Nat.reduceSub, Nat.reduceLT, Nat.reduceMul, Nat.reduceBEq, Int.reduceLE, Int.reduceLT, Int.reduceAdd, Int.reduceSub, Int.reduceToNat, Int.reduceNeg, Int.reduceMul, Nat.reduceLeDiff], by simp only [go_sem, ↓gx_tt, ↓gx_tf, ↓gx_ft, ↓gx_ff, ↓gx_u2, ↓gk_tt, ↓gk_tf, ↓gk_ff, ↓gk_ft, reduceCtorEq, Nat.reduceEqDiff, ↓reduceIte, Nat.reduceAdd, Nat.reduceSub, Nat.reduceLT, Nat.reduceMul, Nat.reduceBEq, Int.reduceLE, Int.reduceLT, Int.reduceAdd, Int.reduceSub, Int.reduceToNat, Int.reduceNeg, Int.reduceMul, Nat.reduceLeDiff]⟩⟩ : Court4 _ (.l 45023) (.l 59023) (.l 78007) (.l 59021) (.l 66003) (.int 0) pool) (t.get 1)) rfl rfl (by simp only [go_sem]) rfl ?_ rfl ?_ ?_ ?_ <;> simp only [go_sem, ↓gx_tt, ↓gx_tf, ↓gx_ft, ↓gx_ff, ↓gx_u2, ↓gk_tt, ↓gk_tf, ↓gk_ff, ↓gk_ft, reduceCtorEq, Nat.reduceEqDiff, ↓reduceIte, Nat.reduceAdd, Nat.reduceSub, Nat.reduceLT, Nat.reduceMul, Nat.reduceBEq, Int.reduceLE, Int.reduceLT, Int.reduceAdd, Int.reduceSub, Int.reduceToNat, Int.reduceNeg, Int.reduceMul, Nat.reduceLeDiff, h1, e3, hin]
                        refine dc_cond _ rfl (fun _ => ?_) (fun h => by simp at h)
                        refine dc_seq (dc_region (ok0 gl) [] (by kernel_rfl) ?_)
                        simp only [go_sem, ↓gx_tt, ↓gx_tf, ↓gx_ft, ↓gx_ff, ↓gx_u2, ↓gk_tt, ↓gk_tf, ↓gk_ff, ↓gk_ft, reduceCtorEq, Nat.reduceEqDiff, ↓reduceIte, Nat.reduceAdd, Nat.reduceSub, Nat.reduceLT, Nat.reduceMul, Nat.reduceBEq, Int.reduceLE, Int.reduceLT, Int.reduceAdd, Int.reduceSub, Int.reduceToNat, Int.reduceNeg, Int.reduceMul, Nat.reduceLeDiff]
                        refine dc_seq (dc_seq (dc_region (ok0 gl) [] (by kernel_rfl) ?_))
                        simp only [go_sem, ↓gx_tt, ↓gx_tf, ↓gx_ft, ↓gx_ff, ↓gx_u2, ↓gk_tt, ↓gk_tf, ↓gk_ff, ↓gk_ft, reduceCtorEq, Nat.reduceEqDiff, ↓reduceIte, Nat.reduceAdd, Nat.reduceSub, Nat.reduceLT, Nat.reduceMul, Nat.reduceBEq, Int.reduceLE, Int.reduceLT, Int.reduceAdd, Int.reduceSub, Int.reduceToNat, Int.reduceNeg, Int.reduceMul, Nat.reduceLeDiff]
                        refine dc_block (dc_count (fun k => ⟨(161, .d (.int .i64) (.int k)) :: (160, .d (.int .i64) (.int pool.length)) :: (159, .d (.slice 2368 tTx) (.slice pool)) :: (22, .d .bool (.bool (twinB pool i k))) :: (18, .cptr tTx t) :: (17, .d (.int .i64) (.int i)) :: (130, .d (.int .i64) (.int i)) :: (129, .d (.int .i64) (.int pool.length)) :: (128, .d (.slice 2368 tTx) (.slice pool)) :: bestE pool P rm, bestL pool, A', []⟩) pool.length (fun _ => True) ?_ trivial ?_)
                        · refine weak_to rfl ?_ ?_ ?_ ?_ ?_ <;> simp only [go_sem, ↓gx_tt, ↓gx_tf, ↓gx_ft, ↓gx_ff, ↓gx_u2, ↓gk_tt, ↓gk_tf, ↓gk_ff, ↓gk_ft, reduceCtorEq, Nat.reduceEqDiff, ↓reduceIte, Nat.reduceAdd, Nat.reduceSub, Nat.reduceLT, Nat.reduceMul, Nat.reduceBEq, Int.reduceLE, Int.reduceLT, Int.reduceAdd, Int.reduceSub, Int.reduceToNat, Int.reduceNeg, Int.reduceMul, Nat.reduceLeDiff, bestE, bestL]
                          exact ⟨rfl, rfl⟩
                        · intro k hk _
                          unfold bestE bestL
                          refine dc_seq (dc_region (ok0 gl) [] (by kernel_rfl) ?_)
                          simp only [go_sem, ↓gx_tt, ↓gx_tf, ↓gx_ft, ↓gx_ff, ↓gx_u2, ↓gk_tt, ↓gk_tf, ↓gk_ff, ↓gk_ft, reduceCtorEq, Nat.reduceEqDiff, ↓reduceIte, Nat.reduceAdd, Nat.reduceSub, Nat.reduceLT, Nat.reduceMul, Nat.reduceBEq, Int.reduceLE, Int.reduceLT, Int.reduceAdd, Int.reduceSub, Int.reduceToNat, Int.reduceNeg, Int.reduceMul, Nat.reduceLeDiff]
                          refine dc_seq (dc_cond _ rfl (fun hlt3 => dc_skip ?_) (fun hge => dc_exit ?_))
                          · have hlt3 : k < pool.length := by have := of_decide_eq_true hlt3; omega
                            have e4 : ((k : Int).toNat) = k := Int.toNat_natCast k
                            have hstep : twinB pool i (k + 1) = (twinB pool i k || (!decide (k = i) && (decide (((pool.getD k .nil).get 1).toInt = (t.get 1).toInt) && decide (((pool.getD k .nil).get 2).toInt = (t.get 2).toInt)))) := by simp only [twinB, ht]
                            refine dc_seq (dc_block (dc_seq (dc_region (ok0 gl) [] (by kernel_rfl) ?_)))
                            simp only [go_sem, ↓gx_tt, ↓gx_tf, ↓gx_ft, ↓gx_ff, ↓gx_u2, ↓gk_tt, ↓gk_tf, ↓gk_ff, ↓gk_ft, reduceCtorEq, Nat.reduceEqDiff, ↓reduceIte, Nat.reduceAdd, Nat.reduceSub, Nat.reduceLT, Nat.reduceMul, Nat.reduceBEq, Int.reduceLE, Int.reduceLT, Int.reduceAdd, Int.reduceSub, Int.reduceToNat, Int.reduceNeg, Int.reduceMul, Nat.reduceLeDiff]
                            cases htk : twinB pool i k with
                            | true =>
                              refine dc_drawn (ok0 gl) (mo gl) [] [0, 0, 0, 0, 0, 0, 0, 0, 0, 0, 0, 0, 0, 0, 0, 0, 0, 0, 0, 0, 0, 0, 0, 0, 0, 0, 0] (by kernel_rfl) (by kernel_rfl) ?_
                              simp only [go_sem, ↓gx_tt, ↓gx_tf, ↓gx_ft, ↓gx_ff, ↓gx_u2, ↓gk_tt, ↓gk_tf, ↓gk_ff, ↓gk_ft, reduceCtorEq, Nat.reduceEqDiff, ↓reduceIte, Nat.reduceAdd, Nat.reduceSub, Nat.reduceLT, Nat.reduceMul, Nat.reduceBEq, Int.reduceLE, Int.reduceLT, Int.reduceAdd, Int.reduceSub, Int.reduceToNat, Int.reduceNeg, Int.reduceMul, Nat.reduceLeDiff, htk]
                              refine dc_region (ok0 gl) [] (by kernel_rfl) ?_
                              simp only [go_sem, ↓gx_tt, ↓gx_tf, ↓gx_ft, ↓gx_ff, ↓gx_u2, ↓gk_tt, ↓gk_tf, ↓gk_ff, ↓gk_ft, reduceCtorEq, Nat.reduceEqDiff, ↓reduceIte, Nat.reduceAdd, Nat.reduceSub, Nat.reduceLT, Nat.reduceMul, Nat.reduceBEq, Int.reduceLE, Int.reduceLT, Int.reduceAdd, Int.reduceSub, Int.reduceToNat, Int.reduceNeg, Int.reduceMul, Nat.reduceLeDiff]
                              refine ⟨hlt3, ?_⟩
                              refine weak_to rfl ?_ ?_ ?_ ?_ ?_ <;> simp only [go_sem, ↓gx_tt, ↓gx_tf, ↓gx_ft, ↓gx_ff, ↓gx_u2, ↓gk_tt, ↓gk_tf, ↓gk_ff, ↓gk_ft, reduceCtorEq, Nat.reduceEqDiff, ↓reduceIte, Nat.reduceAdd, Nat.reduceSub, Nat.reduceLT, Nat.reduceMul, Nat.reduceBEq, Int.reduceLE, Int.reduceLT, Int.reduceAdd, Int.reduceSub, Int.reduceToNat, Int.reduceNeg, Int.reduceMul, Nat.reduceLeDiff, bestE, bestL]
                              refine ⟨?_, ?_⟩
                              · rw [IntWalk.i64_in _ (by omega)]; rfl
                              · rw [hstep, htk]; rfl
                            | false =>
                              by_cases hki : k = i
                              · have hki' : ((k : Int) = (i : Int)) = True := eq_true (by omega)
                                refine dc_drawn (ok0 gl) (mo gl) [] [0, 0, 0, 0, 0, 0, 0, 0, 0, 0, 0, 0, 0, 0, 0, 0, 0, 0, 0, 0, 0, 0, 0, 0, 0, 0, 0] (by kernel_rfl) (by kernel_rfl) ?_
                                simp only [go_sem, ↓gx_tt, ↓gx_tf, ↓gx_ft, ↓gx_ff, ↓gx_u2, ↓gk_tt, ↓gk_tf, ↓gk_ff, ↓gk_ft, reduceCtorEq, Nat.reduceEqDiff, ↓reduceIte, Nat.reduceAdd, Nat.reduceSub, Nat.reduceLT, Nat.reduceMul, Nat.reduceBEq, Int.reduceLE, Int.reduceLT, Int.reduceAdd, Int.reduceSub, Int.reduceToNat, Int.reduceNeg, Int.reduceMul, Nat.reduceLeDiff, htk, hki']
                                refine dc_region (ok0 gl) [] (by kernel_rfl) ?_
                                simp only [go_sem, ↓gx_tt, ↓gx_tf, ↓gx_ft, ↓gx_ff, ↓gx_u2, ↓gk_tt, ↓gk_tf, ↓gk_ff, ↓gk_ft, reduceCtorEq, Nat.reduceEqDiff, ↓reduceIte, Nat.reduceAdd, Nat.reduceSub, Nat.reduceLT, Nat.reduceMul, Nat.reduceBEq, Int.reduceLE, Int.reduceLT, Int.reduceAdd, Int.reduceSub, Int.reduceToNat, Int.reduceNeg, Int.reduceMul, Nat.reduceLeDiff]
                                refine ⟨hlt3, ?_⟩
                                refine weak_to rfl ?_ ?_ ?_ ?_ ?_ <;> simp only [go_sem, ↓gx_tt, ↓gx_tf, ↓gx_ft, ↓gx_ff, ↓gx_u2, ↓gk_tt, ↓gk_tf, ↓gk_ff, ↓gk_ft, reduceCtorEq, Nat.reduceEqDiff, ↓reduceIte, Nat.reduceAdd, Nat.reduceSub, Nat.reduceLT, Nat.reduceMul, Nat.reduceBEq, Int.reduceLE, Int.reduceLT, Int.reduceAdd, Int.reduceSub, Int.reduceToNat, Int.reduceNeg, Int.reduceMul, Nat.reduceLeDiff, bestE, bestL]
                                refine ⟨?_, ?_⟩
                                · rw [IntWalk.i64_in _ (by omega)]; rfl
                                · rw [hstep, htk, decide_eq_true hki]; rfl
                              · have hki' : ¬ (k : Int) = (i : Int) := by omega
                                by_cases hf : ((pool.getD k .nil).get 1).toInt = (t.get 1).toInt
                                · by_cases hn : ((pool.getD k .nil).get 2).toInt = (t.get 2).toInt
                                  · refine dc_drawn (ok0 gl) (mo gl) [] [0, 0, 0, 0, 0, 0, 0, 0, 0, 0, 0, 0, 0, 0, 0, 0, 0, 0, 0, 0, 0, 0, 0, 0, 0, 0, 0] (by kernel_rfl) (by kernel_rfl) ?_
                                    simp only [go_sem, ↓gx_tt, ↓gx_tf, ↓gx_ft, ↓gx_ff, ↓gx_u2, ↓gk_tt, ↓gk_tf, ↓gk_ff, ↓gk_ft, reduceCtorEq, Nat.reduceEqDiff, ↓reduceIte, Nat.reduceAdd, Nat.reduceSub, Nat.reduceLT, Nat.reduceMul, Nat.reduceBEq, Int.reduceLE, Int.reduceLT, Int.reduceAdd, Int.reduceSub, Int.reduceToNat, Int.reduceNeg, Int.reduceMul, Nat.reduceLeDiff, htk, hki', hf, hn, e4]
                                    refine ⟨by omega, by omega, by omega, by omega, ?_⟩
                                    refine dc_region (ok0 gl) [] (by kernel_rfl) ?_
                                    simp only [go_sem, ↓gx_tt, ↓gx_tf, ↓gx_ft, ↓gx_ff, ↓gx_u2, ↓gk_tt, ↓gk_tf, ↓gk_ff, ↓gk_ft, reduceCtorEq, Nat.reduceEqDiff, ↓reduceIte, Nat.reduceAdd, Nat.reduceSub, Nat.reduceLT, Nat.reduceMul, Nat.reduceBEq, Int.reduceLE, Int.reduceLT, Int.reduceAdd, Int.reduceSub, Int.reduceToNat, Int.reduceNeg, Int.reduceMul, Nat.reduceLeDiff]
                                    refine ⟨hlt3, ?_⟩
                                    refine weak_to rfl ?_ ?_ ?_ ?_ ?_ <;> simp only [go_sem, ↓gx_tt, ↓gx_tf, ↓gx_ft, ↓gx_ff, ↓gx_u2, ↓gk_tt, ↓gk_tf, ↓gk_ff, ↓gk_ft, reduceCtorEq, Nat.reduceEqDiff, ↓reduceIte, Nat.reduceAdd, Nat.reduceSub, Nat.reduceLT, Nat.reduceMul, Nat.reduceBEq, Int.reduceLE, Int.reduceLT, Int.reduceAdd, Int.reduceSub, Int.reduceToNat, Int.reduceNeg, Int.reduceMul, Nat.reduceLeDiff, bestE, bestL]
                                    refine ⟨?_, ?_⟩
                                    · rw [IntWalk.i64_in _ (by omega)]; rfl
                                    · rw [hstep, htk, decide_eq_false hki, decide_eq_true hf, decide_eq_true hn]; rfl
                                  · refine dc_drawn (ok0 gl) (mo gl) [] [0, 0, 0, 0, 0, 0, 0, 0, 0, 0, 0, 0, 0, 0, 0, 0, 0, 0, 0, 0, 0, 0, 0, 0, 0, 0, 0] (by kernel_rfl) (by kernel_rfl) ?_
                                    simp only [go_sem, ↓gx_tt, ↓gx_tf, ↓gx_ft, ↓gx_ff, ↓gx_u2, ↓gk_tt, ↓gk_tf, ↓gk_ff, ↓gk_ft, reduceCtorEq, Nat.reduceEqDiff, ↓reduceIte, Nat.reduceAdd, Nat.reduceSub, Nat.reduceLT, Nat.reduceMul, Nat.reduceBEq, Int.reduceLE, Int.reduceLT, Int.reduceAdd, Int.reduceSub, Int.reduceToNat, Int.reduceNeg, Int.reduceMul, Nat.reduceLeDiff, htk, hki', hf, hn, e4]
                                    refine ⟨by omega, by omega, by omega, by omega, ?_⟩
                                    refine dc_region (ok0 gl) [] (by kernel_rfl) ?_
                                    simp only [go_sem, ↓gx_tt, ↓gx_tf, ↓gx_ft, ↓gx_ff, ↓gx_u2, ↓gk_tt, ↓gk_tf, ↓gk_ff, ↓gk_ft, reduceCtorEq, Nat.reduceEqDiff, ↓reduceIte, Nat.reduceAdd, Nat.reduceSub, Nat.reduceLT, Nat.reduceMul, Nat.reduceBEq, Int.reduceLE, Int.reduceLT, Int.reduceAdd, Int.reduceSub, Int.reduceToNat, Int.reduceNeg, Int.reduceMul, Nat.reduceLeDiff]
                                    refine ⟨hlt3, ?_⟩
                                    refine weak_to rfl ?_ ?_ ?_ ?_ ?_ <;> simp only [go_sem, ↓gx_tt, ↓gx_tf, ↓gx_ft, ↓gx_ff, ↓gx_u2, ↓gk_tt, ↓gk_tf, ↓gk_ff, ↓gk_ft, reduceCtorEq, Nat.reduceEqDiff, ↓reduceIte, Nat.reduceAdd, Nat.reduceSub, Nat.reduceLT, Nat.reduceMul, Nat.reduceBEq, Int.reduceLE, Int.reduceLT, Int.reduceAdd, Int.reduceSub, Int.reduceToNat, Int.reduceNeg, Int.reduceMul, Nat.reduceLeDiff, bestE, bestL]
                                    refine ⟨?_, ?_⟩
                                    · rw [IntWalk.i64_in _ (by omega)]; rfl
                                    · rw [hstep, htk, decide_eq_false hki, decide_eq_true hf, decide_eq_false hn]; rfl
                                · refine dc_drawn (ok0 gl) (mo gl) [] [0, 0, 0, 0, 0, 0, 0, 0, 0, 0, 0, 0, 0, 0, 0, 0, 0, 0, 0, 0, 0, 0, 0, 0, 0, 0, 0] (by kernel_rfl) (by kernel_rfl) ?_
                                  simp only [go_sem, ↓gx_tt, ↓gx_tf, ↓gx_ft, ↓gx_ff, ↓gx_u2, ↓gk_tt, ↓gk_tf, ↓gk_ff, ↓gk_ft, reduceCtorEq, Nat.reduceEqDiff, ↓reduceIte, Nat.reduceAdd, Nat.reduceSub, Nat.reduceLT, Nat.reduceMul, Nat.reduceBEq, Int.reduceLE, Int.reduceLT, Int.reduceAdd, Int.reduceSub, Int.reduceToNat, Int.reduceNeg, Int.reduceMul, Nat.reduceLeDiff, htk, hki', hf, e4]
                                  refine ⟨by omega, by omega, ?_⟩
                                  refine dc_region (ok0 gl) [] (by kernel_rfl) ?_
                                  simp only [go_sem, ↓gx_tt, ↓gx_tf, ↓gx_ft, ↓gx_ff, ↓gx_u2, ↓gk_tt, ↓gk_tf, ↓gk_ff, ↓gk_ft, reduceCtorEq, Nat.reduceEqDiff, ↓reduceIte, Nat.reduceAdd, Nat.reduceSub, Nat.reduceLT, Nat.reduceMul, Nat.reduceBEq, Int.reduceLE, Int.reduceLT, Int.reduceAdd, Int.reduceSub, Int.reduceToNat, Int.reduceNeg, Int.reduceMul, Nat.reduceLeDiff]
                                  refine ⟨hlt3, ?_⟩
                                  refine weak_to rfl ?_ ?_ ?_ ?_ ?_ <;> simp only [go_sem, ↓gx_tt, ↓gx_tf, ↓gx_ft, ↓gx_ff, ↓gx_u2, ↓gk_tt, ↓gk_tf, ↓gk_ff, ↓gk_ft, reduceCtorEq, Nat.reduceEqDiff, ↓reduceIte, Nat.reduceAdd, Nat.reduceSub, Nat.reduceLT, Nat.reduceMul, Nat.reduceBEq, Int.reduceLE, Int.reduceLT, Int.reduceAdd, Int.reduceSub, Int.reduceToNat, Int.reduceNeg, Int.reduceMul, Nat.reduceLeDiff, bestE, bestL]
                                  refine ⟨?_, ?_⟩
                                  · rw [IntWalk.i64_in _ (by omega)]; rfl
                                  · rw [hstep, htk, decide_eq_false hki, decide_eq_false hf]; rfl
                          · have hge : pool.length ≤ k := by have := of_decide_eq_false hge; omega
                            have e5 : k = pool.length := by omega
                            subst e5
                            refine dc_seq (dc_region (ok0 gl) [] (by kernel_rfl) ?_)
                            simp only [go_sem, ↓gx_tt, ↓gx_tf, ↓gx_ft, ↓gx_ff, ↓gx_u2, ↓gk_tt, ↓gk_tf, ↓gk_ff, ↓gk_ft, reduceCtorEq, Nat.reduceEqDiff, ↓reduceIte, Nat.reduceAdd, Nat.reduceSub, Nat.reduceLT, Nat.reduceMul, Nat.reduceBEq, Int.reduceLE, Int.reduceLT, Int.reduceAdd, Int.reduceSub, Int.reduceToNat, Int.reduceNeg, Int.reduceMul, Nat.reduceLeDiff, htw]
                            refine dc_cond _ rfl (fun h => by simp at h) (fun _ => dc_skip ?_)
                            refine dc_region (ok0 gl) [] (by kernel_rfl) ?_
                            simp only [go_sem, ↓gx_tt, ↓gx_tf, ↓gx_ft, ↓gx_ff, ↓gx_u2, ↓gk_tt, ↓gk_tf, ↓gk_ff, ↓gk_ft, reduceCtorEq, Nat.reduceEqDiff, ↓reduceIte, Nat.reduceAdd, Nat.reduceSub, Nat.reduceLT, Nat.reduceMul, Nat.reduceBEq, Int.reduceLE, Int.reduceLT, Int.reduceAdd, Int.reduceSub, Int.reduceToNat, Int.reduceNeg, Int.reduceMul, Nat.reduceLeDiff]
                            refine ⟨hlt, ?_⟩
                            refine weak_to rfl ?_ ?_ ?_ ?_ ?_ <;> simp only [go_sem, ↓gx_tt, ↓gx_tf, ↓gx_ft, ↓gx_ff, ↓gx_u2, ↓gk_tt, ↓gk_tf, ↓gk_ff, ↓gk_ft, reduceCtorEq, Nat.reduceEqDiff, ↓reduceIte, Nat.reduceAdd, Nat.reduceSub, Nat.reduceLT, Nat.reduceMul, Nat.reduceBEq, Int.reduceLE, Int.reduceLT, Int.reduceAdd, Int.reduceSub, Int.reduceToNat, Int.reduceNeg, Int.reduceMul, Nat.reduceLeDiff, bestE, bestL]
                            rw [IntWalk.i64_in _ (by omega)]; rfl
                    · refine dc_seq (dc_drawn (ok0 gl) (mo gl) [] [0, 0, 0, 0, 0, 1, 0, 0, 0, 0, 0] (by kernel_rfl) (by kernel_rfl) (vd_n [(), (), (), (), ()] ?_))
                      simp only [go_sem, ↓gx_tt, ↓gx_tf, ↓gx_ft, ↓gx_ff, ↓gx_u2, ↓gk_tt, ↓gk_tf, ↓gk_ff, ↓gk_ft, reduceCtorEq, Nat.reduceEqDiff, ↓reduceIte, Nat.reduceAdd, Nat.reduceSub, Nat.reduceLT, Nat.reduceMul, Nat.reduceBEq, Int.reduceLE, Int.reduceLT, Int.reduceAdd, Int.reduceSub, Int.reduceToNat, Int.reduceNeg, Int.reduceMul, Nat.reduceLeDiff]
                      refine vdR_op [(), (), (), (), (), (), (), (), ()] rfl ?_
                      refine vdO_calli _ (court_Next (⟨by simp only [go_sem, ↓gx_tt, ↓gx_tf, ↓gx_ft, ↓gx_ff, ↓gx_u2, ↓gk_tt, ↓gk_tf, ↓gk_ff, ↓gk_ft, reduceCtorEq, Nat.reduceEqDiff, ↓reduceIte, Nat.reduceAdd, Nat.reduceSub, Nat.reduceLT, Nat.reduceMul, Nat.reduceBEq, Int.reduceLE, Int.reduceLT, Int.reduceAdd, Int.reduceSub, Int.reduceToNat, Int.reduceNeg, Int.reduceMul, Nat.reduceLeDiff], ⟨by simp only [go_sem, ↓gx_tt, ↓gx_tf, ↓gx_ft, ↓gx_ff, ↓gx_u2, ↓gk_tt, ↓gk_tf, ↓gk_ff, ↓gk_ft, reduceCtorEq, Nat.reduceEqDiff, ↓reduceIte, Nat.reduceAdd, Nat.reduceSub, Nat.reduceLT, Nat.reduceMul, Nat.reduceBEq, Int.reduceLE, Int.reduceLT, Int.reduceAdd, Int.reduceSub, Int.reduceToNat, Int.reduceNeg, Int.reduceMul, Nat.reduceLeDiff], by simp only [go_sem, ↓gx_tt, ↓gx_tf, ↓gx_ft, ↓gx_ff, ↓gx_u2, ↓gk_tt, ↓gk_tf, ↓gk_ff, ↓gk_ft, reduceCtorEq, Nat.reduceEqDiff, ↓reduceIte, Nat.reduceAdd, Nat.reduceSub, Nat.reduceLT, Nat.reduceMul, Nat.reduceBEq, Int.reduceLE, Int.reduceLT, Int.reduceAdd, Int.reduceSub, Int.reduceToNat, Int.reduceNeg, Int.reduceMul, Nat.reduceLeDiff], by simp only [go_sem, ↓gx_tt, ↓gx_tf, ↓gx_ft, ↓gx_ff, ↓gx_u2, ↓gk_tt, ↓gk_tf, ↓gk_ff, ↓gk_ft, reduceCtorEq, Nat.reduceEqDiff, ↓reduceIte, Nat.reduceAdd, Nat.reduceSub, Nat.reduceLT, Nat.reduceMul, Nat.reduceBEq, Int.reduceLE, Int.reduceLT, Int.reduceAdd, Int.reduceSub, Int.reduceToNat, Int.reduceNeg, Int.reduceMul, Nat.reduceLeDiff]⟩⟩ : Court4 _ (.l 45023) (.l 59023) (.l 78007) (.l 59021) (.l 66003) (.int 0) pool) (t.get 1)) rfl rfl (by simp only [go_sem]) rfl ?_ rfl ?_ ?_ ?_ <;> simp only [go_sem, ↓gx_tt, ↓gx_tf, ↓gx_ft, ↓gx_ff, ↓gx_u2, ↓gk_tt, ↓gk_tf, ↓gk_ff, ↓gk_ft, reduceCtorEq, Nat.reduceEqDiff, ↓reduceIte, Nat.reduceAdd, Nat.reduceSub, Nat.reduceLT, Nat.reduceMul, Nat.reduceBEq, Int.reduceLE, Int.reduceLT, Int.reduceAdd, Int.reduceSub, Int.reduceToNat, Int.reduceNeg, Int.reduceMul, Nat.reduceLeDiff, h1, e3]
                      refine dc_cond _ rfl (fun h => by simp at h) (fun _ => dc_skip ?_)
                      refine dc_region (ok0 gl) [] (by kernel_rfl) ?_
                      simp only [go_sem, ↓gx_tt, ↓gx_tf, ↓gx_ft, ↓gx_ff, ↓gx_u2, ↓gk_tt, ↓gk_tf, ↓gk_ff, ↓gk_ft, reduceCtorEq, Nat.reduceEqDiff, ↓reduceIte, Nat.reduceAdd, Nat.reduceSub, Nat.reduceLT, Nat.reduceMul, Nat.reduceBEq, Int.reduceLE, Int.reduceLT, Int.reduceAdd, Int.reduceSub, Int.reduceToNat, Int.reduceNeg, Int.reduceMul, Nat.reduceLeDiff]
                      refine ⟨hlt, ?_⟩
                      refine weak_to rfl ?_ ?_ ?_ ?_ ?_ <;> simp only [go_sem, ↓gx_tt, ↓gx_tf, ↓gx_ft, ↓gx_ff, ↓gx_u2, ↓gk_tt, ↓gk_tf, ↓gk_ff, ↓gk_ft, reduceCtorEq, Nat.reduceEqDiff, ↓reduceIte, Nat.reduceAdd, Nat.reduceSub, Nat.reduceLT, Nat.reduceMul, Nat.reduceBEq, Int.reduceLE, Int.reduceLT, Int.reduceAdd, Int.reduceSub, Int.reduceToNat, Int.reduceNeg, Int.reduceMul, Nat.reduceLeDiff, bestE, bestL]
                      rw [IntWalk.i64_in _ (by omega)]; rfl
              · refine dc_seq (dc_region (ok0 gl) [] (by kernel_rfl) (vc_n [] ?_))
                simp only [go_sem, ↓gx_tt, ↓gx_tf, ↓gx_ft, ↓gx_ff, ↓gx_u2, ↓gk_tt, ↓gk_tf, ↓gk_ff, ↓gk_ft, reduceCtorEq, Nat.reduceEqDiff, ↓reduceIte, Nat.reduceAdd, Nat.reduceSub, Nat.reduceLT, Nat.reduceMul, Nat.reduceBEq, Int.reduceLE, Int.reduceLT, Int.reduceAdd, Int.reduceSub, Int.reduceToNat, Int.reduceNeg, Int.reduceMul, Nat.reduceLeDiff]
                refine vcR_op [(), (), (), (), (), (), (), (), ()] rfl ?_
                refine vcO_call _ (awake hg _) rfl (by simp only [go_sem]) rfl ?_ ?_ ?_ ?_ ?_ <;> simp only [go_sem, ↓gx_tt, ↓gx_tf, ↓gx_ft, ↓gx_ff, ↓gx_u2, ↓gk_tt, ↓gk_tf, ↓gk_ff, ↓gk_ft, reduceCtorEq, Nat.reduceEqDiff, ↓reduceIte, Nat.reduceAdd, Nat.reduceSub, Nat.reduceLT, Nat.reduceMul, Nat.reduceBEq, Int.reduceLE, Int.reduceLT, Int.reduceAdd, Int.reduceSub, Int.reduceToNat, Int.reduceNeg, Int.reduceMul, Nat.reduceLeDiff]
                refine dc_ret ⟨.inr rfl, ?_⟩
                simp only [retOk, go_sem, ↓gx_tt, ↓gx_tf, ↓gx_ft, ↓gx_ff, ↓gx_u2, ↓gk_tt, ↓gk_tf, ↓gk_ff, ↓gk_ft, reduceCtorEq, Nat.reduceEqDiff, ↓reduceIte, Nat.reduceAdd, Nat.reduceSub, Nat.reduceLT, Nat.reduceMul, Nat.reduceBEq, Int.reduceLE, Int.reduceLT, Int.reduceAdd, Int.reduceSub, Int.reduceToNat, Int.reduceNeg, Int.reduceMul, Nat.reduceLeDiff, Tryd.f3] <;> try rfl
end Go.Proofs.YtocikigkaboleaaDoor
