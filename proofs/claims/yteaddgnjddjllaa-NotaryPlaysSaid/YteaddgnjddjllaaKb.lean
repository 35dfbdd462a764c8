/-
 What the functions on the way compute, part 2.
 Conditions: none.
-/
import Derived.Test.YteaddgnjddjllaaKa
set_option linter.all false
namespace Go.Proofs.Yteaddgnjddjllaa
open Go Go.E
set_option maxRecDepth 100000
set_option maxHeartbeats 4000000
set_option linter.unusedSimpArgs false
variable {R : Type} {N : Nat}
def z7D : Es → C → C → Es
 | [], c, v => [(c, v)]
 | (k, u) :: l, c, v => if C.beq c k = true then (k, v) :: l else (k, u) :: z7D l c v
theorem z5i (τ : Ty) (c v : C) : ∀ m : Es, q9z (dE τ m) c (V.d τ v) = dE τ (z7D m c v)
 | [] => rfl
 | (k, u) :: m => by
  have ih := z5i τ c v m
  simp only [dE, List.map_cons, q9z, z7D] at ih ⊢
  by_cases h : C.beq c k = true
  ·simp [h]
  ·simp [h, ih]
def inT (m : Es) (c : C) : Bool := q5p m (c.get 3) && decide (((getM m (c.get 3)).get 1).toInt ≤ (c.get 4).toInt)
def ofP (m : Es) (c : C) (height : Int) : Int := if inT m c = true then 1 else if (c.get 4).toInt < height then 2 else 0
theorem y2C (h : C) (a1 b0 : C) (m : Es) (k : KD R) : J6 N h a1 b0 m k = k [if q5p m h = true then (getM m h).get 1 else .int 0, .bool (q5p m h)] [] := by
 rw [q5v]
 unfold q1s
 simp only [go_sem]
 cases q5p m h <;> rfl
theorem y8g (h x : C) (a1 b0 : C) (m : Es) (k : KD R) : F9 N h x a1 b0 m k = k [.bool (q5p m h && decide (((getM m h).get 1).toInt ≤ x.toInt))] [] := by
 rw [q6x]
 unfold q2h
 simp only [go_sem, y2C, J8]
 cases hm : q5p m h <;> simp [hm]
theorem of_eq (c height : C) (b0 : C) (m : Es) (k : KD R) : X9 N c height b0 m k = k [.int (ofP m c height.toInt)] [] := by
 rw [q6u]
 unfold q2g ofP inT
 simp only [go_sem, y8g, J8]
 cases h : q5p m (c.get 3)
 ·by_cases h2 : (c.get 4).toInt < height.toInt <;> simp [h2]
 ·by_cases h1 : ((getM m (c.get 3)).get 1).toInt ≤ (c.get 4).toInt
  ·simp [h1]
  ·by_cases h2 : (c.get 4).toInt < height.toInt <;> simp [h1, h2]
theorem y6W (s : C) (hN : 5000 < N) (hN2 : N < 4611686018427387904) : ∃ c : C, ∀ k : KD R, q1b N s k = k [c] [] := by
 obtain ⟨c, _, h⟩ := y9H (R := R) (N := N) (.int 6) [C.slice (cut (C.elems s) 0 32)] 100 (fun x hx => ⟨_, List.mem_singleton.1 hx, by simp [cut]; omega⟩) (by simp; omega) (by omega) hN2
 refine ⟨c, fun k => ?_⟩
 rw [q80]
 unfold q4k
 simp only [h, w6]
theorem y6l (s h x y c : C) (hc : ∀ k : KD R, q1b N s k = k [c] []) (k : KD R) : X8 N s h x y [] k = k [.int 0] [[(c, .agg [s, h])]] := by
 rw [q2X]
 unfold q0z
 have e : dm [([] : Es)] 0 = [] := rfl
 simp only [hc, w6, e, q9j, z0K, z5i, J3, q0t, q5p, z7D, cond_true, cond_false, if_true]
 rfl
theorem y4u (hN : 5000 < N) (hN2 : N < 4611686018427387904) (k : KD R) : q1B N k = k [.bool true] [] := by
 obtain ⟨c, hc⟩ := y6W (R := R) (N := N) (C.set (u7 (Ty.arr 32 (Ty.int IntKind.u8))) 0 (C.int 1)) hN hN2
 rw [z0G]
 unfold q4E
 have e0 : dm [[(c, C.agg [(u7 (Ty.arr 32 (Ty.int IntKind.u8))).set 0 (C.int 1), C.int 6])]] 0 = [(c, C.agg [(u7 (Ty.arr 32 (Ty.int IntKind.u8))).set 0 (C.int 1), C.int 6])] := rfl
 have g3 : C.get (((C.agg [C.int 0, C.int 0, C.int 0, C.agg (List.replicate 32 (C.int 0)), C.int 0]).set 3 c).set 4 (C.int 5)) 3 = c := rfl
 have g4 : C.get (((C.agg [C.int 0, C.int 0, C.int 0, C.agg (List.replicate 32 (C.int 0)), C.int 0]).set 3 c).set 4 (C.int 5)) 4 = .int 5 := rfl
 have g1 : C.get (C.agg [(u7 (Ty.arr 32 (Ty.int IntKind.u8))).set 0 (C.int 1), C.int 6]) 1 = .int 6 := rfl
 simp only [hc, w6, u0, y2G, y6l _ _ _ _ _ hc, e0, q5s, J3, q0t, q9j, z0K, z7P, q5p, getM, z3I, cond_true, cond_false, if_true, u9, J8, w7, decide_true, of_eq, ofP, inT, g3, g4, g1]
 rfl
end Go.Proofs.Yteaddgnjddjllaa
namespace Go.Proofs.Yteaddgnjddjllaa
open Go Go.E
set_option maxRecDepth 100000
set_option maxHeartbeats 4000000
set_option linter.unusedSimpArgs false
variable {R : Type} {N : Nat}
abbrev W32 := BitVec 32
def wI (x : W32) : C := .int (x.toNat : Int)
theorem q2s (x : W32) : (wI x).toInt = (x.toNat : Int) := rfl
theorem wrap_u32 (x : Int) : IntKind.u32.wrap x = x % 4294967296 := by simp [IntKind.wrap, IntKind.bits, IntKind.signed]
theorem q0d (x : W32) : x.toNat < 4294967296 := x.isLt
theorem q8w (x : W32) : BitVec.ofInt 32 (x.toNat : Int) = x := by
 rw [BitVec.ofInt_natCast, BitVec.ofNat_toNat, BitVec.setWidth_eq]
theorem z92 (x : W32) : IntKind.u32.wrap (x.toNat : Int) = (x.toNat : Int) := by
 rw [wrap_u32]; have := q0d x; omega
theorem y3l (x y : W32) : o5 BinOp.or IntKind.u32 (x.toNat : Int) (y.toNat : Int) = ((x ||| y).toNat : Int) := by
 show IntKind.u32.wrap (((BitVec.ofInt 32 (x.toNat : Int)) ||| (BitVec.ofInt 32 (y.toNat : Int))).toNat : Int) = _
 rw [q8w, q8w]; exact z92 _
theorem y7U (x y : W32) : o5 BinOp.and IntKind.u32 (x.toNat : Int) (y.toNat : Int) = ((x &&& y).toNat : Int) := by
 show IntKind.u32.wrap (((BitVec.ofInt 32 (x.toNat : Int)) &&& (BitVec.ofInt 32 (y.toNat : Int))).toNat : Int) = _
 rw [q8w, q8w]; exact z92 _
theorem z9C (x y : W32) : o5 BinOp.xor IntKind.u32 (x.toNat : Int) (y.toNat : Int) = ((x ^^^ y).toNat : Int) := by
 show IntKind.u32.wrap (((BitVec.ofInt 32 (x.toNat : Int)) ^^^ (BitVec.ofInt 32 (y.toNat : Int))).toNat : Int) = _
 rw [q8w, q8w]; exact z92 _
theorem z9D (x y : W32) : IntKind.u32.wrap ((x.toNat : Int) + (y.toNat : Int)) = ((x + y).toNat : Int) := by
 rw [wrap_u32, BitVec.toNat_add]; omega
theorem y7T (x : W32) (k : Nat) : IntKind.u32.wrap ((x.toNat : Int) * 2 ^ k) = ((x <<< k).toNat : Int) := by
 rw [wrap_u32, BitVec.toNat_shiftLeft, Nat.shiftLeft_eq]
 have : ((x.toNat * 2 ^ k : Nat) : Int) = (x.toNat : Int) * 2 ^ k := by simp
 omega
theorem y7S (x : W32) (k : Nat) : Int.fdiv (x.toNat : Int) (2 ^ k) = ((x >>> k).toNat : Int) := by
 rw [BitVec.toNat_ushiftRight, Nat.shiftRight_eq_div_pow, Int.fdiv_eq_ediv_of_nonneg _ (Int.pow_nonneg (by omega))]
 simp
def q3N (x : W32) (k : Nat) : W32 := x <<< (32 - k) ||| x >>> k
theorem y0i (x : W32) (a : Int) (s : Nat) (hs : o5 BinOp.and IntKind.u64 (IntKind.wrap IntKind.u64 a) 31 = ((32 - s : Nat) : Int)) (h0 : 0 < s) (h1 : s ≤ 32) (k : KD R) :
  Z1 N (wI x) (.int a) k = k [wI (q3N x s)] [] := by
 have e1 : IntKind.u64.wrap (32 - ((32 - s : Nat) : Int)) = (s : Int) := by rw [wrap_u64 (by omega) (by omega)]; omega
 have e2 : min (32 - s) 32 = 32 - s := by omega
 have e3 : min s 32 = s := by omega
 rw [q1R]
 unfold H8
 simp only [w7, q2s, hs, e1, Int.toNat_natCast, e2, e3, y7T, y7S, y3l, Int.natCast_nonneg, if_true]
 rfl
def z2A (x : W32) (a b c : Nat) (f : Bool) : W32 := q3N x a ^^^ q3N x b ^^^ (if f then x >>> c else q3N x c)
theorem z00 (x : W32) (a b c : Nat) (f : Bool) (ha : 0 < a ∧ a ≤ 31) (hb : 0 < b ∧ b ≤ 31) (hc : 0 < c ∧ c ≤ 31) (k : KD R) :
  W4 N (wI x) (.int a) (.int b) (.int c) (.bool f) k = k [wI (z2A x a b c f)] [] := by
 have key : ∀ s : Nat, 0 < s ∧ s ≤ 31 → o5 BinOp.and IntKind.u64 (IntKind.wrap IntKind.u64 (IntKind.wrap IntKind.i64 (0 - (s : Int)))) 31 = ((32 - s : Nat) : Int) := by
  intro s hs
  have : ∀ s : Fin 32, 0 < s.val → o5 BinOp.and IntKind.u64 (IntKind.wrap IntKind.u64 (IntKind.wrap IntKind.i64 (0 - (s.val : Int)))) 31 = ((32 - s.val : Nat) : Int) := by decide
  exact this ⟨s, by omega⟩ hs.1
 have ra := fun k : KD R => y0i (N := N) x (IntKind.wrap IntKind.i64 (0 - (a : Int))) a (key a ha) ha.1 (by omega) k
 have rb := fun k : KD R => y0i (N := N) x (IntKind.wrap IntKind.i64 (0 - (b : Int))) b (key b hb) hb.1 (by omega) k
 have rc := fun k : KD R => y0i (N := N) x (IntKind.wrap IntKind.i64 (0 - (c : Int))) c (key c hc) hc.1 (by omega) k
 have e3 : min c 32 = c := by omega
 rw [q5d]
 unfold q2q
 cases f
 ·simp only [u9, w6, u0, o8, j9, w7, J8, ra, rb, rc, cond_false, q2s, z9C]
  rfl
 ·simp only [u9, w6, u0, o8, j9, w7, J8, ra, rb, rc, cond_true, q2s, Int.natCast_nonneg, if_true, Int.toNat_natCast, e3, y7S, z9C]
  rfl
def q5M (b : List C) : W32 := b.foldl (fun n c => n <<< 8 ||| BitVec.ofInt 32 c.toInt) 0
end Go.Proofs.Yteaddgnjddjllaa
namespace Go.Proofs.Yteaddgnjddjllaa
open Go Go.E
set_option maxRecDepth 100000
set_option maxHeartbeats 4000000
set_option linter.unusedVariables false
noncomputable def z7y : Hints := [([1, 0, 1, 1], ⟨[0, 2], [(7, .d (.int .u64))], [], [], [], []⟩),
  ([4, 1, 0, 1, 1], ⟨[0, 1, 2], [(7, .d (.int .u64)), (8, .d (.int .i64))], [], [], [], []⟩),
  ([9], ⟨[], [(6, .d (.int .u64))], [], [], [], []⟩)]
noncomputable def z0s (N : Nat) : OvS (X0 gl0) where
 g R := []
 ok := fun R => fun _ h => nomatch h
noncomputable def q2S {R : Type} (N : Nat) (k2 : KD R) : KD R → List C → List Es → Option R := (fun k3 d1 m1 => (bif decide (C.toInt (dk d1 4) < C.toInt (dk d1 1)) then (k3 [dk d1 0, dk d1 1, C.bool (C.toBool (dk d1 2)), C.int (IntKind.wrap IntKind.u64 (C.toInt (dk d1 3) * 2)), C.int (IntKind.wrap IntKind.i64 (C.toInt (dk d1 4) + 1))] []) else (k2 [dk d1 0, C.bool (C.toBool (dk d1 2)), dk d1 3] [])))
noncomputable def q4z {R : Type} (N : Nat) (a0 a1 a2 : C) (k1 : KD R) : Option R := (jn (fun d1 m1 => (bif C.toBool (dk d1 1) then (if C.toInt (dk d1 2) ≠ 0 then (if C.toInt (dk d1 2) ≠ 0 then (if C.toInt (dk d1 2) ≠ 0 then (k1 [C.int (IntKind.wrap IntKind.u64 (IntKind.wrap IntKind.u64 (Int.tdiv (C.toInt (dk d1 0)) (C.toInt (dk d1 2))) + IntKind.wrap IntKind.u64 (Int.tmod (C.toInt (dk d1 0)) (C.toInt (dk d1 2)) * IntKind.wrap IntKind.u64 (Int.tdiv 4294967296 (C.toInt (dk d1 2))))))] []) else none) else none) else none) else (if C.toInt (dk d1 2) ≠ 0 then (k1 [C.int (IntKind.wrap IntKind.u64 (Int.tdiv (C.toInt (dk d1 0)) (C.toInt (dk d1 2))))] []) else none))) (fun k2 => (k9 N (q2S N k2) [a0, a1, C.bool (C.toBool a2), C.int 1, C.int 0] [])))
noncomputable def o7 {R : Type} (N : Nat) : C → C → C → KD R → Option R := lid "" (q4z N)
theorem z0r {R : Type} (N : Nat) (a0 a1 a2 : C) (k : KD R) : o7 N a0 a1 a2 k = q4z N a0 a1 a2 k := by unfold o7; rw [Z9]
theorem z6b {R : Type} (N : Nat) (a0 a1 a2 : C) (K : V → List (Key × O) → Option R) : exF (X0 gl0) ((z0s N).ov R) F0 noX (fun f => bif Nat.beq f 65 then z7y else []) N 400 8 65 [.d (.int .u64) a0, .d (.int .i64) a1, .d .bool a2] A0 K =
  o7 N a0 a1 a2 (fun d1 m1 => K (V.d (Ty.int IntKind.u64) (dk d1 0)) []) := by
 rw [z0r]
 exact (show _ = jn (fun d1 m1 => (K (V.d (Ty.int IntKind.u64) (dk d1 0)) [])) (q4z N a0 a1 a2) by kernel_rfl).trans (u9 _ _)
noncomputable def q7Y (N : Nat) {R : Type} : OvG R := fun xs _ K => match xs with
 | [.d t0 a0, .d t1 a1, .d t2 a2] => if t0 = (.int .u64) ∧ t1 = (.int .i64) ∧ t2 = .bool then o7 N a0 a1 a2 (fun d1 m1 => K (V.d (Ty.int IntKind.u64) (dk d1 0)) []) else none
 | _ => none
theorem z7x (N : Nat) {R : Type} : GOk (X0 gl0) 65 (q7Y N (R := R)) := by
 intro xs A Kr r hr
 unfold q7Y at hr
 split at hr
 ·simp only [Option.ite_none_right_eq_some] at hr
  obtain ⟨hty, hr⟩ := hr
  obtain ⟨rfl, rfl, rfl⟩ := hty
  rw [← z6b] at hr
  exact okA (z0s N) hr
 ·cases hr
end Go.Proofs.Yteaddgnjddjllaa
namespace Go.Proofs.Yteaddgnjddjllaa
open Go Go.E
set_option maxRecDepth 100000
set_option maxHeartbeats 4000000
set_option linter.unusedSimpArgs false
variable {R : Type} {N : Nat}
theorem y6I (x : W32) (n : Nat) (h1 : n ≤ 32) : (q3N x n).toNat = x.toNat / 2 ^ n + x.toNat % 2 ^ n * 2 ^ (32 - n) := by
 have hx := q0d x
 have hb : x.toNat / 2 ^ n < 2 ^ (32 - n) := by
  rw [Nat.div_lt_iff_lt_mul (Nat.two_pow_pos n), ← Nat.pow_add, show 32 - n + n = 32 by omega]
  exact hx
 have hm : x.toNat * 2 ^ (32 - n) % 4294967296 = x.toNat % 2 ^ n * 2 ^ (32 - n) := by
  rw [show (4294967296 : Nat) = 2 ^ n * 2 ^ (32 - n) by rw [← Nat.pow_add, show n + (32 - n) = 32 by omega]]
  exact Nat.mul_mod_mul_right _ _ _
 unfold q3N
 rw [BitVec.toNat_or, BitVec.toNat_shiftLeft, BitVec.toNat_ushiftRight, Nat.shiftLeft_eq, Nat.shiftRight_eq_div_pow]
 rw [show (2 : Nat) ^ 32 = 4294967296 by decide, hm, Nat.mul_comm (x.toNat % 2 ^ n)]
 rw [← Nat.two_pow_add_eq_or_of_lt hb]
 omega
theorem q1y (x : W32) (n : Nat) (h0 : 0 < n) (h1 : n ≤ 31) (f : Bool) (hN : 100 < N) (k : KD R) : o7 N (wI x) (.int n) (.bool f) k = k [wI (if f then q3N x n else x >>> n)] [] := by
 have lp : ∀ K : KD R, k9 N (q2S N K) [wI x, .int n, .bool f, .int 1, .int 0] [] = K [wI x, .bool f, .int ((2 ^ n : Nat) : Int)] [] := fun K => by
  refine U9 (F := q2S N K) (fun i => [wI x, .int n, .bool f, .int ((2 ^ i : Nat) : Int), .int i]) (fun _ => []) n _ ?_ ?_ (N := N) (by omega)
  ·intro i hi rec
   have e1 : (i : Int) < (n : Int) := by omega
   have e2 : 2 ^ i ≤ 2 ^ 31 := Nat.pow_le_pow_right (by omega) (by omega)
   have e3 : IntKind.u64.wrap (((2 ^ i : Nat) : Int) * 2) = ((2 ^ (i + 1) : Nat) : Int) := by
    rw [Nat.pow_succ]
    obtain ⟨q, hq⟩ : ∃ q : Nat, 2 ^ i = q := ⟨_, rfl⟩
    rw [hq] at e2 ⊢
    rw [wrap_u64 (by omega) (by omega)]; omega
   unfold q2S
   simp only [w6, u0, o8, j9, Y3, w7, J8, e1, e3, decide_true, cond_true, c9 (show i < 4611686018427387904 by omega)]
  ·intro rec
   unfold q2S
   simp only [w6, u0, o8, j9, Y3, w7, J8, Int.lt_irrefl, decide_false, cond_false]
 have hx := q0d x
 obtain ⟨p, hp⟩ : ∃ p : Nat, 2 ^ n = p := ⟨_, rfl⟩
 obtain ⟨r, hr⟩ : ∃ r : Nat, 2 ^ (32 - n) = r := ⟨_, rfl⟩
 have hp1 : 0 < p := by rw [← hp]; exact Nat.two_pow_pos n
 have hpr : 4294967296 = p * r := by rw [← hp, ← hr, ← Nat.pow_add, show n + (32 - n) = 32 by omega]
 have td : ∀ a : Nat, Int.tdiv (a : Int) (p : Int) = ((a / p : Nat) : Int) := fun a => by rw [Int.tdiv_eq_ediv_of_nonneg (by omega)]; omega
 have tm : Int.tmod (x.toNat : Int) (p : Int) = ((x.toNat % p : Nat) : Int) := by rw [Int.tmod_eq_emod_of_nonneg (by omega)]; omega
 have t2 : Int.tdiv 4294967296 (p : Int) = (r : Int) := by
  have := td 4294967296
  rw [show (4294967296 / p : Nat) = r by rw [hpr]; exact Nat.mul_div_cancel_left r hp1] at this
  exact this
 have hr31 : r ≤ 4294967296 := by rw [hpr]; exact Nat.le_mul_of_pos_left r hp1
 have hmod : x.toNat % p < p := Nat.mod_lt _ hp1
 have hprod : x.toNat % p * r ≤ 4294967296 := by rw [hpr]; exact Nat.mul_le_mul_right r (by omega)
 have hdiv : x.toNat / p ≤ x.toNat := Nat.div_le_self _ _
 have hne : ((p : Nat) : Int) ≠ 0 := by omega
 have rot := y6I x n (by omega)
 rw [hp, hr] at rot
 rw [z0r]
 unfold q4z
 simp only [u9, J8]
 rw [lp]
 cases f
 ·simp only [w6, u0, o8, J8, w7, q2s, hp, td, cond_false]
  refine (if_pos hne).trans ?_
  have e : IntKind.u64.wrap ((x.toNat / p : Nat) : Int) = ((x.toNat / p : Nat) : Int) := wrap_u64 (Int.natCast_nonneg _) (by generalize x.toNat / p = d at hdiv ⊢; omega)
  have e2 : (x >>> n).toNat = x.toNat / p := by rw [BitVec.toNat_ushiftRight, Nat.shiftRight_eq_div_pow, hp]
  rw [e]
  show k [.int ((x.toNat / p : Nat) : Int)] [] = k [.int ((x >>> n).toNat : Int)] []
  rw [e2]
 ·simp only [w6, u0, o8, J8, w7, q2s, hp, td, tm, t2, cond_true]
  refine (if_pos hne).trans ?_
  refine (if_pos hne).trans ?_
  refine (if_pos hne).trans ?_
  have e : IntKind.u64.wrap ((x.toNat / p : Nat) : Int) = ((x.toNat / p : Nat) : Int) := wrap_u64 (Int.natCast_nonneg _) (by generalize x.toNat / p = d at hdiv ⊢; omega)
  have e3 : IntKind.u64.wrap (r : Int) = (r : Int) := wrap_u64 (by omega) (by omega)
  have e4 : IntKind.u64.wrap (((x.toNat % p : Nat) : Int) * (r : Int)) = ((x.toNat % p * r : Nat) : Int) := by
   rw [wrap_u64 (Int.mul_nonneg (by omega) (by omega)) (by rw [← Int.natCast_mul]; omega)]; simp
  have e5 : IntKind.u64.wrap (((x.toNat / p : Nat) : Int) + ((x.toNat % p * r : Nat) : Int)) = ((q3N x n).toNat : Int) := by
   rw [rot]; generalize x.toNat / p = d at hdiv rot ⊢; generalize x.toNat % p * r = q at hprod rot ⊢; rw [wrap_u64 (by omega) (by omega)]; simp
  rw [e, e3, e4, e5]
  rfl
end Go.Proofs.Yteaddgnjddjllaa
namespace Go.Proofs.Yteaddgnjddjllaa
open Go Go.E
set_option maxRecDepth 100000
set_option maxHeartbeats 4000000
set_option linter.unusedSimpArgs false
variable {R : Type} {N : Nat}
def ksW : List W32 := [1116352408, 1899447441, 3049323471, 3921009573, 961987163, 1508970993, 2453635748, 2870763221, 3624381080, 310598401, 607225278, 1426881987, 1925078388, 2162078206, 2614888103, 3248222580, 3835390401, 4022224774, 264347078, 604807628, 770255983, 1249150122, 1555081692, 1996064986, 2554220882, 2821834349, 2952996808, 3210313671, 3336571891, 3584528711, 113926993, 338241895, 666307205, 773529912, 1294757372, 1396182291, 1695183700, 1986661051, 2177026350, 2456956037, 2730485921, 2820302411, 3259730800, 3345764771, 3516065817, 3600352804, 4094571909, 275423344, 430227734, 506948616, 659060556, 883997877, 958139571, 1322822218, 1537002063, 1747873779, 1955562222, 2024104815, 2227730452, 2361852424, 2428436474, 2756734187, 3204031479, 3329325298]
theorem y6x (k : KD R) : q16 N k = k [.agg (ksW.map wI)] [] := by
 rw [q7Z]
 unfold q3v
 rfl
theorem q4G {l : List W32} {i : Nat} (h : i < l.length) : C.get (.agg (l.map wI)) i = wI (l.getD i 0) := by
 show (l.map wI).getD i .nil = _
 rw [List.getD_eq_getElem?_getD, List.getElem?_map, List.getD_eq_getElem?_getD, List.getElem?_eq_getElem h]; rfl
theorem y76 (l : List W32) (i : Nat) (x : W32) : C.set (.agg (l.map wI)) i (wI x) = .agg ((l.set i x).map wI) := by
 show C.agg ((l.map wI).set i (wI x)) = _
 rw [List.map_set]
def F6 (c : C) : Prop := c = .int c.toInt ∧ 0 ≤ c.toInt ∧ c.toInt < 256
theorem x1h {c : C} (h : F6 c) : IntKind.u32.wrap c.toInt = ((BitVec.ofInt 32 c.toInt).toNat : Int) := by
 obtain ⟨_, h1, h2⟩ := h
 obtain ⟨n, hn⟩ := Int.eq_ofNat_of_zero_le h1
 rw [hn, wrap_u32]
 show _ = ((BitVec.ofInt 32 (n : Int)).toNat : Int)
 rw [BitVec.ofInt_natCast, BitVec.toNat_ofNat]
 simp
theorem y8r (l : List C) (hl : 4 ≤ l.length) (hb : ∀ c ∈ l, F6 c) (hN : 10 < N) (k : KD R) : q1X N (.slice l) k = k [wI (q5M (l.take 4))] [] := by
 have hc : cut l 0 4 = l.take 4 := by simp [cut]
 have hc4 : (l.take 4).length = 4 := by simp; omega
 have hb4 : ∀ c ∈ l.take 4, F6 c := fun c hc => hb c (List.mem_of_mem_take hc)
 rw [q8R]
 unfold q4f
 simp only [w5, hc, hc4, u9]
 refine (if_pos ⟨by decide, by decide, by omega⟩).trans ?_
 generalize l.take 4 = b at *
 have key := U9 (F := q15 N fun d1 m1 => k [dk d1 0] []) (fun i => [.slice b, .int (4 : Nat), wI (q5M (b.take i)), .int i]) (fun _ => []) 4 (k [wI (q5M b)] []) ?_ ?_ (N := N) (by omega)
 ·exact key
 ·intro i hi rec
  have h1 : (i : Int) < ((4 : Nat) : Int) := by omega
  have h2 : i < b.length := by omega
  have hw := x1h (hb4 _ (q0U h2))
  have e8 : min (Int.toNat 8) 32 = 8 := rfl
  have et : b.take (i + 1) = b.take i ++ [b.getD i .nil] := by
   rw [List.take_add_one, List.getElem?_eq_getElem h2, List.getD_eq_getElem?_getD, List.getElem?_eq_getElem h2]; rfl
  have ef : q5M (b.take (i + 1)) = q5M (b.take i) <<< 8 ||| BitVec.ofInt 32 (b.getD i .nil).toInt := by
   rw [et]; unfold q5M; rw [List.foldl_append]; rfl
  unfold q15
  simp only [w6, u0, o8, j9, w7, w5, hc4, h1, e8, q2s, hw, y7T, y3l, decide_true, cond_true, Int.natCast_nonneg, and_self, if_true, Int.toNat_natCast, c9 (show i < 4611686018427387904 by omega), ef]
  rfl
 ·intro rec
  have ht : b.take 4 = b := List.take_of_length_le (by omega)
  unfold q15
  simp only [w6, u0, o8, j9, w7, Int.lt_irrefl, decide_false, cond_false, ht]
def sg0 (x : W32) : W32 := z2A x 7 18 3 true
def sg1 (x : W32) : W32 := z2A x 17 19 10 true
def bs0 (x : W32) : W32 := z2A x 2 13 22 false
def bs1 (x : W32) : W32 := z2A x 6 11 25 false
def q3X (i : Nat) (near : List W32) : List W32 :=
 if 16 ≤ i then near.set (i % 16) (near.getD (i % 16) 0 + (sg0 (near.getD ((i + 1) % 16) 0) + near.getD ((i + 9) % 16) 0 + sg1 (near.getD ((i + 14) % 16) 0))) else near
def z5K (i : Nat) (near s : List W32) : W32 :=
 s.getD 7 0 + bs1 (s.getD 4 0) + (s.getD 6 0 ^^^ (s.getD 4 0 &&& (s.getD 5 0 ^^^ s.getD 6 0))) + ksW.getD i 0 + near.getD (i % 16) 0
def stepG (i : Nat) (p : List W32 × List W32) : List W32 × List W32 :=
 let near := q3X i p.1
 let s := p.2
 let add := z5K i near s
 (near, [add + bs0 (s.getD 0 0) + ((s.getD 0 0 &&& s.getD 1 0) ||| (s.getD 2 0 &&& (s.getD 0 0 ||| s.getD 1 0))), s.getD 0 0, s.getD 1 0, s.getD 2 0, s.getD 3 0 + add, s.getD 4 0, s.getD 5 0, s.getD 6 0])
def Y1 (near h : List W32) : Nat → List W32 × List W32
 | 0 => (near, h)
 | i + 1 => stepG i (Y1 near h i)
theorem y48 (i : Nat) (l : List W32) : (q3X i l).length = l.length := by
 unfold q3X; split <;> simp
theorem q4w {near h : List W32} (hn : near.length = 16) (hh : h.length = 8) : ∀ i, (Y1 near h i).1.length = 16 ∧ (Y1 near h i).2.length = 8
 | 0 => ⟨hn, hh⟩
 | i + 1 => ⟨by show (q3X i _).length = 16; rw [y48]; exact (q4w hn hh i).1, rfl⟩
theorem x03 : ksW.length = 64 := rfl
end Go.Proofs.Yteaddgnjddjllaa
namespace Go.Proofs.Yteaddgnjddjllaa
open Go Go.E
set_option maxRecDepth 100000
set_option maxHeartbeats 4000000
set_option linter.unusedSimpArgs false
variable {R : Type} {N : Nat}
theorem z97 (a b : Nat) : Int.tmod (a : Int) (b : Int) = ((a % b : Nat) : Int) := by
 rw [Int.tmod_eq_emod_of_nonneg (by omega)]; omega
theorem y6D (l : List W32) (i : Nat) (x : W32) : C.set (.agg (l.map wI)) i (.int (x.toNat : Int)) = .agg ((l.set i x).map wI) := y76 l i x
theorem round_eq (near s : List W32) (w : C) (i : Nat) (hi : i < 64) (hn : near.length = 16) (hs : s.length = 8) (hN : 100 < N) (k rec : KD R) :
  Y7 N k rec [.agg (ksW.map wI), .int i, w, .agg (near.map wI), .agg (s.map wI)] [] =
   rec [.agg (ksW.map wI), .int ((i + 1 : Nat) : Int), w, .agg ((stepG i (near, s)).1.map wI), .agg ((stepG i (near, s)).2.map wI)] [] := by
 have e1 : (i : Int) < 64 := by omega
 have e5 : ((i + 1 : Nat) : Int) = (i : Int) + 1 := by omega
 have q1 : IntKind.i64.wrap ((i : Int) + 1) = ((i + 1 : Nat) : Int) := by rw [wrap_i64 (by omega) (by omega)]; omega
 have q9 : IntKind.i64.wrap ((i : Int) + 9) = ((i + 9 : Nat) : Int) := by rw [wrap_i64 (by omega) (by omega)]; omega
 have q14 : IntKind.i64.wrap ((i : Int) + 14) = ((i + 14 : Nat) : Int) := by rw [wrap_i64 (by omega) (by omega)]; omega
 have c16 : ∀ a : Nat, Int.tmod (a : Int) 16 = ((a % 16 : Nat) : Int) := fun a => z97 a 16
 have r16 : ∀ a : Nat, ((a % 16 : Nat) : Int) < 16 := fun a => by omega
 have gk : C.get (.agg (ksW.map wI)) i = wI (ksW.getD i 0) := q4G (by rw [x03]; exact hi)
 have gn : ∀ (l : List W32), l.length = 16 → ∀ a : Nat, C.get (.agg (l.map wI)) (a % 16) = wI (l.getD (a % 16) 0) := fun l hl a => q4G (by omega)
 have gs : ∀ a : Nat, a < 8 → C.get (.agg (s.map wI)) a = wI (s.getD a 0) := fun a ha => q4G (by omega)
 have g0 := gs 0 (by omega)
 have g1 := gs 1 (by omega)
 have g2 := gs 2 (by omega)
 have g3 := gs 3 (by omega)
 have g4 := gs 4 (by omega)
 have g5 := gs 5 (by omega)
 have g6 := gs 6 (by omega)
 have g7 := gs 7 (by omega)
 have t0 : Int.toNat 0 = 0 := rfl
 have t1 : Int.toNat 1 = 1 := rfl
 have t2 : Int.toNat 2 = 2 := rfl
 have t3 : Int.toNat 3 = 3 := rfl
 have t4 : Int.toNat 4 = 4 := rfl
 have t5 : Int.toNat 5 = 5 := rfl
 have t6 : Int.toNat 6 = 6 := rfl
 have t7 : Int.toNat 7 = 7 := rfl
 have a1 : ∀ k : KD R, W4 N (wI (s.getD 4 0)) (.int 6) (.int 11) (.int 25) (.bool false) k = k [wI (bs1 (s.getD 4 0))] [] := fun k => z00 (N := N) (s.getD 4 0) 6 11 25 false (by omega) (by omega) (by omega) k
 have a2 : ∀ k : KD R, W4 N (wI (s.getD 0 0)) (.int 2) (.int 13) (.int 22) (.bool false) k = k [wI (bs0 (s.getD 0 0))] [] := fun k => z00 (N := N) (s.getD 0 0) 2 13 22 false (by omega) (by omega) (by omega) k
 have a3 : ∀ k : KD R, W4 N (wI (near.getD ((i + 1) % 16) 0)) (.int 7) (.int 18) (.int 3) (.bool true) k = k [wI (sg0 (near.getD ((i + 1) % 16) 0))] [] := fun k => z00 (N := N) (near.getD ((i + 1) % 16) 0) 7 18 3 true (by omega) (by omega) (by omega) k
 have a4 : ∀ k : KD R, W4 N (wI (near.getD ((i + 14) % 16) 0)) (.int 17) (.int 19) (.int 10) (.bool true) k = k [wI (sg1 (near.getD ((i + 14) % 16) 0))] [] := fun k => z00 (N := N) (near.getD ((i + 14) % 16) 0) 17 19 10 true (by omega) (by omega) (by omega) k
 unfold Y7
 by_cases e2 : 16 ≤ (i : Int)
 ·have e2n : 16 ≤ i := by omega
  have hn2 : (near.set (i % 16) (near.getD (i % 16) 0 + (sg0 (near.getD ((i + 1) % 16) 0) + near.getD ((i + 9) % 16) 0 + sg1 (near.getD ((i + 14) % 16) 0)))).length = 16 := by rw [List.length_set]; exact hn
  have hG : q3X i near = near.set (i % 16) (near.getD (i % 16) 0 + (sg0 (near.getD ((i + 1) % 16) 0) + near.getD ((i + 9) % 16) 0 + sg1 (near.getD ((i + 14) % 16) 0))) := by unfold q3X; rw [if_pos e2n]
  simp only [u9, w6, u0, o8, j9, Y3, q07, q24, w7, e1, e2, q1, q9, q14, c16, r16, decide_true, decide_false, cond_true, cond_false, Int.natCast_nonneg, and_self, if_true, Int.toNat_natCast, t0, t1, t2, t3, t4, t5, t6, t7, gk, gn near hn, g0, g1, g2, g3, g4, g5, g6, g7, a1, a2, a3, a4, q2s, z9D, y6D]
  simp only [gn _ hn2, q2s, z9D, y7U, y3l, z9C, stepG, z5K, hG]
  rfl
 ·have e2n : ¬ 16 ≤ i := by omega
  have hG : q3X i near = near := by unfold q3X; rw [if_neg e2n]
  simp only [u9, w6, u0, o8, j9, Y3, q07, q24, w7, e1, e2, q1, c16, r16, decide_true, decide_false, cond_true, cond_false, Int.natCast_nonneg, and_self, if_true, Int.toNat_natCast, t0, t1, t2, t3, t4, t5, t6, t7, gk, gn near hn, g0, g1, g2, g3, g4, g5, g6, g7, a1, a2, q2s, z9D, y7U, y3l, z9C]
  simp only [stepG, z5K, hG]
  rfl
end Go.Proofs.Yteaddgnjddjllaa
namespace Go.Proofs.Yteaddgnjddjllaa
open Go Go.E
set_option maxRecDepth 100000
set_option maxHeartbeats 4000000
set_option linter.unusedSimpArgs false
variable {R : Type} {N : Nat}
def nG (w : List C) : Nat → List W32
 | 0 => List.replicate 16 0
 | i + 1 => (nG w i).set i (q5M ((w.drop (4 * i)).take 4))
theorem q8Q (w : List C) : ∀ i, (nG w i).length = 16
 | 0 => rfl
 | i + 1 => by simp [nG, q8Q w i]
def aG (h s : List W32) : Nat → List W32
 | 0 => h
 | i + 1 => (aG h s i).set i (h.getD i 0 + s.getD i 0)
theorem q9k (h s : List W32) : ∀ i, (aG h s i).length = h.length
 | 0 => rfl
 | i + 1 => by simp [aG, q9k h s i]
theorem q4q {l : List W32} {i j : Nat} {x : W32} (hi : i < l.length) : (l.set i x).getD j 0 = if i = j then x else l.getD j 0 := by
 rw [List.getD_eq_getElem?_getD, List.getD_eq_getElem?_getD, List.getElem?_set]
 by_cases h : i = j
 ·subst h; simp [hi]
 ·simp [h]
theorem y54 (h s : List W32) (hh : h.length = 8) : ∀ i j, i ≤ j → i ≤ 8 → (aG h s i).getD j 0 = h.getD j 0
 | 0, _, _, _ => rfl
 | i + 1, j, hj, hi => by
  show ((aG h s i).set i _).getD j 0 = _
  rw [q4q (by rw [q9k]; omega), if_neg (by omega), y54 h s hh i j (by omega) (by omega)]
def q7l (h : List W32) (w : List C) : List W32 := aG h (Y1 (nG w 16) h 64).2 8
theorem z3H {h : List W32} (hh : h.length = 8) (w : List C) : (q7l h w).length = 8 := by
 unfold q7l; rw [q9k]; exact hh
theorem y7b (h : List W32) (hh : h.length = 8) (w : List C) (hw : w.length = 64) (hb : ∀ c ∈ w, F6 c) (n : C) (hN : 100 < N) (k : KD R) :
  q0m N (.agg [.agg (h.map wI), .agg w, n]) k = k [.agg [.agg ((q7l h w).map wI), .agg w, n]] [] := by
 rw [q4g]
 unfold q1j
 simp only [u9, y6x, w6, u0, q2A]
 have l3 : ∀ K : KD R, k9 N (J1 N K) [.int 0, .agg [.agg (h.map wI), .agg w, n], u7 (.arr 16 (.int .u32))] [] = K [.agg [.agg (h.map wI), .agg w, n], .agg ((nG w 16).map wI)] [] := fun K => by
  refine U9 (F := J1 N K) (fun i => [.int i, .agg [.agg (h.map wI), .agg w, n], .agg ((nG w i).map wI)]) (fun _ => []) 16 _ ?_ ?_ (N := N) (by omega)
  ·intro i hi rec
   have e1 : (i : Int) < 16 := by omega
   have e2 : IntKind.i64.wrap (4 * (i : Int)) = ((4 * i : Nat) : Int) := by rw [wrap_i64 (by omega) (by omega)]; omega
   have e3 : (64 - ((4 * i : Nat) : Int)).toNat = 64 - 4 * i := by omega
   have c1 : ((4 * i : Nat) : Int) ≤ 64 ∧ Int.ofNat 64 ≤ 64 := ⟨by omega, by decide⟩
   have hv : ∀ k : KD R, q1X N (.slice (List.take (64 - 4 * i) (List.drop (4 * i) w))) k = k [wI (q5M ((w.drop (4 * i)).take 4))] [] := fun k => by
    rw [y8r _ (by simp; omega) (fun c hc => hb c (List.mem_of_mem_drop (List.mem_of_mem_take hc))) (by omega), List.take_take]
    rw [show min 4 (64 - 4 * i) = 4 by omega]
   unfold J1
   simp only [w6, u0, o8, w7, q1T, q5F, e1, e2, e3, c1, hv, y76, decide_true, cond_true, Int.natCast_nonneg, and_self, if_true, Int.toNat_natCast, c9 (show i < 4611686018427387904 by omega)]
   rfl
  ·intro rec
   have e : ¬ ((16 : Nat) : Int) < 16 := by decide
   unfold J1
   simp only [w6, u0, o8, w7, e, decide_false, cond_false]
 have l2 : ∀ K : KD R, k9 N (Y7 N K) [.agg (ksW.map wI), .int 0, .agg [.agg (h.map wI), .agg w, n], .agg ((nG w 16).map wI), .agg (h.map wI)] [] = K [.agg [.agg (h.map wI), .agg w, n], .agg ((Y1 (nG w 16) h 64).2.map wI)] [] := fun K => by
  refine U9 (F := Y7 N K) (fun i => [.agg (ksW.map wI), .int i, .agg [.agg (h.map wI), .agg w, n], .agg ((Y1 (nG w 16) h i).1.map wI), .agg ((Y1 (nG w 16) h i).2.map wI)]) (fun _ => []) 64 _ ?_ ?_ (N := N) (by omega)
  ·intro i hi rec
   have hl := q4w (q8Q w 16) hh i
   exact round_eq _ _ _ i hi hl.1 hl.2 hN K rec
  ·intro rec
   have e : ¬ ((64 : Nat) : Int) < 64 := by decide
   unfold Y7
   simp only [w6, u0, o8, j9, Y3, w7, e, decide_false, cond_false]
 have l1 : ∀ s : List W32, s.length = 8 → ∀ K : KD R, k9 N (J2 N K) [.int 0, .agg [.agg (h.map wI), .agg w, n], .agg (s.map wI)] [] = K [.agg [.agg ((aG h s 8).map wI), .agg w, n]] [] := fun s hs K => by
  refine U9 (F := J2 N K) (fun i => [.int i, .agg [.agg ((aG h s i).map wI), .agg w, n], .agg (s.map wI)]) (fun _ => []) 8 _ ?_ ?_ (N := N) (by omega)
  ·intro i hi rec
   have e1 : (i : Int) < 8 := by omega
   have g1 : C.get (.agg ((aG h s i).map wI)) i = wI (h.getD i 0) := by rw [q4G (by rw [q9k]; omega), y54 h s hh i i (Nat.le_refl _) (by omega)]
   have g2 : C.get (.agg (s.map wI)) i = wI (s.getD i 0) := q4G (by omega)
   unfold J2
   simp only [w6, u0, o8, w7, e1, q2A, q33, g1, g2, q2s, z9D, y6D, decide_true, cond_true, Int.natCast_nonneg, and_self, if_true, Int.toNat_natCast, c9 (show i < 4611686018427387904 by omega)]
   rfl
  ·intro rec
   have e : ¬ ((8 : Nat) : Int) < 8 := by decide
   unfold J2
   simp only [w6, u0, o8, w7, e, decide_false, cond_false]
 rw [l3]
 simp only [w6, u0, q2A]
 rw [l2]
 simp only [w6, u0]
 rw [l1 _ (q4w (q8Q w 16) hh 64).2]
 rfl
end Go.Proofs.Yteaddgnjddjllaa
namespace Go.Proofs.Yteaddgnjddjllaa
open Go Go.E
set_option maxRecDepth 100000
set_option maxHeartbeats 4000000
set_option linter.unusedVariables false
noncomputable def y19 : Hints := [([1, 0, 1, 1], ⟨[], [(5, .d (.int .u64))], [], [], [], []⟩),
  ([4, 1, 0, 1, 1], ⟨[0, 1], [(5, .d (.int .u64)), (6, .d (.int .i64))], [], [], [], []⟩),
  ([1, 0, 1, 4, 0, 1, 5, 4, 1, 0, 1, 1], ⟨[0, 1, 5, 6], [(7, .d (.int .u64))], [], [], [], []⟩),
  ([9], ⟨[], [(4, .d (.int .u64))], [], [], [], []⟩)]
noncomputable def z4K (N : Nat) : OvS (X0 gl0) where
 g R := []
 ok := fun R => fun _ h => nomatch h
noncomputable def q40 {R : Type} (N : Nat) (k2 : KD R) : KD R → List C → List Es → Option R := (fun k3 d1 m1 => (bif decide (C.toInt (dk d1 3) < IntKind.wrap IntKind.i64 (IntKind.wrap IntKind.i64 (8 * C.toInt (dk d1 1)) + 8)) then (if 0 ≤ C.toInt (dk d1 3) ∧ C.toInt (dk d1 3) < (↑(List.length (C.toStr (dk d1 0))) : Int) then (jn (fun d2 m2 => (k3 [dk d2 0, dk d2 1, C.int (IntKind.wrap IntKind.u64 (IntKind.wrap IntKind.u64 (IntKind.wrap IntKind.u64 (C.toInt (dk d2 2) * 16) + C.toInt (dk d2 4)) - 48)), C.int (IntKind.wrap IntKind.i64 (C.toInt (dk d2 3) + 1))] [])) (fun k4 => (bif decide (97 ≤ IntKind.wrap IntKind.u64 (↑(UInt8.toNat (List.getD (C.toStr (dk d1 0)) (Int.toNat (C.toInt (dk d1 3))) (UInt8.ofNat 0))) : Int)) then (k4 [dk d1 0, dk d1 1, dk d1 2, dk d1 3, C.int (IntKind.wrap IntKind.u64 (IntKind.wrap IntKind.u64 (↑(UInt8.toNat (List.getD (C.toStr (dk d1 0)) (Int.toNat (C.toInt (dk d1 3))) (UInt8.ofNat 0))) : Int) - 39))] []) else (k4 [dk d1 0, dk d1 1, dk d1 2, dk d1 3, C.int (IntKind.wrap IntKind.u64 (↑(UInt8.toNat (List.getD (C.toStr (dk d1 0)) (Int.toNat (C.toInt (dk d1 3))) (UInt8.ofNat 0))) : Int))] [])))) else none) else (k2 [dk d1 2] [])))
noncomputable def q62 {R : Type} (N : Nat) (a0 a1 : C) (k1 : KD R) : Option R := (jn (fun d1 m1 => (k1 [dk d1 0] [])) (fun k2 => (k9 N (q40 N k2) [a0, a1, C.int 0, C.int (IntKind.wrap IntKind.i64 (8 * C.toInt a1))] [])))
noncomputable def q1M {R : Type} (N : Nat) : C → C → KD R → Option R := lid "" (q62 N)
theorem z4J {R : Type} (N : Nat) (a0 a1 : C) (k : KD R) : q1M N a0 a1 k = q62 N a0 a1 k := by unfold q1M; rw [Z9]
theorem y0n {R : Type} (N : Nat) (a0 a1 : C) (K : V → List (Key × O) → Option R) : exF (X0 gl0) ((z4K N).ov R) F0 noX (fun f => bif Nat.beq f 55 then y19 else []) N 400 8 55 [.d .str a0, .d (.int .i64) a1] A0 K =
  q1M N a0 a1 (fun d1 m1 => K (V.d (Ty.int IntKind.u64) (dk d1 0)) []) := by
 rw [z4J]
 exact (show _ = jn (fun d1 m1 => (K (V.d (Ty.int IntKind.u64) (dk d1 0)) [])) (q62 N a0 a1) by kernel_rfl).trans (u9 _ _)
noncomputable def q8i (N : Nat) {R : Type} : OvG R := fun xs _ K => match xs with
 | [.d t0 a0, .d t1 a1] => if t0 = .str ∧ t1 = (.int .i64) then q1M N a0 a1 (fun d1 m1 => K (V.d (Ty.int IntKind.u64) (dk d1 0)) []) else none
 | _ => none
theorem z4L (N : Nat) {R : Type} : GOk (X0 gl0) 55 (q8i N (R := R)) := by
 intro xs A Kr r hr
 unfold q8i at hr
 split at hr
 ·simp only [Option.ite_none_right_eq_some] at hr
  obtain ⟨hty, hr⟩ := hr
  obtain ⟨rfl, rfl⟩ := hty
  rw [← y0n] at hr
  exact okA (z4K N) hr
 ·cases hr
noncomputable def z0u : Hints := [([1, 0, 1, 1], ⟨[1, 3], [(7, .sl 8 (.int .u64) 5007)], [], [], [], [(.int .u64)]⟩),
  ([4, 1, 0, 1, 1], ⟨[1, 2, 3], [(7, .sl 8 (.int .u64) 5007), (8, .d (.int .i64))], [], [], [], [(.int .u64)]⟩),
  ([0, 1, 5, 4, 1, 0, 1, 1], ⟨[1, 2, 3, 8], [(7, .sl 8 (.int .u64) 5007)], [], [], [], [(.int .u64)]⟩),
  ([1, 0, 1, 1, 1, 1, 1], ⟨[1, 11], [], [], [], [], [(.int .u64)]⟩),
  ([4, 1, 0, 1, 1, 1, 1, 1], ⟨[1, 3, 11], [(7, .sl 8 (.int .u64) 5007), (12, .d (.int .i64))], [], [], [], [(.int .u64)]⟩),
  ([1, 0, 1, 1, 1, 1, 1, 1, 1], ⟨[], [(24, .vec (.l 1000000000195) 8 (.int .u64))], [], [], [], [(.int .u64)]⟩),
  ([4, 1, 0, 1, 1, 1, 1, 1, 1, 1], ⟨[1, 11], [(24, .vec (.l 1000000000195) 8 (.int .u64)), (25, .d (.int .i64))], [], [], [], [(.int .u64)]⟩),
  ([9], ⟨[], [(6, .vec (.l 1) 8 (.int .u64))], [], [(.l 1, .box (.arr (.int .u64)))], [], [(.int .u64)]⟩)]
noncomputable def q5u (N : Nat) : OvS (X0 gl0) where
 g R := [(55, q8i N), (65, q7Y N)]
 ok := fun R => List.forall_mem_cons.2 ⟨z4L N, List.forall_mem_cons.2 ⟨z7x N, fun _ h => nomatch h⟩⟩
noncomputable def q0w {R : Type} (N : Nat) (k2 : KD R) : KD R → List C → List Es → Option R := (fun k3 d3 m3 => (bif decide (C.toInt (dk d3 3) < 8) then (if 0 ≤ C.toInt (dk d3 3) ∧ C.toInt (dk d3 3) < (↑(List.length (C.elems (dk d3 0))) : Int) then (if 0 ≤ C.toInt (dk d3 3) ∧ C.toInt (dk d3 3) < (↑(Int.toNat (C.toInt (dk d3 1))) : Int) then (if (Int.toNat (C.toInt (dk d3 2)) + 1) * 8 ≤ 140737488355328 ∧ Int.toNat (C.toInt (dk d3 2)) + 1 ≤ 9223372036854775807 then (if List.length (C.elems (dk d3 4)) = List.length (C.elems (dk d3 4)) then (if Int.toNat (C.toInt (dk d3 2)) + 1 = List.length (List.take (Int.toNat (C.toInt (dk d3 2))) (C.elems (dk d3 5)) ++ [C.int (Int.tmod (IntKind.wrap IntKind.u64 (C.toInt (List.getD (C.elems (dk d3 0)) (Int.toNat (C.toInt (dk d3 3))) C.nil) + C.toInt (C.get (dk d3 4) (0 + Int.toNat (C.toInt (dk d3 3)))))) 4294967296)]) then (k3 [dk d3 0, C.int (↑(Int.toNat (C.toInt (dk d3 1))) : Int), C.int (↑(Int.toNat (C.toInt (dk d3 2)) + 1) : Int), C.int (IntKind.wrap IntKind.i64 (C.toInt (dk d3 3) + 1)), dk d3 4, C.agg (List.take (Int.toNat (C.toInt (dk d3 2))) (C.elems (dk d3 5)) ++ [C.int (Int.tmod (IntKind.wrap IntKind.u64 (C.toInt (List.getD (C.elems (dk d3 0)) (Int.toNat (C.toInt (dk d3 3))) C.nil) + C.toInt (C.get (dk d3 4) (0 + Int.toNat (C.toInt (dk d3 3)))))) 4294967296)])] []) else none) else none) else none) else none) else none) else (if List.length (C.elems (dk d3 5)) = List.length (C.elems (dk d3 5)) then (k2 [C.int (↑(Int.toNat (C.toInt (dk d3 2))) : Int), dk d3 5] []) else none)))
noncomputable def F3 {R : Type} (N : Nat) (k2 : KD R) : KD R → List C → List Es → Option R := (fun k3 d2 m2 => (bif decide (C.toInt (dk d2 4) < 64) then (if 0 ≤ Int.tmod (IntKind.wrap IntKind.i64 (69 - C.toInt (dk d2 4))) 8 ∧ Int.tmod (IntKind.wrap IntKind.i64 (69 - C.toInt (dk d2 4))) 8 < (↑(Int.toNat (C.toInt (dk d2 2))) : Int) then (if 0 ≤ Int.tmod (IntKind.wrap IntKind.i64 (70 - C.toInt (dk d2 4))) 8 ∧ Int.tmod (IntKind.wrap IntKind.i64 (70 - C.toInt (dk d2 4))) 8 < (↑(Int.toNat (C.toInt (dk d2 2))) : Int) then (if 0 ≤ Int.tmod (IntKind.wrap IntKind.i64 (68 - C.toInt (dk d2 4))) 8 ∧ Int.tmod (IntKind.wrap IntKind.i64 (68 - C.toInt (dk d2 4))) 8 < (↑(Int.toNat (C.toInt (dk d2 2))) : Int) then (o7 N (C.get (dk d2 5) (0 + Int.toNat (Int.tmod (IntKind.wrap IntKind.i64 (68 - C.toInt (dk d2 4))) 8))) (C.int 6) (C.bool true) (fun d3 m3 => (if 0 ≤ Int.tmod (IntKind.wrap IntKind.i64 (68 - C.toInt (dk d2 4))) 8 ∧ Int.tmod (IntKind.wrap IntKind.i64 (68 - C.toInt (dk d2 4))) 8 < (↑(Int.toNat (C.toInt (dk d2 2))) : Int) then (o7 N (C.get (dk d2 5) (0 + Int.toNat (Int.tmod (IntKind.wrap IntKind.i64 (68 - C.toInt (dk d2 4))) 8))) (C.int 11) (C.bool true) (fun d4 m4 => (if 0 ≤ Int.tmod (IntKind.wrap IntKind.i64 (68 - C.toInt (dk d2 4))) 8 ∧ Int.tmod (IntKind.wrap IntKind.i64 (68 - C.toInt (dk d2 4))) 8 < (↑(Int.toNat (C.toInt (dk d2 2))) : Int) then (o7 N (C.get (dk d2 5) (0 + Int.toNat (Int.tmod (IntKind.wrap IntKind.i64 (68 - C.toInt (dk d2 4))) 8))) (C.int 25) (C.bool true) (fun d5 m5 => (if 0 ≤ Int.tmod (IntKind.wrap IntKind.i64 (71 - C.toInt (dk d2 4))) 8 ∧ Int.tmod (IntKind.wrap IntKind.i64 (71 - C.toInt (dk d2 4))) 8 < (↑(Int.toNat (C.toInt (dk d2 2))) : Int) then (if 0 ≤ Int.tmod (IntKind.wrap IntKind.i64 (68 - C.toInt (dk d2 4))) 8 ∧ Int.tmod (IntKind.wrap IntKind.i64 (68 - C.toInt (dk d2 4))) 8 < (↑(Int.toNat (C.toInt (dk d2 2))) : Int) then (if 0 ≤ Int.tmod (IntKind.wrap IntKind.i64 (68 - C.toInt (dk d2 4))) 8 ∧ Int.tmod (IntKind.wrap IntKind.i64 (68 - C.toInt (dk d2 4))) 8 < (↑(Int.toNat (C.toInt (dk d2 2))) : Int) then (q1M N (C.get (dk d2 1) 1) (dk d2 4) (fun d6 m6 => (if 0 ≤ C.toInt (dk d2 4) ∧ C.toInt (dk d2 4) < (↑(List.length (C.elems (dk d2 3))) : Int) then (if 0 ≤ Int.tmod (IntKind.wrap IntKind.i64 (65 - C.toInt (dk d2 4))) 8 ∧ Int.tmod (IntKind.wrap IntKind.i64 (65 - C.toInt (dk d2 4))) 8 < (↑(Int.toNat (C.toInt (dk d2 2))) : Int) then (if 0 ≤ Int.tmod (IntKind.wrap IntKind.i64 (66 - C.toInt (dk d2 4))) 8 ∧ Int.tmod (IntKind.wrap IntKind.i64 (66 - C.toInt (dk d2 4))) 8 < (↑(Int.toNat (C.toInt (dk d2 2))) : Int) then (if 0 ≤ Int.tmod (IntKind.wrap IntKind.i64 (64 - C.toInt (dk d2 4))) 8 ∧ Int.tmod (IntKind.wrap IntKind.i64 (64 - C.toInt (dk d2 4))) 8 < (↑(Int.toNat (C.toInt (dk d2 2))) : Int) then (o7 N (C.get (dk d2 5) (0 + Int.toNat (Int.tmod (IntKind.wrap IntKind.i64 (64 - C.toInt (dk d2 4))) 8))) (C.int 2) (C.bool true) (fun d7 m7 => (if 0 ≤ Int.tmod (IntKind.wrap IntKind.i64 (64 - C.toInt (dk d2 4))) 8 ∧ Int.tmod (IntKind.wrap IntKind.i64 (64 - C.toInt (dk d2 4))) 8 < (↑(Int.toNat (C.toInt (dk d2 2))) : Int) then (o7 N (C.get (dk d2 5) (0 + Int.toNat (Int.tmod (IntKind.wrap IntKind.i64 (64 - C.toInt (dk d2 4))) 8))) (C.int 13) (C.bool true) (fun d8 m8 => (if 0 ≤ Int.tmod (IntKind.wrap IntKind.i64 (64 - C.toInt (dk d2 4))) 8 ∧ Int.tmod (IntKind.wrap IntKind.i64 (64 - C.toInt (dk d2 4))) 8 < (↑(Int.toNat (C.toInt (dk d2 2))) : Int) then (o7 N (C.get (dk d2 5) (0 + Int.toNat (Int.tmod (IntKind.wrap IntKind.i64 (64 - C.toInt (dk d2 4))) 8))) (C.int 22) (C.bool true) (fun d9 m9 => (if 0 ≤ Int.tmod (IntKind.wrap IntKind.i64 (67 - C.toInt (dk d2 4))) 8 ∧ Int.tmod (IntKind.wrap IntKind.i64 (67 - C.toInt (dk d2 4))) 8 < (↑(Int.toNat (C.toInt (dk d2 2))) : Int) then (if 0 ≤ Int.tmod (IntKind.wrap IntKind.i64 (67 - C.toInt (dk d2 4))) 8 ∧ Int.tmod (IntKind.wrap IntKind.i64 (67 - C.toInt (dk d2 4))) 8 < (↑(Int.toNat (C.toInt (dk d2 2))) : Int) then (if 0 ≤ Int.tmod (IntKind.wrap IntKind.i64 (64 - C.toInt (dk d2 4))) 8 ∧ Int.tmod (IntKind.wrap IntKind.i64 (64 - C.toInt (dk d2 4))) 8 < (↑(Int.toNat (C.toInt (dk d2 2))) : Int) then (if 0 ≤ Int.tmod (IntKind.wrap IntKind.i64 (64 - C.toInt (dk d2 4))) 8 ∧ Int.tmod (IntKind.wrap IntKind.i64 (64 - C.toInt (dk d2 4))) 8 < (↑(Int.toNat (C.toInt (dk d2 2))) : Int) then (if 0 ≤ Int.tmod (IntKind.wrap IntKind.i64 (71 - C.toInt (dk d2 4))) 8 ∧ Int.tmod (IntKind.wrap IntKind.i64 (71 - C.toInt (dk d2 4))) 8 < (↑(Int.toNat (C.toInt (dk d2 2))) : Int) then (bif Nat.beq (List.length (C.elems (dk d2 3))) (List.length (C.elems (dk d2 3))) then (if List.length (C.elems (dk d2 5)) = List.length (C.elems (C.set (C.set (dk d2 5) (0 + Int.toNat (Int.tmod (IntKind.wrap IntKind.i64 (67 - C.toInt (dk d2 4))) 8)) (C.int (Int.tmod (IntKind.wrap IntKind.u64 (C.toInt (C.get (dk d2 5) (0 + Int.toNat (Int.tmod (IntKind.wrap IntKind.i64 (67 - C.toInt (dk d2 4))) 8))) + IntKind.wrap IntKind.u64 (IntKind.wrap IntKind.u64 (IntKind.wrap IntKind.u64 (IntKind.wrap IntKind.u64 (C.toInt (C.get (dk d2 5) (0 + Int.toNat (Int.tmod (IntKind.wrap IntKind.i64 (71 - C.toInt (dk d2 4))) 8))) + o5 BinOp.xor IntKind.u64 (o5 BinOp.xor IntKind.u64 (C.toInt (dk d3 0)) (C.toInt (dk d4 0))) (C.toInt (dk d5 0))) + IntKind.wrap IntKind.u64 (o5 BinOp.and IntKind.u64 (C.toInt (C.get (dk d2 5) (0 + Int.toNat (Int.tmod (IntKind.wrap IntKind.i64 (68 - C.toInt (dk d2 4))) 8)))) (C.toInt (C.get (dk d2 5) (0 + Int.toNat (Int.tmod (IntKind.wrap IntKind.i64 (69 - C.toInt (dk d2 4))) 8)))) + o5 BinOp.and IntKind.u64 (IntKind.wrap IntKind.u64 (4294967295 - C.toInt (C.get (dk d2 5) (0 + Int.toNat (Int.tmod (IntKind.wrap IntKind.i64 (68 - C.toInt (dk d2 4))) 8))))) (C.toInt (C.get (dk d2 5) (0 + Int.toNat (Int.tmod (IntKind.wrap IntKind.i64 (70 - C.toInt (dk d2 4))) 8)))))) + C.toInt (dk d6 0)) + C.toInt (List.getD (C.elems (dk d2 3)) (Int.toNat (C.toInt (dk d2 4))) C.nil)))) 4294967296))) (0 + Int.toNat (Int.tmod (IntKind.wrap IntKind.i64 (71 - C.toInt (dk d2 4))) 8)) (C.int (Int.tmod (IntKind.wrap IntKind.u64 (IntKind.wrap IntKind.u64 (IntKind.wrap IntKind.u64 (IntKind.wrap IntKind.u64 (IntKind.wrap IntKind.u64 (IntKind.wrap IntKind.u64 (C.toInt (C.get (dk d2 5) (0 + Int.toNat (Int.tmod (IntKind.wrap IntKind.i64 (71 - C.toInt (dk d2 4))) 8))) + o5 BinOp.xor IntKind.u64 (o5 BinOp.xor IntKind.u64 (C.toInt (dk d3 0)) (C.toInt (dk d4 0))) (C.toInt (dk d5 0))) + IntKind.wrap IntKind.u64 (o5 BinOp.and IntKind.u64 (C.toInt (C.get (dk d2 5) (0 + Int.toNat (Int.tmod (IntKind.wrap IntKind.i64 (68 - C.toInt (dk d2 4))) 8)))) (C.toInt (C.get (dk d2 5) (0 + Int.toNat (Int.tmod (IntKind.wrap IntKind.i64 (69 - C.toInt (dk d2 4))) 8)))) + o5 BinOp.and IntKind.u64 (IntKind.wrap IntKind.u64 (4294967295 - C.toInt (C.get (dk d2 5) (0 + Int.toNat (Int.tmod (IntKind.wrap IntKind.i64 (68 - C.toInt (dk d2 4))) 8))))) (C.toInt (C.get (dk d2 5) (0 + Int.toNat (Int.tmod (IntKind.wrap IntKind.i64 (70 - C.toInt (dk d2 4))) 8)))))) + C.toInt (dk d6 0)) + C.toInt (List.getD (C.elems (dk d2 3)) (Int.toNat (C.toInt (dk d2 4))) C.nil)) + o5 BinOp.xor IntKind.u64 (o5 BinOp.xor IntKind.u64 (C.toInt (dk d7 0)) (C.toInt (dk d8 0))) (C.toInt (dk d9 0))) + o5 BinOp.xor IntKind.u64 (o5 BinOp.xor IntKind.u64 (o5 BinOp.and IntKind.u64 (C.toInt (C.get (C.set (dk d2 5) (0 + Int.toNat (Int.tmod (IntKind.wrap IntKind.i64 (67 - C.toInt (dk d2 4))) 8)) (C.int (Int.tmod (IntKind.wrap IntKind.u64 (C.toInt (C.get (dk d2 5) (0 + Int.toNat (Int.tmod (IntKind.wrap IntKind.i64 (67 - C.toInt (dk d2 4))) 8))) + IntKind.wrap IntKind.u64 (IntKind.wrap IntKind.u64 (IntKind.wrap IntKind.u64 (IntKind.wrap IntKind.u64 (C.toInt (C.get (dk d2 5) (0 + Int.toNat (Int.tmod (IntKind.wrap IntKind.i64 (71 - C.toInt (dk d2 4))) 8))) + o5 BinOp.xor IntKind.u64 (o5 BinOp.xor IntKind.u64 (C.toInt (dk d3 0)) (C.toInt (dk d4 0))) (C.toInt (dk d5 0))) + IntKind.wrap IntKind.u64 (o5 BinOp.and IntKind.u64 (C.toInt (C.get (dk d2 5) (0 + Int.toNat (Int.tmod (IntKind.wrap IntKind.i64 (68 - C.toInt (dk d2 4))) 8)))) (C.toInt (C.get (dk d2 5) (0 + Int.toNat (Int.tmod (IntKind.wrap IntKind.i64 (69 - C.toInt (dk d2 4))) 8)))) + o5 BinOp.and IntKind.u64 (IntKind.wrap IntKind.u64 (4294967295 - C.toInt (C.get (dk d2 5) (0 + Int.toNat (Int.tmod (IntKind.wrap IntKind.i64 (68 - C.toInt (dk d2 4))) 8))))) (C.toInt (C.get (dk d2 5) (0 + Int.toNat (Int.tmod (IntKind.wrap IntKind.i64 (70 - C.toInt (dk d2 4))) 8)))))) + C.toInt (dk d6 0)) + C.toInt (List.getD (C.elems (dk d2 3)) (Int.toNat (C.toInt (dk d2 4))) C.nil)))) 4294967296))) (0 + Int.toNat (Int.tmod (IntKind.wrap IntKind.i64 (64 - C.toInt (dk d2 4))) 8)))) (C.toInt (C.get (dk d2 5) (0 + Int.toNat (Int.tmod (IntKind.wrap IntKind.i64 (65 - C.toInt (dk d2 4))) 8))))) (o5 BinOp.and IntKind.u64 (C.toInt (C.get (C.set (dk d2 5) (0 + Int.toNat (Int.tmod (IntKind.wrap IntKind.i64 (67 - C.toInt (dk d2 4))) 8)) (C.int (Int.tmod (IntKind.wrap IntKind.u64 (C.toInt (C.get (dk d2 5) (0 + Int.toNat (Int.tmod (IntKind.wrap IntKind.i64 (67 - C.toInt (dk d2 4))) 8))) + IntKind.wrap IntKind.u64 (IntKind.wrap IntKind.u64 (IntKind.wrap IntKind.u64 (IntKind.wrap IntKind.u64 (C.toInt (C.get (dk d2 5) (0 + Int.toNat (Int.tmod (IntKind.wrap IntKind.i64 (71 - C.toInt (dk d2 4))) 8))) + o5 BinOp.xor IntKind.u64 (o5 BinOp.xor IntKind.u64 (C.toInt (dk d3 0)) (C.toInt (dk d4 0))) (C.toInt (dk d5 0))) + IntKind.wrap IntKind.u64 (o5 BinOp.and IntKind.u64 (C.toInt (C.get (dk d2 5) (0 + Int.toNat (Int.tmod (IntKind.wrap IntKind.i64 (68 - C.toInt (dk d2 4))) 8)))) (C.toInt (C.get (dk d2 5) (0 + Int.toNat (Int.tmod (IntKind.wrap IntKind.i64 (69 - C.toInt (dk d2 4))) 8)))) + o5 BinOp.and IntKind.u64 (IntKind.wrap IntKind.u64 (4294967295 - C.toInt (C.get (dk d2 5) (0 + Int.toNat (Int.tmod (IntKind.wrap IntKind.i64 (68 - C.toInt (dk d2 4))) 8))))) (C.toInt (C.get (dk d2 5) (0 + Int.toNat (Int.tmod (IntKind.wrap IntKind.i64 (70 - C.toInt (dk d2 4))) 8)))))) + C.toInt (dk d6 0)) + C.toInt (List.getD (C.elems (dk d2 3)) (Int.toNat (C.toInt (dk d2 4))) C.nil)))) 4294967296))) (0 + Int.toNat (Int.tmod (IntKind.wrap IntKind.i64 (64 - C.toInt (dk d2 4))) 8)))) (C.toInt (C.get (dk d2 5) (0 + Int.toNat (Int.tmod (IntKind.wrap IntKind.i64 (66 - C.toInt (dk d2 4))) 8)))))) (o5 BinOp.and IntKind.u64 (C.toInt (C.get (dk d2 5) (0 + Int.toNat (Int.tmod (IntKind.wrap IntKind.i64 (65 - C.toInt (dk d2 4))) 8)))) (C.toInt (C.get (dk d2 5) (0 + Int.toNat (Int.tmod (IntKind.wrap IntKind.i64 (66 - C.toInt (dk d2 4))) 8))))))) 4294967296)))) then (k3 [dk d2 0, dk d2 1, C.int (↑(Int.toNat (C.toInt (dk d2 2))) : Int), C.slice (C.elems (dk d2 3)), C.int (IntKind.wrap IntKind.i64 (C.toInt (dk d2 4) + 1)), C.set (C.set (dk d2 5) (0 + Int.toNat (Int.tmod (IntKind.wrap IntKind.i64 (67 - C.toInt (dk d2 4))) 8)) (C.int (Int.tmod (IntKind.wrap IntKind.u64 (C.toInt (C.get (dk d2 5) (0 + Int.toNat (Int.tmod (IntKind.wrap IntKind.i64 (67 - C.toInt (dk d2 4))) 8))) + IntKind.wrap IntKind.u64 (IntKind.wrap IntKind.u64 (IntKind.wrap IntKind.u64 (IntKind.wrap IntKind.u64 (C.toInt (C.get (dk d2 5) (0 + Int.toNat (Int.tmod (IntKind.wrap IntKind.i64 (71 - C.toInt (dk d2 4))) 8))) + o5 BinOp.xor IntKind.u64 (o5 BinOp.xor IntKind.u64 (C.toInt (dk d3 0)) (C.toInt (dk d4 0))) (C.toInt (dk d5 0))) + IntKind.wrap IntKind.u64 (o5 BinOp.and IntKind.u64 (C.toInt (C.get (dk d2 5) (0 + Int.toNat (Int.tmod (IntKind.wrap IntKind.i64 (68 - C.toInt (dk d2 4))) 8)))) (C.toInt (C.get (dk d2 5) (0 + Int.toNat (Int.tmod (IntKind.wrap IntKind.i64 (69 - C.toInt (dk d2 4))) 8)))) + o5 BinOp.and IntKind.u64 (IntKind.wrap IntKind.u64 (4294967295 - C.toInt (C.get (dk d2 5) (0 + Int.toNat (Int.tmod (IntKind.wrap IntKind.i64 (68 - C.toInt (dk d2 4))) 8))))) (C.toInt (C.get (dk d2 5) (0 + Int.toNat (Int.tmod (IntKind.wrap IntKind.i64 (70 - C.toInt (dk d2 4))) 8)))))) + C.toInt (dk d6 0)) + C.toInt (List.getD (C.elems (dk d2 3)) (Int.toNat (C.toInt (dk d2 4))) C.nil)))) 4294967296))) (0 + Int.toNat (Int.tmod (IntKind.wrap IntKind.i64 (71 - C.toInt (dk d2 4))) 8)) (C.int (Int.tmod (IntKind.wrap IntKind.u64 (IntKind.wrap IntKind.u64 (IntKind.wrap IntKind.u64 (IntKind.wrap IntKind.u64 (IntKind.wrap IntKind.u64 (IntKind.wrap IntKind.u64 (C.toInt (C.get (dk d2 5) (0 + Int.toNat (Int.tmod (IntKind.wrap IntKind.i64 (71 - C.toInt (dk d2 4))) 8))) + o5 BinOp.xor IntKind.u64 (o5 BinOp.xor IntKind.u64 (C.toInt (dk d3 0)) (C.toInt (dk d4 0))) (C.toInt (dk d5 0))) + IntKind.wrap IntKind.u64 (o5 BinOp.and IntKind.u64 (C.toInt (C.get (dk d2 5) (0 + Int.toNat (Int.tmod (IntKind.wrap IntKind.i64 (68 - C.toInt (dk d2 4))) 8)))) (C.toInt (C.get (dk d2 5) (0 + Int.toNat (Int.tmod (IntKind.wrap IntKind.i64 (69 - C.toInt (dk d2 4))) 8)))) + o5 BinOp.and IntKind.u64 (IntKind.wrap IntKind.u64 (4294967295 - C.toInt (C.get (dk d2 5) (0 + Int.toNat (Int.tmod (IntKind.wrap IntKind.i64 (68 - C.toInt (dk d2 4))) 8))))) (C.toInt (C.get (dk d2 5) (0 + Int.toNat (Int.tmod (IntKind.wrap IntKind.i64 (70 - C.toInt (dk d2 4))) 8)))))) + C.toInt (dk d6 0)) + C.toInt (List.getD (C.elems (dk d2 3)) (Int.toNat (C.toInt (dk d2 4))) C.nil)) + o5 BinOp.xor IntKind.u64 (o5 BinOp.xor IntKind.u64 (C.toInt (dk d7 0)) (C.toInt (dk d8 0))) (C.toInt (dk d9 0))) + o5 BinOp.xor IntKind.u64 (o5 BinOp.xor IntKind.u64 (o5 BinOp.and IntKind.u64 (C.toInt (C.get (C.set (dk d2 5) (0 + Int.toNat (Int.tmod (IntKind.wrap IntKind.i64 (67 - C.toInt (dk d2 4))) 8)) (C.int (Int.tmod (IntKind.wrap IntKind.u64 (C.toInt (C.get (dk d2 5) (0 + Int.toNat (Int.tmod (IntKind.wrap IntKind.i64 (67 - C.toInt (dk d2 4))) 8))) + IntKind.wrap IntKind.u64 (IntKind.wrap IntKind.u64 (IntKind.wrap IntKind.u64 (IntKind.wrap IntKind.u64 (C.toInt (C.get (dk d2 5) (0 + Int.toNat (Int.tmod (IntKind.wrap IntKind.i64 (71 - C.toInt (dk d2 4))) 8))) + o5 BinOp.xor IntKind.u64 (o5 BinOp.xor IntKind.u64 (C.toInt (dk d3 0)) (C.toInt (dk d4 0))) (C.toInt (dk d5 0))) + IntKind.wrap IntKind.u64 (o5 BinOp.and IntKind.u64 (C.toInt (C.get (dk d2 5) (0 + Int.toNat (Int.tmod (IntKind.wrap IntKind.i64 (68 - C.toInt (dk d2 4))) 8)))) (C.toInt (C.get (dk d2 5) (0 + Int.toNat (Int.tmod (IntKind.wrap IntKind.i64 (69 - C.toInt (dk d2 4))) 8)))) + o5 BinOp.and IntKind.u64 (IntKind.wrap IntKind.u64 (4294967295 - C.toInt (C.get (dk d2 5) (0 + Int.toNat (Int.tmod (IntKind.wrap IntKind.i64 (68 - C.toInt (dk d2 4))) 8))))) (C.toInt (C.get (dk d2 5) (0 + Int.toNat (Int.tmod (IntKind.wrap IntKind.i64 (70 - C.toInt (dk d2 4))) 8)))))) + C.toInt (dk d6 0)) + C.toInt (List.getD (C.elems (dk d2 3)) (Int.toNat (C.toInt (dk d2 4))) C.nil)))) 4294967296))) (0 + Int.toNat (Int.tmod (IntKind.wrap IntKind.i64 (64 - C.toInt (dk d2 4))) 8)))) (C.toInt (C.get (dk d2 5) (0 + Int.toNat (Int.tmod (IntKind.wrap IntKind.i64 (65 - C.toInt (dk d2 4))) 8))))) (o5 BinOp.and IntKind.u64 (C.toInt (C.get (C.set (dk d2 5) (0 + Int.toNat (Int.tmod (IntKind.wrap IntKind.i64 (67 - C.toInt (dk d2 4))) 8)) (C.int (Int.tmod (IntKind.wrap IntKind.u64 (C.toInt (C.get (dk d2 5) (0 + Int.toNat (Int.tmod (IntKind.wrap IntKind.i64 (67 - C.toInt (dk d2 4))) 8))) + IntKind.wrap IntKind.u64 (IntKind.wrap IntKind.u64 (IntKind.wrap IntKind.u64 (IntKind.wrap IntKind.u64 (C.toInt (C.get (dk d2 5) (0 + Int.toNat (Int.tmod (IntKind.wrap IntKind.i64 (71 - C.toInt (dk d2 4))) 8))) + o5 BinOp.xor IntKind.u64 (o5 BinOp.xor IntKind.u64 (C.toInt (dk d3 0)) (C.toInt (dk d4 0))) (C.toInt (dk d5 0))) + IntKind.wrap IntKind.u64 (o5 BinOp.and IntKind.u64 (C.toInt (C.get (dk d2 5) (0 + Int.toNat (Int.tmod (IntKind.wrap IntKind.i64 (68 - C.toInt (dk d2 4))) 8)))) (C.toInt (C.get (dk d2 5) (0 + Int.toNat (Int.tmod (IntKind.wrap IntKind.i64 (69 - C.toInt (dk d2 4))) 8)))) + o5 BinOp.and IntKind.u64 (IntKind.wrap IntKind.u64 (4294967295 - C.toInt (C.get (dk d2 5) (0 + Int.toNat (Int.tmod (IntKind.wrap IntKind.i64 (68 - C.toInt (dk d2 4))) 8))))) (C.toInt (C.get (dk d2 5) (0 + Int.toNat (Int.tmod (IntKind.wrap IntKind.i64 (70 - C.toInt (dk d2 4))) 8)))))) + C.toInt (dk d6 0)) + C.toInt (List.getD (C.elems (dk d2 3)) (Int.toNat (C.toInt (dk d2 4))) C.nil)))) 4294967296))) (0 + Int.toNat (Int.tmod (IntKind.wrap IntKind.i64 (64 - C.toInt (dk d2 4))) 8)))) (C.toInt (C.get (dk d2 5) (0 + Int.toNat (Int.tmod (IntKind.wrap IntKind.i64 (66 - C.toInt (dk d2 4))) 8)))))) (o5 BinOp.and IntKind.u64 (C.toInt (C.get (dk d2 5) (0 + Int.toNat (Int.tmod (IntKind.wrap IntKind.i64 (65 - C.toInt (dk d2 4))) 8)))) (C.toInt (C.get (dk d2 5) (0 + Int.toNat (Int.tmod (IntKind.wrap IntKind.i64 (66 - C.toInt (dk d2 4))) 8))))))) 4294967296))] []) else none) else none) else none) else none) else none) else none) else none))) else none))) else none))) else none) else none) else none) else none))) else none) else none) else none))) else none))) else none))) else none) else none) else none) else (if List.length (C.elems (dk d2 5)) = List.length (C.elems (dk d2 5)) then (k2 [dk d2 0, C.int (↑(Int.toNat (C.toInt (dk d2 2))) : Int), dk d2 5] []) else none)))
noncomputable def F2 {R : Type} (N : Nat) (k2 : KD R) : KD R → List C → List Es → Option R := (fun k3 d1 m1 => (bif decide (C.toInt (dk d1 4) < 64) then (jn (fun d2 m2 => (bif Nat.beq (List.length (C.elems (dk d2 4))) (List.length (C.elems (dk d2 4))) then (k3 [dk d2 0, dk d2 1, dk d2 2, C.slice (C.elems (dk d2 4)), C.int (IntKind.wrap IntKind.i64 (C.toInt (dk d2 3) + 1))] []) else none)) (fun k4 => (bif decide (C.toInt (dk d1 4) < 16) then (if 0 ≤ IntKind.wrap IntKind.i64 (4 * C.toInt (dk d1 4)) ∧ IntKind.wrap IntKind.i64 (4 * C.toInt (dk d1 4)) < (↑(List.length (C.elems (dk d1 1))) : Int) then (if 0 ≤ IntKind.wrap IntKind.i64 (IntKind.wrap IntKind.i64 (4 * C.toInt (dk d1 4)) + 1) ∧ IntKind.wrap IntKind.i64 (IntKind.wrap IntKind.i64 (4 * C.toInt (dk d1 4)) + 1) < (↑(List.length (C.elems (dk d1 1))) : Int) then (if 0 ≤ IntKind.wrap IntKind.i64 (IntKind.wrap IntKind.i64 (4 * C.toInt (dk d1 4)) + 2) ∧ IntKind.wrap IntKind.i64 (IntKind.wrap IntKind.i64 (4 * C.toInt (dk d1 4)) + 2) < (↑(List.length (C.elems (dk d1 1))) : Int) then (if 0 ≤ IntKind.wrap IntKind.i64 (IntKind.wrap IntKind.i64 (4 * C.toInt (dk d1 4)) + 3) ∧ IntKind.wrap IntKind.i64 (IntKind.wrap IntKind.i64 (4 * C.toInt (dk d1 4)) + 3) < (↑(List.length (C.elems (dk d1 1))) : Int) then (bif Nat.beq (List.length (C.elems (dk d1 3))) (List.length (C.elems (dk d1 3))) then (if (List.length (C.elems (dk d1 3)) + 1) * 8 ≤ 140737488355328 ∧ List.length (C.elems (dk d1 3)) + 1 ≤ 9223372036854775807 then (bif Nat.beq (List.length (C.elems (dk d1 3)) + 1) (List.length (C.elems (dk d1 3) ++ [C.int (IntKind.wrap IntKind.u64 (IntKind.wrap IntKind.u64 (IntKind.wrap IntKind.u64 (IntKind.wrap IntKind.u64 (IntKind.wrap IntKind.u64 (IntKind.wrap IntKind.u64 (IntKind.wrap IntKind.u64 (C.toInt (List.getD (C.elems (dk d1 1)) (Int.toNat (IntKind.wrap IntKind.i64 (4 * C.toInt (dk d1 4)))) C.nil)) * 256) + IntKind.wrap IntKind.u64 (C.toInt (List.getD (C.elems (dk d1 1)) (Int.toNat (IntKind.wrap IntKind.i64 (IntKind.wrap IntKind.i64 (4 * C.toInt (dk d1 4)) + 1))) C.nil))) * 256) + IntKind.wrap IntKind.u64 (C.toInt (List.getD (C.elems (dk d1 1)) (Int.toNat (IntKind.wrap IntKind.i64 (IntKind.wrap IntKind.i64 (4 * C.toInt (dk d1 4)) + 2))) C.nil))) * 256) + IntKind.wrap IntKind.u64 (C.toInt (List.getD (C.elems (dk d1 1)) (Int.toNat (IntKind.wrap IntKind.i64 (IntKind.wrap IntKind.i64 (4 * C.toInt (dk d1 4)) + 3))) C.nil))))])) then (k4 [dk d1 0, dk d1 1, dk d1 2, dk d1 4, C.slice (C.elems (dk d1 3) ++ [C.int (IntKind.wrap IntKind.u64 (IntKind.wrap IntKind.u64 (IntKind.wrap IntKind.u64 (IntKind.wrap IntKind.u64 (IntKind.wrap IntKind.u64 (IntKind.wrap IntKind.u64 (IntKind.wrap IntKind.u64 (C.toInt (List.getD (C.elems (dk d1 1)) (Int.toNat (IntKind.wrap IntKind.i64 (4 * C.toInt (dk d1 4)))) C.nil)) * 256) + IntKind.wrap IntKind.u64 (C.toInt (List.getD (C.elems (dk d1 1)) (Int.toNat (IntKind.wrap IntKind.i64 (IntKind.wrap IntKind.i64 (4 * C.toInt (dk d1 4)) + 1))) C.nil))) * 256) + IntKind.wrap IntKind.u64 (C.toInt (List.getD (C.elems (dk d1 1)) (Int.toNat (IntKind.wrap IntKind.i64 (IntKind.wrap IntKind.i64 (4 * C.toInt (dk d1 4)) + 2))) C.nil))) * 256) + IntKind.wrap IntKind.u64 (C.toInt (List.getD (C.elems (dk d1 1)) (Int.toNat (IntKind.wrap IntKind.i64 (IntKind.wrap IntKind.i64 (4 * C.toInt (dk d1 4)) + 3))) C.nil))))])] []) else none) else none) else none) else none) else none) else none) else none) else (if 0 ≤ IntKind.wrap IntKind.i64 (C.toInt (dk d1 4) - 15) ∧ IntKind.wrap IntKind.i64 (C.toInt (dk d1 4) - 15) < (↑(List.length (C.elems (dk d1 3))) : Int) then (if 0 ≤ IntKind.wrap IntKind.i64 (C.toInt (dk d1 4) - 2) ∧ IntKind.wrap IntKind.i64 (C.toInt (dk d1 4) - 2) < (↑(List.length (C.elems (dk d1 3))) : Int) then (o7 N (List.getD (C.elems (dk d1 3)) (Int.toNat (IntKind.wrap IntKind.i64 (C.toInt (dk d1 4) - 15))) C.nil) (C.int 7) (C.bool true) (fun d2 m2 => (o7 N (List.getD (C.elems (dk d1 3)) (Int.toNat (IntKind.wrap IntKind.i64 (C.toInt (dk d1 4) - 15))) C.nil) (C.int 18) (C.bool true) (fun d3 m3 => (o7 N (List.getD (C.elems (dk d1 3)) (Int.toNat (IntKind.wrap IntKind.i64 (C.toInt (dk d1 4) - 15))) C.nil) (C.int 3) (C.bool false) (fun d4 m4 => (o7 N (List.getD (C.elems (dk d1 3)) (Int.toNat (IntKind.wrap IntKind.i64 (C.toInt (dk d1 4) - 2))) C.nil) (C.int 17) (C.bool true) (fun d5 m5 => (o7 N (List.getD (C.elems (dk d1 3)) (Int.toNat (IntKind.wrap IntKind.i64 (C.toInt (dk d1 4) - 2))) C.nil) (C.int 19) (C.bool true) (fun d6 m6 => (o7 N (List.getD (C.elems (dk d1 3)) (Int.toNat (IntKind.wrap IntKind.i64 (C.toInt (dk d1 4) - 2))) C.nil) (C.int 10) (C.bool false) (fun d7 m7 => (if 0 ≤ IntKind.wrap IntKind.i64 (C.toInt (dk d1 4) - 16) ∧ IntKind.wrap IntKind.i64 (C.toInt (dk d1 4) - 16) < (↑(List.length (C.elems (dk d1 3))) : Int) then (if 0 ≤ IntKind.wrap IntKind.i64 (C.toInt (dk d1 4) - 7) ∧ IntKind.wrap IntKind.i64 (C.toInt (dk d1 4) - 7) < (↑(List.length (C.elems (dk d1 3))) : Int) then (bif Nat.beq (List.length (C.elems (dk d1 3))) (List.length (C.elems (dk d1 3))) then (if (List.length (C.elems (dk d1 3)) + 1) * 8 ≤ 140737488355328 ∧ List.length (C.elems (dk d1 3)) + 1 ≤ 9223372036854775807 then (bif Nat.beq (List.length (C.elems (dk d1 3)) + 1) (List.length (C.elems (dk d1 3) ++ [C.int (Int.tmod (IntKind.wrap IntKind.u64 (IntKind.wrap IntKind.u64 (IntKind.wrap IntKind.u64 (C.toInt (List.getD (C.elems (dk d1 3)) (Int.toNat (IntKind.wrap IntKind.i64 (C.toInt (dk d1 4) - 16))) C.nil) + o5 BinOp.xor IntKind.u64 (o5 BinOp.xor IntKind.u64 (C.toInt (dk d2 0)) (C.toInt (dk d3 0))) (C.toInt (dk d4 0))) + C.toInt (List.getD (C.elems (dk d1 3)) (Int.toNat (IntKind.wrap IntKind.i64 (C.toInt (dk d1 4) - 7))) C.nil)) + o5 BinOp.xor IntKind.u64 (o5 BinOp.xor IntKind.u64 (C.toInt (dk d5 0)) (C.toInt (dk d6 0))) (C.toInt (dk d7 0)))) 4294967296)])) then (k4 [dk d1 0, dk d1 1, dk d1 2, dk d1 4, C.slice (C.elems (dk d1 3) ++ [C.int (Int.tmod (IntKind.wrap IntKind.u64 (IntKind.wrap IntKind.u64 (IntKind.wrap IntKind.u64 (C.toInt (List.getD (C.elems (dk d1 3)) (Int.toNat (IntKind.wrap IntKind.i64 (C.toInt (dk d1 4) - 16))) C.nil) + o5 BinOp.xor IntKind.u64 (o5 BinOp.xor IntKind.u64 (C.toInt (dk d2 0)) (C.toInt (dk d3 0))) (C.toInt (dk d4 0))) + C.toInt (List.getD (C.elems (dk d1 3)) (Int.toNat (IntKind.wrap IntKind.i64 (C.toInt (dk d1 4) - 7))) C.nil)) + o5 BinOp.xor IntKind.u64 (o5 BinOp.xor IntKind.u64 (C.toInt (dk d5 0)) (C.toInt (dk d6 0))) (C.toInt (dk d7 0)))) 4294967296)])] []) else none) else none) else none) else none) else none))))))))))))) else none) else none)))) else (bif Nat.beq (List.length (C.elems (dk d1 3))) (List.length (C.elems (dk d1 3))) then (k2 [dk d1 0, dk d1 2, C.slice (C.elems (dk d1 3))] []) else none)))
noncomputable def q1q {R : Type} (N : Nat) (a0 a1 a2 : C) (k1 : KD R) : Option R := (jn (fun d1 m1 => (if List.isEmpty (C.elems (dk d1 0)) = false then (jn (fun d2 m2 => (jn (fun d3 m3 => (if List.length (C.elems (dk d3 1)) = List.length (C.elems (dk d3 1)) then (k1 [C.int (↑(Int.toNat (C.toInt (dk d3 0))) : Int), dk d3 1] []) else none)) (fun k2 => (if List.length (C.elems (dk d2 2)) = List.length (C.elems (dk d2 2)) then (k9 N (q0w N k2) [dk d2 0, C.int (↑(Int.toNat (C.toInt (dk d2 1))) : Int), C.int 0, C.int 0, dk d2 2, C.agg []] []) else none)))) (fun k2 => (bif Nat.beq (List.length (C.elems (dk d1 2))) (List.length (C.elems (dk d1 2))) then (if List.length (C.elems (dk d1 0)) = List.length (C.elems (dk d1 0)) then (k9 N (F3 N k2) [dk d1 0, dk d1 1, C.int (↑(List.length (C.elems (dk d1 0))) : Int), C.slice (C.elems (dk d1 2)), C.int 0, C.agg (C.elems (dk d1 0))] []) else none) else none))) else none)) (fun k2 => (k9 N (F2 N k2) [a1, a2, a0, C.slice [], C.int 0] [])))
noncomputable def J5 {R : Type} (N : Nat) : C → C → C → KD R → Option R := lid "" (q1q N)
theorem q5t {R : Type} (N : Nat) (a0 a1 a2 : C) (k : KD R) : J5 N a0 a1 a2 k = q1q N a0 a1 a2 k := by unfold J5; rw [Z9]
theorem q9Z {R : Type} (N : Nat) (a0 a1 a2 : C) (K : V → List (Key × O) → Option R) : exF (X0 gl0) ((q5u N).ov R) F0 (fun f r => bif Nat.beq f 56 then (bif Nat.beq r 0 then [(3, 5)] else bif Nat.beq r 12 then [(115, 3)] else bif Nat.beq r 18 then [(148, 7), (153, 7), (159, 7)] else bif Nat.beq r 19 then [(185, 7)] else bif Nat.beq r 21 then [(208, 7), (213, 7), (219, 7)] else []) else []) (fun f => bif Nat.beq f 56 then z0u else []) N 400 8 56 [.d o6 a0, .d (.slice 8 (.int .u64)) a1, .d (.slice 1 (.int .u8)) a2] A0 K =
  J5 N a0 a1 a2 (fun d1 m1 => K (V.sr (Key.l 1) [] 0 (Int.toNat (C.toInt (dk d1 0))) none 8 (Ty.int IntKind.u64)) [(Key.l 1, O.box (V.d (Ty.arr (List.length (C.elems (dk d1 1))) (Ty.int IntKind.u64)) (dk d1 1)))]) := by
 rw [q5t]
 exact (show _ = jn (fun d1 m1 => (K (V.sr (Key.l 1) [] 0 (Int.toNat (C.toInt (dk d1 0))) none 8 (Ty.int IntKind.u64)) [(Key.l 1, O.box (V.d (Ty.arr (List.length (C.elems (dk d1 1))) (Ty.int IntKind.u64)) (dk d1 1)))])) (q1q N a0 a1 a2) by kernel_rfl).trans (u9 _ _)
noncomputable def q3f (N : Nat) {R : Type} : OvG R := fun xs _ K => match xs with
 | [.d t0 a0, .d t1 a1, .d t2 a2] => if t0 = o6 ∧ t1 = (.slice 8 (.int .u64)) ∧ t2 = (.slice 1 (.int .u8)) then J5 N a0 a1 a2 (fun d1 m1 => K (V.sr (Key.l 1) [] 0 (Int.toNat (C.toInt (dk d1 0))) none 8 (Ty.int IntKind.u64)) [(Key.l 1, O.box (V.d (Ty.arr (List.length (C.elems (dk d1 1))) (Ty.int IntKind.u64)) (dk d1 1)))]) else none
 | _ => none
theorem z0t (N : Nat) {R : Type} : GOk (X0 gl0) 56 (q3f N (R := R)) := by
 intro xs A Kr r hr
 unfold q3f at hr
 split at hr
 ·simp only [Option.ite_none_right_eq_some] at hr
  obtain ⟨hty, hr⟩ := hr
  obtain ⟨rfl, rfl, rfl⟩ := hty
  rw [← q9Z] at hr
  exact okA (q5u N) hr
 ·cases hr
noncomputable def z2U : Hints := [([0, 1, 1, 1], ⟨[1, 2, 4], [(5, .sl 1 (.int .u8) 5005)], [], [], [], [(.int .u64)]⟩),
  ([4, 0, 1, 1, 1], ⟨[1, 2, 4], [(5, .sl 1 (.int .u8) 5005)], [], [], [], [(.int .u64)]⟩),
  ([1, 0, 1, 1, 1, 1, 1, 1], ⟨[2, 4, 7], [(5, .sl 1 (.int .u8) 5005)], [], [], [], [(.int .u64)]⟩),
  ([4, 1, 0, 1, 1, 1, 1, 1, 1], ⟨[2, 4, 7], [(5, .sl 1 (.int .u8) 5005), (6, .d (.int .u64)), (8, .d (.int .i64))], [], [], [], [(.int .u64)]⟩),
  ([1, 0, 1, 1, 1, 1, 1, 1, 1, 1, 1], ⟨[2, 4], [(5, .sl 1 (.int .u8) 5005), (9, .vec (.l 1000000000075) 8 (.int .u64))], [], [], [], [(.int .u64)]⟩),
  ([4, 1, 0, 1, 1, 1, 1, 1, 1, 1, 1, 1], ⟨[2, 4], [(5, .sl 1 (.int .u8) 5005), (9, .vec (.l 1000000000075) 8 (.int .u64)), (10, .d (.int .i64))], [], [], [], [(.int .u64)]⟩),
  ([0, 1, 1, 1, 1, 1, 1, 1, 1, 1, 1], ⟨[4], [(9, .vec (.l 1000000000075) 8 (.int .u64))], [], [], [], [(.int .u64)]⟩),
  ([1, 0, 1, 1, 1, 1, 1, 1, 1, 1, 1, 1, 1, 1], ⟨[4, 11], [], [], [], [], [(.int .u64)]⟩),
  ([4, 1, 0, 1, 1, 1, 1, 1, 1, 1, 1, 1, 1, 1, 1], ⟨[4, 11], [(9, .vec (.l 1000000000075) 8 (.int .u64)), (12, .d (.int .i64))], [], [], [], [(.int .u64)]⟩),
  ([9], ⟨[], [(4, .as (.ptr (.l 4) [] (.arr 32 (.int .u8))))], [], [(.l 4, .box (.d (.arr 32 (.int .u8))))], [], [(.int .u64)]⟩),
  ([4, 0, 1, 1, 1, 1, 1, 1, 1, 1, 1, 1], ⟨[2, 4], [(5, .d (.slice 1 (.int .u8))), (9, .vec (.l 1000000000075) 8 (.int .u64))], [], [], [], [(.int .u64)]⟩)]
noncomputable def q7C (N : Nat) : OvS (X0 gl0) where
 g R := [(55, q8i N), (56, q3f N)]
 ok := fun R => List.forall_mem_cons.2 ⟨z4L N, List.forall_mem_cons.2 ⟨z0t N, fun _ h => nomatch h⟩⟩
noncomputable def q1h {R : Type} (N : Nat) (k2 : KD R) : KD R → List C → List Es → Option R := (fun k3 d5 m5 => (bif decide (0 ≤ C.toInt (dk d5 1)) then (if 0 ≤ IntKind.wrap IntKind.i64 (Int.tdiv (C.toInt (dk d5 1)) 4) ∧ IntKind.wrap IntKind.i64 (Int.tdiv (C.toInt (dk d5 1)) 4) < (↑(Int.toNat (C.toInt (dk d5 0))) : Int) then (if 0 ≤ C.toInt (dk d5 1) ∧ C.toInt (dk d5 1) < 32 then (if 0 ≤ IntKind.wrap IntKind.i64 (Int.tdiv (C.toInt (dk d5 1)) 4) ∧ IntKind.wrap IntKind.i64 (Int.tdiv (C.toInt (dk d5 1)) 4) < (↑(Int.toNat (C.toInt (dk d5 0))) : Int) then (if 0 ≤ IntKind.wrap IntKind.i64 (Int.tdiv (C.toInt (dk d5 1)) 4) ∧ IntKind.wrap IntKind.i64 (Int.tdiv (C.toInt (dk d5 1)) 4) < (↑(Int.toNat (C.toInt (dk d5 0))) : Int) then (if List.length (C.elems (dk d5 4)) = List.length (C.elems (C.set (dk d5 4) (0 + Int.toNat (IntKind.wrap IntKind.i64 (Int.tdiv (C.toInt (dk d5 1)) 4))) (C.int (IntKind.wrap IntKind.u64 (Int.tdiv (C.toInt (C.get (dk d5 4) (0 + Int.toNat (IntKind.wrap IntKind.i64 (Int.tdiv (C.toInt (dk d5 1)) 4))))) 256))))) then (k3 [C.int (↑(Int.toNat (C.toInt (dk d5 0))) : Int), C.int (IntKind.wrap IntKind.i64 (C.toInt (dk d5 1) - 1)), dk d5 2, C.set (dk d5 3) (Int.toNat (C.toInt (dk d5 1))) (C.int (IntKind.wrap IntKind.u8 (Int.tmod (C.toInt (C.get (dk d5 4) (0 + Int.toNat (IntKind.wrap IntKind.i64 (Int.tdiv (C.toInt (dk d5 1)) 4))))) 256))), C.set (dk d5 4) (0 + Int.toNat (IntKind.wrap IntKind.i64 (Int.tdiv (C.toInt (dk d5 1)) 4))) (C.int (IntKind.wrap IntKind.u64 (Int.tdiv (C.toInt (C.get (dk d5 4) (0 + Int.toNat (IntKind.wrap IntKind.i64 (Int.tdiv (C.toInt (dk d5 1)) 4))))) 256)))] []) else none) else none) else none) else none) else none) else (k2 [dk d5 2, dk d5 3] [])))
noncomputable def q2x {R : Type} (N : Nat) (k2 : KD R) : KD R → List C → List Es → Option R := (fun k3 d4 m4 => (bif decide (0 < (↑(List.length (C.elems (dk d4 1))) : Int)) then (if Int.ofNat 0 ≤ 0 ∧ Int.ofNat 0 ≤ 64 ∧ 64 ≤ (↑(List.length (C.elems (dk d4 1))) : Int) then (J5 N (dk d4 0) (C.slice (List.take (Int.toNat (C.toInt (dk d4 2))) (List.drop 0 (C.elems (dk d4 4))))) (C.slice (cut (C.elems (dk d4 1)) 0 64)) (fun d5 m5 => (if Int.ofNat 0 ≤ 64 ∧ 64 ≤ (↑(List.length (C.elems (dk d4 1))) : Int) ∧ (↑(List.length (C.elems (dk d4 1))) : Int) ≤ (↑(List.length (C.elems (dk d4 1))) : Int) then (if List.length (C.elems (dk d5 1)) = List.length (C.elems (dk d5 1)) then (k3 [dk d4 0, C.slice (cut (C.elems (dk d4 1)) 64 (↑(List.length (C.elems (dk d4 1))) : Int)), C.int (↑(Int.toNat (C.toInt (dk d5 0))) : Int), dk d4 3, dk d5 1] []) else none) else none))) else none) else (if List.length (C.elems (dk d4 4)) = List.length (C.elems (dk d4 4)) then (k2 [C.int (↑(Int.toNat (C.toInt (dk d4 2))) : Int), dk d4 3, dk d4 4] []) else none)))
noncomputable def q1g {R : Type} (N : Nat) (k2 : KD R) : KD R → List C → List Es → Option R := (fun k3 d3 m3 => (bif decide (C.toInt (dk d3 3) < 8) then (q1M N (C.get (dk d3 0) 0) (dk d3 3) (fun d4 m4 => (if 0 ≤ C.toInt (dk d3 3) ∧ C.toInt (dk d3 3) < (↑(Int.toNat (C.toInt (dk d3 2))) : Int) then (bif Nat.beq (List.length (C.elems (dk d3 1))) (List.length (C.elems (dk d3 1))) then (if List.length (C.elems (dk d3 5)) = List.length (C.elems (C.set (dk d3 5) (0 + Int.toNat (C.toInt (dk d3 3))) (dk d4 0))) then (k3 [dk d3 0, C.slice (C.elems (dk d3 1)), C.int (↑(Int.toNat (C.toInt (dk d3 2))) : Int), C.int (IntKind.wrap IntKind.i64 (C.toInt (dk d3 3) + 1)), dk d3 4, C.set (dk d3 5) (0 + Int.toNat (C.toInt (dk d3 3))) (dk d4 0)] []) else none) else none) else none))) else (bif Nat.beq (List.length (C.elems (dk d3 1))) (List.length (C.elems (dk d3 1))) then (if List.length (C.elems (dk d3 5)) = List.length (C.elems (dk d3 5)) then (k2 [dk d3 0, C.slice (C.elems (dk d3 1)), C.int (↑(Int.toNat (C.toInt (dk d3 2))) : Int), dk d3 4, dk d3 5] []) else none) else none)))
noncomputable def q0x {R : Type} (N : Nat) (k2 : KD R) : KD R → List C → List Es → Option R := (fun k3 d2 m2 => (bif decide (0 ≤ C.toInt (dk d2 6)) then (if 0 ≤ C.toInt (dk d2 6) ∧ C.toInt (dk d2 6) < (↑(Int.toNat (C.toInt (dk d2 2))) : Int) then (bif Nat.beq (List.length (C.elems (dk d2 4))) (List.length (C.elems (dk d2 4))) then (k3 [dk d2 0, C.int (↑(Int.toNat (C.toInt (dk d2 1))) : Int), C.int (↑(Int.toNat (C.toInt (dk d2 2))) : Int), C.int (↑(Int.toNat (C.toInt (dk d2 3))) : Int), C.slice (C.elems (dk d2 4)), C.int (IntKind.wrap IntKind.u64 (Int.tdiv (C.toInt (dk d2 5)) 256)), C.int (IntKind.wrap IntKind.i64 (C.toInt (dk d2 6) - 1)), dk d2 7, C.set (dk d2 8) (Int.toNat (C.toInt (dk d2 1)) + Int.toNat (C.toInt (dk d2 6))) (C.int (IntKind.wrap IntKind.u8 (Int.tmod (C.toInt (dk d2 5)) 256)))] []) else none) else none) else (bif Nat.beq (List.length (C.elems (dk d2 4))) (List.length (C.elems (dk d2 4))) then (k2 [dk d2 0, C.int (↑(Int.toNat (C.toInt (dk d2 1))) : Int), C.int (↑(Int.toNat (C.toInt (dk d2 2))) : Int), C.int (↑(Int.toNat (C.toInt (dk d2 3))) : Int), C.slice (C.elems (dk d2 4)), dk d2 7, dk d2 8] []) else none)))
noncomputable def q1f {R : Type} (N : Nat) (k2 : KD R) : KD R → List C → List Es → Option R := (fun k3 d1 m1 => (bif !decide (Int.tmod (↑(List.length (C.elems (dk d1 2))) : Int) 64 = 56) then (bif Nat.beq (List.length (C.elems (dk d1 2))) (List.length (C.elems (dk d1 2))) then (if (List.length (C.elems (dk d1 2)) + 1) * 1 ≤ 140737488355328 ∧ List.length (C.elems (dk d1 2)) + 1 ≤ 9223372036854775807 then (bif Nat.beq (List.length (C.elems (dk d1 2)) + 1) (List.length (C.elems (dk d1 2) ++ [C.int 0])) then (k3 [dk d1 0, dk d1 1, C.slice (C.elems (dk d1 2) ++ [C.int 0]), dk d1 3] []) else none) else none) else none) else (bif Nat.beq (List.length (C.elems (dk d1 2))) (List.length (C.elems (dk d1 2))) then (k2 [dk d1 0, dk d1 1, C.slice (C.elems (dk d1 2)), dk d1 3] []) else none)))
noncomputable def q2w {R : Type} (N : Nat) (a0 a1 : C) (k1 : KD R) : Option R := (bif Nat.beq (List.length (C.elems a1)) (List.length (C.elems a1)) then (if (List.length (C.elems a1) + 1) * 1 ≤ 140737488355328 ∧ List.length (C.elems a1) + 1 ≤ 9223372036854775807 then (jn (fun d1 m1 => (jn (fun d2 m2 => (bif Nat.beq (List.length (C.elems (dk d2 4))) (List.length (C.elems (dk d2 4))) then (if (List.length (C.elems (dk d2 4)) + List.length (List.take (Int.toNat (C.toInt (dk d2 2))) (List.drop (Int.toNat (C.toInt (dk d2 1))) (C.elems (dk d2 6))))) * 1 ≤ 140737488355328 ∧ List.length (C.elems (dk d2 4)) + List.length (List.take (Int.toNat (C.toInt (dk d2 2))) (List.drop (Int.toNat (C.toInt (dk d2 1))) (C.elems (dk d2 6)))) ≤ 9223372036854775807 then (jn (fun d3 m3 => (jn (fun d4 m4 => (jn (fun d5 m5 => (k1 [dk d5 1] [])) (fun k2 => (if List.length (C.elems (dk d4 2)) = List.length (C.elems (dk d4 2)) then (k9 N (q1h N k2) [C.int (↑(Int.toNat (C.toInt (dk d4 0))) : Int), C.int 31, dk d4 1, u7 (Ty.arr 32 (Ty.int IntKind.u8)), dk d4 2] []) else none)))) (fun k2 => (if List.length (C.elems (dk d3 4)) = List.length (C.elems (dk d3 4)) then (k9 N (q2x N k2) [dk d3 0, C.slice (C.elems (dk d3 1)), C.int (↑(Int.toNat (C.toInt (dk d3 2))) : Int), dk d3 3, dk d3 4] []) else none)))) (fun k2 => (bif Nat.beq (List.length (C.elems (dk d2 4)) + List.length (List.take (Int.toNat (C.toInt (dk d2 2))) (List.drop (Int.toNat (C.toInt (dk d2 1))) (C.elems (dk d2 6))))) (List.length (C.elems (dk d2 4) ++ List.take (Int.toNat (C.toInt (dk d2 2))) (List.drop (Int.toNat (C.toInt (dk d2 1))) (C.elems (dk d2 6))))) then (k9 N (q1g N k2) [dk d2 0, C.slice (C.elems (dk d2 4) ++ List.take (Int.toNat (C.toInt (dk d2 2))) (List.drop (Int.toNat (C.toInt (dk d2 1))) (C.elems (dk d2 6)))), C.int (↑(Int.toNat 8) : Int), C.int 0, dk d2 5, C.agg (List.replicate 8 (u7 (Ty.int IntKind.u64)))] []) else none))) else none) else none)) (fun k2 => (bif Nat.beq (List.length (C.elems (dk d1 2))) (List.length (C.elems (dk d1 2))) then (k9 N (q0x N k2) [dk d1 1, C.int 0, C.int (↑(Int.toNat 8) : Int), C.int (↑(Int.toNat 8) : Int), C.slice (C.elems (dk d1 2)), C.int (IntKind.wrap IntKind.u64 (IntKind.wrap IntKind.u64 (↑(List.length (C.elems (dk d1 0))) : Int) * 8)), C.int 7, dk d1 3, C.agg (List.replicate 8 (u7 (Ty.int IntKind.u8)))] []) else none)))) (fun k2 => (bif Nat.beq (List.length (C.elems a1) + 1) (List.length (C.elems a1 ++ [C.int 128])) then (k9 N (q1f N k2) [a1, a0, C.slice (C.elems a1 ++ [C.int 128]), u7 (Ty.arr 32 (Ty.int IntKind.u8))] []) else none))) else none) else none)
noncomputable def q0Y {R : Type} (N : Nat) : C → C → KD R → Option R := lid "" (q2w N)
theorem q7B {R : Type} (N : Nat) (a0 a1 : C) (k : KD R) : q0Y N a0 a1 k = q2w N a0 a1 k := by unfold q0Y; rw [Z9]
theorem z2j {R : Type} (N : Nat) (a0 a1 : C) (K : V → List (Key × O) → Option R) : exF (X0 gl0) ((q7C N).ov R) F0 (fun f r => bif Nat.beq f 42 then (bif Nat.beq r 0 then [(2, 5)] else bif Nat.beq r 13 then [(45, 9)] else bif Nat.beq r 19 then [(1000009, 17)] else []) else []) (fun f => bif Nat.beq f 42 then z2U else []) N 400 8 42 [.d o6 a0, .d (.slice 1 (.int .u8)) a1] A0 K =
  q0Y N a0 a1 (fun d1 m1 => K (V.d (Ty.arr 32 (Ty.int IntKind.u8)) (dk d1 0)) []) := by
 rw [q7B]
 exact (show _ = jn (fun d1 m1 => (K (V.d (Ty.arr 32 (Ty.int IntKind.u8)) (dk d1 0)) [])) (q2w N a0 a1) by kernel_rfl).trans (u9 _ _)
noncomputable def q4O (N : Nat) {R : Type} : OvG R := fun xs _ K => match xs with
 | [.d t0 a0, .d t1 a1] => if t0 = o6 ∧ t1 = (.slice 1 (.int .u8)) then q0Y N a0 a1 (fun d1 m1 => K (V.d (Ty.arr 32 (Ty.int IntKind.u8)) (dk d1 0)) []) else none
 | _ => none
theorem z2T (N : Nat) {R : Type} : GOk (X0 gl0) 42 (q4O N (R := R)) := by
 intro xs A Kr r hr
 unfold q4O at hr
 split at hr
 ·simp only [Option.ite_none_right_eq_some] at hr
  obtain ⟨hty, hr⟩ := hr
  obtain ⟨rfl, rfl⟩ := hty
  rw [← z2j] at hr
  exact okA (q7C N) hr
 ·cases hr
noncomputable def z9f : Hints := [([1, 0, 1, 1], ⟨[], [(5, .sl 1 (.int .u8) 5005)], [], [], [], []⟩),
  ([4, 1, 0, 1, 1], ⟨[1], [(5, .sl 1 (.int .u8) 5005), (6, .d (.int .i64))], [], [], [], []⟩),
  ([9], ⟨[], [(4, .sl 1 (.int .u8) 5004)], [], [], [], []⟩)]
noncomputable def z11 (N : Nat) : OvS (X0 gl0) where
 g R := []
 ok := fun R => fun _ h => nomatch h
noncomputable def q3u {R : Type} (N : Nat) (k2 : KD R) : KD R → List C → List Es → Option R := (fun k3 d1 m1 => (bif decide (C.toInt (dk d1 2) < (↑(List.length (C.elems (dk d1 0))) : Int)) then (if 0 ≤ C.toInt (dk d1 2) ∧ C.toInt (dk d1 2) < (↑(List.length (C.elems (dk d1 0))) : Int) then (bif Nat.beq (List.length (C.elems (dk d1 1))) (List.length (C.elems (dk d1 1))) then (if (List.length (C.elems (dk d1 1)) + 4) * 1 ≤ 140737488355328 ∧ List.length (C.elems (dk d1 1)) + 4 ≤ 9223372036854775807 then (if 0 ≤ C.toInt (dk d1 2) ∧ C.toInt (dk d1 2) < (↑(List.length (C.elems (dk d1 0))) : Int) then (bif Nat.beq (List.length (C.elems (dk d1 1)) + 4) (List.length (C.elems (dk d1 1) ++ [C.int (IntKind.wrap IntKind.u8 (IntKind.wrap IntKind.i64 (Int.tdiv (↑(List.length (C.elems (List.getD (C.elems (dk d1 0)) (Int.toNat (C.toInt (dk d1 2))) C.nil))) : Int) 16777216))), C.int (IntKind.wrap IntKind.u8 (IntKind.wrap IntKind.i64 (Int.tdiv (↑(List.length (C.elems (List.getD (C.elems (dk d1 0)) (Int.toNat (C.toInt (dk d1 2))) C.nil))) : Int) 65536))), C.int (IntKind.wrap IntKind.u8 (IntKind.wrap IntKind.i64 (Int.tdiv (↑(List.length (C.elems (List.getD (C.elems (dk d1 0)) (Int.toNat (C.toInt (dk d1 2))) C.nil))) : Int) 256))), C.int (IntKind.wrap IntKind.u8 (↑(List.length (C.elems (List.getD (C.elems (dk d1 0)) (Int.toNat (C.toInt (dk d1 2))) C.nil))) : Int))])) then (if (List.length (C.elems (dk d1 1) ++ [C.int (IntKind.wrap IntKind.u8 (IntKind.wrap IntKind.i64 (Int.tdiv (↑(List.length (C.elems (List.getD (C.elems (dk d1 0)) (Int.toNat (C.toInt (dk d1 2))) C.nil))) : Int) 16777216))), C.int (IntKind.wrap IntKind.u8 (IntKind.wrap IntKind.i64 (Int.tdiv (↑(List.length (C.elems (List.getD (C.elems (dk d1 0)) (Int.toNat (C.toInt (dk d1 2))) C.nil))) : Int) 65536))), C.int (IntKind.wrap IntKind.u8 (IntKind.wrap IntKind.i64 (Int.tdiv (↑(List.length (C.elems (List.getD (C.elems (dk d1 0)) (Int.toNat (C.toInt (dk d1 2))) C.nil))) : Int) 256))), C.int (IntKind.wrap IntKind.u8 (↑(List.length (C.elems (List.getD (C.elems (dk d1 0)) (Int.toNat (C.toInt (dk d1 2))) C.nil))) : Int))]) + List.length (C.elems (List.getD (C.elems (dk d1 0)) (Int.toNat (C.toInt (dk d1 2))) C.nil))) * 1 ≤ 140737488355328 ∧ List.length (C.elems (dk d1 1) ++ [C.int (IntKind.wrap IntKind.u8 (IntKind.wrap IntKind.i64 (Int.tdiv (↑(List.length (C.elems (List.getD (C.elems (dk d1 0)) (Int.toNat (C.toInt (dk d1 2))) C.nil))) : Int) 16777216))), C.int (IntKind.wrap IntKind.u8 (IntKind.wrap IntKind.i64 (Int.tdiv (↑(List.length (C.elems (List.getD (C.elems (dk d1 0)) (Int.toNat (C.toInt (dk d1 2))) C.nil))) : Int) 65536))), C.int (IntKind.wrap IntKind.u8 (IntKind.wrap IntKind.i64 (Int.tdiv (↑(List.length (C.elems (List.getD (C.elems (dk d1 0)) (Int.toNat (C.toInt (dk d1 2))) C.nil))) : Int) 256))), C.int (IntKind.wrap IntKind.u8 (↑(List.length (C.elems (List.getD (C.elems (dk d1 0)) (Int.toNat (C.toInt (dk d1 2))) C.nil))) : Int))]) + List.length (C.elems (List.getD (C.elems (dk d1 0)) (Int.toNat (C.toInt (dk d1 2))) C.nil)) ≤ 9223372036854775807 then (bif Nat.beq (List.length (C.elems (dk d1 1) ++ [C.int (IntKind.wrap IntKind.u8 (IntKind.wrap IntKind.i64 (Int.tdiv (↑(List.length (C.elems (List.getD (C.elems (dk d1 0)) (Int.toNat (C.toInt (dk d1 2))) C.nil))) : Int) 16777216))), C.int (IntKind.wrap IntKind.u8 (IntKind.wrap IntKind.i64 (Int.tdiv (↑(List.length (C.elems (List.getD (C.elems (dk d1 0)) (Int.toNat (C.toInt (dk d1 2))) C.nil))) : Int) 65536))), C.int (IntKind.wrap IntKind.u8 (IntKind.wrap IntKind.i64 (Int.tdiv (↑(List.length (C.elems (List.getD (C.elems (dk d1 0)) (Int.toNat (C.toInt (dk d1 2))) C.nil))) : Int) 256))), C.int (IntKind.wrap IntKind.u8 (↑(List.length (C.elems (List.getD (C.elems (dk d1 0)) (Int.toNat (C.toInt (dk d1 2))) C.nil))) : Int))]) + List.length (C.elems (List.getD (C.elems (dk d1 0)) (Int.toNat (C.toInt (dk d1 2))) C.nil))) (List.length (C.elems (dk d1 1) ++ [C.int (IntKind.wrap IntKind.u8 (IntKind.wrap IntKind.i64 (Int.tdiv (↑(List.length (C.elems (List.getD (C.elems (dk d1 0)) (Int.toNat (C.toInt (dk d1 2))) C.nil))) : Int) 16777216))), C.int (IntKind.wrap IntKind.u8 (IntKind.wrap IntKind.i64 (Int.tdiv (↑(List.length (C.elems (List.getD (C.elems (dk d1 0)) (Int.toNat (C.toInt (dk d1 2))) C.nil))) : Int) 65536))), C.int (IntKind.wrap IntKind.u8 (IntKind.wrap IntKind.i64 (Int.tdiv (↑(List.length (C.elems (List.getD (C.elems (dk d1 0)) (Int.toNat (C.toInt (dk d1 2))) C.nil))) : Int) 256))), C.int (IntKind.wrap IntKind.u8 (↑(List.length (C.elems (List.getD (C.elems (dk d1 0)) (Int.toNat (C.toInt (dk d1 2))) C.nil))) : Int))] ++ C.elems (List.getD (C.elems (dk d1 0)) (Int.toNat (C.toInt (dk d1 2))) C.nil))) then (k3 [dk d1 0, C.slice (C.elems (dk d1 1) ++ [C.int (IntKind.wrap IntKind.u8 (IntKind.wrap IntKind.i64 (Int.tdiv (↑(List.length (C.elems (List.getD (C.elems (dk d1 0)) (Int.toNat (C.toInt (dk d1 2))) C.nil))) : Int) 16777216))), C.int (IntKind.wrap IntKind.u8 (IntKind.wrap IntKind.i64 (Int.tdiv (↑(List.length (C.elems (List.getD (C.elems (dk d1 0)) (Int.toNat (C.toInt (dk d1 2))) C.nil))) : Int) 65536))), C.int (IntKind.wrap IntKind.u8 (IntKind.wrap IntKind.i64 (Int.tdiv (↑(List.length (C.elems (List.getD (C.elems (dk d1 0)) (Int.toNat (C.toInt (dk d1 2))) C.nil))) : Int) 256))), C.int (IntKind.wrap IntKind.u8 (↑(List.length (C.elems (List.getD (C.elems (dk d1 0)) (Int.toNat (C.toInt (dk d1 2))) C.nil))) : Int))] ++ C.elems (List.getD (C.elems (dk d1 0)) (Int.toNat (C.toInt (dk d1 2))) C.nil)), C.int (IntKind.wrap IntKind.i64 (C.toInt (dk d1 2) + 1))] []) else none) else none) else none) else none) else none) else none) else none) else (bif Nat.beq (List.length (C.elems (dk d1 1))) (List.length (C.elems (dk d1 1))) then (k2 [C.slice (C.elems (dk d1 1))] []) else none)))
noncomputable def q3t {R : Type} (N : Nat) (a0 a1 : C) (k1 : KD R) : Option R := (jn (fun d1 m1 => (bif Nat.beq (List.length (C.elems (dk d1 0))) (List.length (C.elems (dk d1 0))) then (k1 [C.slice (C.elems (dk d1 0))] []) else none)) (fun k2 => (k9 N (q3u N k2) [a1, C.slice [a0, C.int (IntKind.wrap IntKind.u8 (↑(List.length (C.elems a1)) : Int))], C.int 0] [])))
noncomputable def q2T {R : Type} (N : Nat) : C → C → KD R → Option R := lid "" (q3t N)
theorem z10 {R : Type} (N : Nat) (a0 a1 : C) (k : KD R) : q2T N a0 a1 k = q3t N a0 a1 k := by unfold q2T; rw [Z9]
theorem z7z {R : Type} (N : Nat) (a0 a1 : C) (K : V → List (Key × O) → Option R) : exF (X0 gl0) ((z11 N).ov R) F0 (fun f r => bif Nat.beq f 43 then (bif Nat.beq r 1 then [(12, 4)] else []) else []) (fun f => bif Nat.beq f 43 then z9f else []) N 400 8 43 [.d (.int .u8) a0, .d (.slice 24 (.slice 1 (.int .u8))) a1] A0 K =
  q2T N a0 a1 (fun d1 m1 => K (V.ts 1 (Ty.int IntKind.u8) (C.elems (dk d1 0))) []) := by
 rw [z10]
 exact (show _ = jn (fun d1 m1 => (bif Nat.beq (List.length (C.elems (dk d1 0))) (List.length (C.elems (dk d1 0))) then
  (K (V.ts 1 (Ty.int IntKind.u8) (C.elems (dk d1 0))) [])
 else
  none)) (q3t N a0 a1) by kernel_rfl).trans ((u9 _ _).trans (congrArg (q3t N a0 a1) (funext fun _ => funext fun _ => by simp only [Nat.beq_refl, cond_true])))
noncomputable def q8L (N : Nat) {R : Type} : OvG R := fun xs _ K => match xs with
 | [.d t0 a0, .d t1 a1] => if t0 = (.int .u8) ∧ t1 = (.slice 24 (.slice 1 (.int .u8))) then q2T N a0 a1 (fun d1 m1 => K (V.ts 1 (Ty.int IntKind.u8) (C.elems (dk d1 0))) []) else none
 | _ => none
theorem z9e (N : Nat) {R : Type} : GOk (X0 gl0) 43 (q8L N (R := R)) := by
 intro xs A Kr r hr
 unfold q8L at hr
 split at hr
 ·simp only [Option.ite_none_right_eq_some] at hr
  obtain ⟨hty, hr⟩ := hr
  obtain ⟨rfl, rfl⟩ := hty
  rw [← z7z] at hr
  exact okA (z11 N) hr
 ·cases hr
noncomputable def z2l : Hints := [([9], ⟨[], [(6, .as (.ptr (.l 6) [] (.arr 32 (.int .u8))))], [], [(.l 6, .box (.d (.arr 32 (.int .u8))))], [], []⟩)]
noncomputable def q6t (N : Nat) : OvS (X0 gl0) where
 g R := [(42, q4O N), (43, q8L N)]
 ok := fun R => List.forall_mem_cons.2 ⟨z2T N, List.forall_mem_cons.2 ⟨z9e N, fun _ h => nomatch h⟩⟩
noncomputable def q2f {R : Type} (N : Nat) (a0 a1 a2 : C) (k1 : KD R) : Option R := (q2T N a1 a2 (fun d1 m1 => (q0Y N a0 (C.slice (C.elems (dk d1 0))) (fun d2 m2 => (k1 [dk d2 0] [])))))
noncomputable def q0y {R : Type} (N : Nat) : C → C → C → KD R → Option R := lid "" (q2f N)
theorem q6s {R : Type} (N : Nat) (a0 a1 a2 : C) (k : KD R) : q0y N a0 a1 a2 k = q2f N a0 a1 a2 k := by unfold q0y; rw [Z9]
theorem z1f {R : Type} (N : Nat) (a0 a1 a2 : C) (K : V → List (Key × O) → Option R) : exF (X0 gl0) ((q6t N).ov R) F0 (fun f r => bif Nat.beq f 37 then (bif Nat.beq r 0 then [(3, 5)] else bif Nat.beq r 1 then [(11, 7)] else []) else []) (fun f => bif Nat.beq f 37 then z2l else []) N 400 8 37 [.d o6 a0, .d (.int .u8) a1, .d (.slice 24 (.slice 1 (.int .u8))) a2] A0 K =
  q0y N a0 a1 a2 (fun d1 m1 => K (V.d (Ty.arr 32 (Ty.int IntKind.u8)) (dk d1 0)) []) := by
 rw [q6s]
 exact (show _ = jn (fun d1 m1 => (K (V.d (Ty.arr 32 (Ty.int IntKind.u8)) (dk d1 0)) [])) (q2f N a0 a1 a2) by kernel_rfl).trans (u9 _ _)
noncomputable def q4a (N : Nat) {R : Type} : OvG R := fun xs _ K => match xs with
 | [.d t0 a0, .d t1 a1, .d t2 a2] => if t0 = o6 ∧ t1 = (.int .u8) ∧ t2 = (.slice 24 (.slice 1 (.int .u8))) then q0y N a0 a1 a2 (fun d1 m1 => K (V.d (Ty.arr 32 (Ty.int IntKind.u8)) (dk d1 0)) []) else none
 | _ => none
theorem z2k (N : Nat) {R : Type} : GOk (X0 gl0) 37 (q4a N (R := R)) := by
 intro xs A Kr r hr
 unfold q4a at hr
 split at hr
 ·simp only [Option.ite_none_right_eq_some] at hr
  obtain ⟨hty, hr⟩ := hr
  obtain ⟨rfl, rfl, rfl⟩ := hty
  rw [← z1f] at hr
  exact okA (q6t N) hr
 ·cases hr
end Go.Proofs.Yteaddgnjddjllaa
namespace Go.Proofs.Yteaddgnjddjllaa
open Go Go.E
set_option maxRecDepth 100000
set_option maxHeartbeats 4000000
set_option linter.unusedSimpArgs false
variable {R : Type} {N : Nat}
def x1c (b : Int) : Int := if 97 ≤ b then IntKind.u64.wrap (b - 39) else b
def z1B (s : List UInt8) (n : Nat) : Nat → Int
 | 0 => 0
 | i + 1 => IntKind.u64.wrap (IntKind.u64.wrap (IntKind.u64.wrap (z1B s n i * 16) + x1c (IntKind.u64.wrap ((s.getD (8 * n + i) (UInt8.ofNat 0)).toNat : Int))) - 48)
theorem y8l (s : C) (n : Nat) (h1 : 8 * n + 8 ≤ s.toStr.length) (h2 : n ≤ 1000) (hN : 100 < N) (k : KD R) : q1M N s (.int n) k = k [.int (z1B s.toStr n 8)] [] := by
 have q1 : IntKind.i64.wrap (8 * (n : Int)) = 8 * n := wrap_i64 (by omega) (by omega)
 have q2 : IntKind.i64.wrap (8 * (n : Int) + 8) = 8 * n + 8 := wrap_i64 (by omega) (by omega)
 have lp : ∀ K : KD R, k9 N (q40 N K) [s, .int n, .int 0, .int (8 * n + (0 : Nat))] [] = K [.int (z1B s.toStr n 8)] [] := fun K => by
  refine U9 (F := q40 N K) (fun i => [s, .int n, .int (z1B s.toStr n i), .int (8 * n + (i : Nat))]) (fun _ => []) 8 _ ?_ ?_ (N := N) (by omega)
  ·intro i hi rec
   have e1 : 8 * (n : Int) + i < 8 * n + 8 := by omega
   have e2 : 0 ≤ 8 * (n : Int) + i ∧ 8 * (n : Int) + i < (s.toStr.length : Int) := by omega
   have e3 : IntKind.i64.wrap (8 * (n : Int) + i + 1) = 8 * n + ((i + 1 : Nat) : Int) := by rw [wrap_i64 (by omega) (by omega)]; omega
   have e4 : (8 * (n : Int) + i).toNat = 8 * n + i := by omega
   unfold q40
   simp only [u9, w6, u0, o8, j9, Y3, w7, q1, q2, e1, e3, e4, decide_true, cond_true]
   refine (if_pos e2).trans ?_
   simp only [z1B, x1c]
   by_cases z : 97 ≤ IntKind.u64.wrap ((List.getD s.toStr (8 * n + i) (UInt8.ofNat 0)).toNat : Int)
   ·refine (congrArg (fun b => cond b _ _) (decide_eq_true z)).trans ?_
    rw [if_pos z]
    rfl
   ·refine (congrArg (fun b => cond b _ _) (decide_eq_false z)).trans ?_
    rw [if_neg z]
    rfl
  ·intro rec
   unfold q40
   have e : ¬ 8 * (n : Int) + ((8 : Nat) : Int) < 8 * n + 8 := by omega
   simp only [w6, u0, o8, j9, w7, q1, q2, e, decide_false, cond_false]
 rw [z4J]
 unfold q62
 simp only [u9, w7, q1]
 rw [show (8 * (n : Int)) = 8 * n + (0 : Nat) by omega]
 exact (lp _).trans rfl
structure q6p (t : C) : Prop where
 l0 : (t.get 0).toStr.length = 64
 l1 : (t.get 1).toStr.length = 512
 w0 : ∀ i, i < 8 → z1B (t.get 0).toStr i 8 = ((([1779033703, 3144134277, 1013904242, 2773480762, 1359893119, 2600822924, 528734635, 1541459225] : List W32).getD i 0).toNat : Int)
 w1 : ∀ i, i < 64 → z1B (t.get 1).toStr i 8 = ((ksW.getD i 0).toNat : Int)
theorem q2r (x : Int) : IntKind.u64.wrap x = x % 18446744073709551616 := by simp [IntKind.wrap, IntKind.bits, IntKind.signed]
theorem y3P (x : W32) : BitVec.ofInt 64 (x.toNat : Int) = x.setWidth 64 := by
 rw [BitVec.ofInt_natCast]; apply BitVec.eq_of_toNat_eq; simp
theorem x64 (x y : W32) : o5 BinOp.xor IntKind.u64 (x.toNat : Int) (y.toNat : Int) = ((x ^^^ y).toNat : Int) := by
 show IntKind.u64.wrap (((BitVec.ofInt 64 (x.toNat : Int)) ^^^ (BitVec.ofInt 64 (y.toNat : Int))).toNat : Int) = _
 rw [y3P, y3P, ← BitVec.setWidth_xor, BitVec.toNat_setWidth, q2r]
 have := q0d (x ^^^ y); omega
theorem a64 (x y : W32) : o5 BinOp.and IntKind.u64 (x.toNat : Int) (y.toNat : Int) = ((x &&& y).toNat : Int) := by
 show IntKind.u64.wrap (((BitVec.ofInt 64 (x.toNat : Int)) &&& (BitVec.ofInt 64 (y.toNat : Int))).toNat : Int) = _
 rw [y3P, y3P, ← BitVec.setWidth_and, BitVec.toNat_setWidth, q2r]
 have := q0d (x &&& y); omega
theorem x13 (x : W32) : IntKind.u64.wrap (4294967295 - (x.toNat : Int)) = ((~~~x).toNat : Int) := by
 have := q0d x
 rw [q2r, BitVec.toNat_not]; omega
theorem x0I (e f g : W32) : (e &&& f) + (~~~e &&& g) = g ^^^ (e &&& (f ^^^ g)) := by
 have h : (e &&& f) &&& (~~~e &&& g) = 0 := by
  apply BitVec.eq_of_getLsbD_eq
  intro i hi
  simp only [BitVec.getLsbD_and, BitVec.getLsbD_not, BitVec.getLsbD_zero]
  cases e.getLsbD i <;> simp
 rw [BitVec.add_eq_or_of_and_eq_zero _ _ h]
 apply BitVec.eq_of_getLsbD_eq
 intro i hi
 simp only [BitVec.getLsbD_and, BitVec.getLsbD_or, BitVec.getLsbD_xor, BitVec.getLsbD_not, hi, decide_true, Bool.true_and]
 cases e.getLsbD i <;> cases f.getLsbD i <;> cases g.getLsbD i <;> rfl
theorem x0O (a b c : W32) : (a &&& b) ^^^ (a &&& c) ^^^ (b &&& c) = (a &&& b) ||| (c &&& (a ||| b)) := by
 apply BitVec.eq_of_getLsbD_eq
 intro i hi
 simp only [BitVec.getLsbD_and, BitVec.getLsbD_or, BitVec.getLsbD_xor]
 cases a.getLsbD i <;> cases b.getLsbD i <;> cases c.getLsbD i <;> rfl
theorem y3T {x : Int} {v : W32} (h0 : 0 ≤ x) (h1 : x < 18446744073709551616) (h : x % 4294967296 = (v.toNat : Int)) : Int.tmod (IntKind.u64.wrap x) 4294967296 = (v.toNat : Int) := by
 rw [q2r, Int.emod_eq_of_lt h0 h1, Int.tmod_eq_emod_of_nonneg h0]; exact h
end Go.Proofs.Yteaddgnjddjllaa
namespace Go.Proofs.Yteaddgnjddjllaa
open Go Go.E
set_option maxRecDepth 100000
set_option maxHeartbeats 4000000
set_option linter.unusedSimpArgs false
variable {R : Type} {N : Nat}
def z7s (w : List C) (l : List W32) (i : Nat) : W32 :=
 if i < 16 then q5M ((w.drop (4 * i)).take 4) else l.getD (i - 16) 0 + (sg0 (l.getD (i - 15) 0) + l.getD (i - 7) 0 + sg1 (l.getD (i - 2) 0))
def J4 (w : List C) : Nat → List W32
 | 0 => []
 | i + 1 => J4 w i ++ [z7s w (J4 w i) i]
theorem q34 (w : List C) : ∀ i, (J4 w i).length = i
 | 0 => rfl
 | i + 1 => by simp [J4, q34 w i]
theorem q8F (w : List C) (i : Nat) : ∀ j, i < j → (J4 w j).getD i 0 = z7s w (J4 w i) i
 | 0, h => by omega
 | j + 1, h => by
  simp only [J4, List.getD_eq_getElem?_getD]
  by_cases e : i = j
  ·subst e
   rw [List.getElem?_append_right (by rw [q34]; exact Nat.le_refl _), q34, Nat.sub_self]
   rfl
  ·rw [List.getElem?_append_left (by rw [q34]; omega), ← List.getD_eq_getElem?_getD]
   exact q8F w i j (by omega)
theorem z03 (w : List C) (i j k : Nat) (hj : i < j) (hk : i < k) : (J4 w j).getD i 0 = (J4 w k).getD i 0 := by
 rw [q8F w i j hj, q8F w i k hk]
theorem y59 (a b c d : C) (ha : F6 a) (hb : F6 b) (hc : F6 c) (hd : F6 d) : ((q5M [a, b, c, d]).toNat : Int) = ((a.toInt * 256 + b.toInt) * 256 + c.toInt) * 256 + d.toInt := by
 have key : ∀ (x : W32) (y : C) (m : Nat), F6 y → x.toNat < m → m ≤ 16777216 → ((x <<< 8 ||| BitVec.ofInt 32 y.toInt).toNat : Int) = (x.toNat : Int) * 256 + y.toInt := by
  intro x y m hy hx hm
  obtain ⟨_, h1, h2⟩ := hy
  obtain ⟨n, hn⟩ := Int.eq_ofNat_of_zero_le h1
  rw [hn] at h2 ⊢
  have e1 : (BitVec.ofInt 32 (n : Int)).toNat = n := by rw [BitVec.ofInt_natCast, BitVec.toNat_ofNat]; omega
  rw [BitVec.toNat_or, BitVec.toNat_shiftLeft, Nat.shiftLeft_eq, e1]
  rw [show (2 : Nat) ^ 8 = 256 from rfl, show (2 : Nat) ^ 32 = 4294967296 from rfl, Nat.mod_eq_of_lt (by omega)]
  have := Nat.two_pow_add_eq_or_of_lt (b := n) (i := 8) (by omega) x.toNat
  rw [Nat.mul_comm, show (256 : Nat) = 2 ^ 8 from rfl, ← this]
  omega
 have e0 := key 0 a 1 ha (by decide) (by decide)
 have z0 : ((0 : W32).toNat : Int) = 0 := rfl
 rw [z0] at e0
 have b0 := ha.2; have b1 := hb.2; have b2 := hc.2; have b3 := hd.2
 have e1 := key ((0 : W32) <<< 8 ||| BitVec.ofInt 32 a.toInt) b 256 hb (by omega) (by decide)
 have e2 := key (((0 : W32) <<< 8 ||| BitVec.ofInt 32 a.toInt) <<< 8 ||| BitVec.ofInt 32 b.toInt) c 65536 hc (by omega) (by decide)
 have e3 := key ((((0 : W32) <<< 8 ||| BitVec.ofInt 32 a.toInt) <<< 8 ||| BitVec.ofInt 32 b.toInt) <<< 8 ||| BitVec.ofInt 32 c.toInt) d 16777216 hd (by omega) (by decide)
 show ((((((0 : W32) <<< 8 ||| BitVec.ofInt 32 a.toInt) <<< 8 ||| BitVec.ofInt 32 b.toInt) <<< 8 ||| BitVec.ofInt 32 c.toInt) <<< 8 ||| BitVec.ofInt 32 d.toInt).toNat : Int) = _
 omega
theorem x1K {b : List C} {i : Nat} (h : 4 * i + 4 ≤ b.length) : (b.drop (4 * i)).take 4 = [b.getD (4 * i) .nil, b.getD (4 * i + 1) .nil, b.getD (4 * i + 2) .nil, b.getD (4 * i + 3) .nil] := by
 apply List.ext_getElem?
 intro j
 rw [List.getElem?_take]
 split
 ·rename_i hj
  rw [List.getElem?_drop]
  have hl : 4 * i + j < b.length := by omega
  rw [List.getElem?_eq_getElem hl]
  match j, hj with
  | 0, _ => simp [List.getD_eq_getElem?_getD, List.getElem?_eq_getElem (show 4 * i < b.length by omega)]
  | 1, _ => simp [List.getD_eq_getElem?_getD, List.getElem?_eq_getElem (show 4 * i + 1 < b.length by omega)]
  | 2, _ => simp [List.getD_eq_getElem?_getD, List.getElem?_eq_getElem (show 4 * i + 2 < b.length by omega)]
  | 3, _ => simp [List.getD_eq_getElem?_getD, List.getElem?_eq_getElem (show 4 * i + 3 < b.length by omega)]
 ·rename_i hj
  rw [List.getElem?_eq_none (by simp; omega)]
theorem x11 (a b c d : Int) (ha : 0 ≤ a ∧ a < 256) (hb : 0 ≤ b ∧ b < 256) (hc : 0 ≤ c ∧ c < 256) (hd : 0 ≤ d ∧ d < 256) :
  IntKind.u64.wrap (IntKind.u64.wrap (IntKind.u64.wrap (IntKind.u64.wrap (IntKind.u64.wrap (IntKind.u64.wrap (IntKind.u64.wrap a * 256) + IntKind.u64.wrap b) * 256) + IntKind.u64.wrap c) * 256) + IntKind.u64.wrap d) = ((a * 256 + b) * 256 + c) * 256 + d := by
 simp only [q2r]; omega
theorem y6u (a x b y : W32) : Int.tmod (IntKind.u64.wrap (IntKind.u64.wrap (IntKind.u64.wrap ((a.toNat : Int) + (x.toNat : Int)) + (b.toNat : Int)) + (y.toNat : Int))) 4294967296 = ((a + (x + b + y)).toNat : Int) := by
 have h1 := q0d a; have h2 := q0d x; have h3 := q0d b; have h4 := q0d y
 simp only [q2r]
 rw [Int.tmod_eq_emod_of_nonneg (by omega)]
 simp only [BitVec.toNat_add]
 omega
theorem x16 (t : C) (h b : List C) (hb : b.length = 64) (hbb : ∀ c ∈ b, F6 c) (hN : 1000 < N) (K : KD R) :
  k9 N (F2 N K) [.slice h, .slice b, t, .slice [], .int 0] [] = K [.slice h, t, .slice ((J4 b 64).map wI)] [] := by
 refine U9 (F := F2 N K) (fun i => [.slice h, .slice b, t, .slice ((J4 b i).map wI), .int i]) (fun _ => []) 64 _ ?_ ?_ (N := N) (by omega)
 ·intro i hi rec
  have e1 : (i : Int) < 64 := by omega
  have g1 : (i + 1) * 8 ≤ 140737488355328 ∧ i + 1 ≤ 9223372036854775807 := by omega
  have hl : ((J4 b i).map wI).length = i := by rw [List.length_map, q34]
  by_cases z : (i : Int) < 16
  ·have zn : i < 16 := by omega
   have p0 : IntKind.i64.wrap (4 * (i : Int)) = ((4 * i : Nat) : Int) := by rw [wrap_i64 (by omega) (by omega)]; omega
   have p1 : IntKind.i64.wrap (((4 * i : Nat) : Int) + 1) = ((4 * i + 1 : Nat) : Int) := by rw [wrap_i64 (by omega) (by omega)]; omega
   have p2 : IntKind.i64.wrap (((4 * i : Nat) : Int) + 2) = ((4 * i + 2 : Nat) : Int) := by rw [wrap_i64 (by omega) (by omega)]; omega
   have p3 : IntKind.i64.wrap (((4 * i : Nat) : Int) + 3) = ((4 * i + 3 : Nat) : Int) := by rw [wrap_i64 (by omega) (by omega)]; omega
   have c0 : ((4 * i : Nat) : Int) < ((64 : Nat) : Int) := by omega
   have c1 : ((4 * i + 1 : Nat) : Int) < ((64 : Nat) : Int) := by omega
   have c2 : ((4 * i + 2 : Nat) : Int) < ((64 : Nat) : Int) := by omega
   have c3 : ((4 * i + 3 : Nat) : Int) < ((64 : Nat) : Int) := by omega
   have y0 := hbb _ (q0U (show 4 * i < b.length by omega))
   have y1 := hbb _ (q0U (show 4 * i + 1 < b.length by omega))
   have y2 := hbb _ (q0U (show 4 * i + 2 < b.length by omega))
   have y3 := hbb _ (q0U (show 4 * i + 3 < b.length by omega))
   have hs : (J4 b (i + 1)).map wI = (J4 b i).map wI ++ [.int ((((b.getD (4 * i) .nil).toInt * 256 + (b.getD (4 * i + 1) .nil).toInt) * 256 + (b.getD (4 * i + 2) .nil).toInt) * 256 + (b.getD (4 * i + 3) .nil).toInt)] := by
    simp only [J4, z7s, if_pos zn, List.map_append, List.map_cons, List.map_nil, wI]
    rw [x1K (by omega), y59 _ _ _ _ y0 y1 y2 y3]
   have hv := x11 _ _ _ _ y0.2 y1.2 y2.2 y3.2
   unfold F2
   simp only [u9, w6, u0, o8, j9, Y3, w7, w5, e1, z, p0, p1, p2, p3, hb, c0, c1, c2, c3, hl, g1, decide_true, cond_true, Int.natCast_nonneg, and_self, if_true, Nat.beq_refl, Int.toNat_natCast, List.length_append, List.length_cons, List.length_nil, Nat.zero_add, c9 (show i < 4611686018427387904 by omega)]
   rw [hv, ← hs]
  ·have zn : ¬ i < 16 := by omega
   have p15 : IntKind.i64.wrap ((i : Int) - 15) = ((i - 15 : Nat) : Int) := by rw [wrap_i64 (by omega) (by omega)]; omega
   have p2 : IntKind.i64.wrap ((i : Int) - 2) = ((i - 2 : Nat) : Int) := by rw [wrap_i64 (by omega) (by omega)]; omega
   have p16 : IntKind.i64.wrap ((i : Int) - 16) = ((i - 16 : Nat) : Int) := by rw [wrap_i64 (by omega) (by omega)]; omega
   have p7 : IntKind.i64.wrap ((i : Int) - 7) = ((i - 7 : Nat) : Int) := by rw [wrap_i64 (by omega) (by omega)]; omega
   have c15 : ((i - 15 : Nat) : Int) < (i : Int) := by omega
   have c2 : ((i - 2 : Nat) : Int) < (i : Int) := by omega
   have c16 : ((i - 16 : Nat) : Int) < (i : Int) := by omega
   have c7 : ((i - 7 : Nat) : Int) < (i : Int) := by omega
   have gw : ∀ j, j < i → (List.map wI (J4 b i)).getD j .nil = wI ((J4 b i).getD j 0) := fun j hj => by
    rw [List.getD_eq_getElem?_getD, List.getElem?_map, List.getD_eq_getElem?_getD, List.getElem?_eq_getElem (by rw [q34]; exact hj)]; rfl
   have g15 := gw (i - 15) (by omega)
   have g2 := gw (i - 2) (by omega)
   have g16 := gw (i - 16) (by omega)
   have g7 := gw (i - 7) (by omega)
   have r1 : ∀ (x : W32) (k : KD R), o7 N (wI x) (.int 7) (.bool true) k = k [wI (q3N x 7)] [] := fun x k => q1y x 7 (by omega) (by omega) true (by omega) k
   have r2 : ∀ (x : W32) (k : KD R), o7 N (wI x) (.int 18) (.bool true) k = k [wI (q3N x 18)] [] := fun x k => q1y x 18 (by omega) (by omega) true (by omega) k
   have r3 : ∀ (x : W32) (k : KD R), o7 N (wI x) (.int 3) (.bool false) k = k [wI (x >>> 3)] [] := fun x k => q1y x 3 (by omega) (by omega) false (by omega) k
   have r4 : ∀ (x : W32) (k : KD R), o7 N (wI x) (.int 17) (.bool true) k = k [wI (q3N x 17)] [] := fun x k => q1y x 17 (by omega) (by omega) true (by omega) k
   have r5 : ∀ (x : W32) (k : KD R), o7 N (wI x) (.int 19) (.bool true) k = k [wI (q3N x 19)] [] := fun x k => q1y x 19 (by omega) (by omega) true (by omega) k
   have r6 : ∀ (x : W32) (k : KD R), o7 N (wI x) (.int 10) (.bool false) k = k [wI (x >>> 10)] [] := fun x k => q1y x 10 (by omega) (by omega) false (by omega) k
   have hs : (J4 b (i + 1)).map wI = (J4 b i).map wI ++ [wI ((J4 b i).getD (i - 16) 0 + (sg0 ((J4 b i).getD (i - 15) 0) + (J4 b i).getD (i - 7) 0 + sg1 ((J4 b i).getD (i - 2) 0)))] := by
    simp only [J4, z7s, if_neg zn, List.map_append, List.map_cons, List.map_nil]
   unfold F2
   simp only [u9, w6, u0, o8, j9, Y3, w7, w5, e1, z, p15, p2, p16, p7, c15, c2, c16, c7, hl, g1, g15, g2, g16, g7, r1, r2, r3, r4, r5, r6, q2s, x64, decide_true, decide_false, cond_true, cond_false, Int.natCast_nonneg, and_self, if_true, Nat.beq_refl, Int.toNat_natCast, List.length_append, List.length_cons, List.length_nil, Nat.zero_add, c9 (show i < 4611686018427387904 by omega)]
   rw [y6u, hs]
   rfl
 ·intro rec
  unfold F2
  have e : ¬ ((64 : Nat) : Int) < 64 := by decide
  simp only [w6, u0, o8, j9, Y3, w7, w5, e, decide_false, cond_false, Nat.beq_refl, cond_true]
end Go.Proofs.Yteaddgnjddjllaa
namespace Go.Proofs.Yteaddgnjddjllaa
open Go Go.E
set_option maxRecDepth 100000
set_option maxHeartbeats 4000000
set_option linter.unusedSimpArgs false
variable {R : Type} {N : Nat}
theorem y5a (w : List C) : ∀ i j, i ≤ 16 → j < i → (nG w i).getD j 0 = q5M ((w.drop (4 * j)).take 4)
 | 0, j, _, h => by omega
 | i + 1, j, hi, h => by
  show ((nG w i).set i _).getD j 0 = _
  rw [q4q (by rw [q8Q]; omega)]
  by_cases e : i = j
  ·subst e; rw [if_pos rfl]
  ·rw [if_neg e]; exact y5a w i j (by omega) (by omega)
theorem y2S (w : List C) (h : List W32) (hh : h.length = 8) : ∀ i, i ≤ 64 → ∀ j, (j < i ∨ j < 16) → i ≤ j + 16 → (Y1 (nG w 16) h i).1.getD (j % 16) 0 = (J4 w 64).getD j 0
 | 0, _, j, hj, _ => by
  have hj : j < 16 := by omega
  show (nG w 16).getD (j % 16) 0 = _
  rw [Nat.mod_eq_of_lt hj, y5a w 16 j (by omega) hj, q8F w j 64 (by omega), z7s, if_pos hj]
 | i + 1, hi, j, hj, hij => by
  have ih := y2S w h hh i (by omega)
  have hl := (q4w (q8Q w 16) hh i).1
  show (q3X i (Y1 (nG w 16) h i).1).getD (j % 16) 0 = _
  unfold q3X
  by_cases z : 16 ≤ i
  ·rw [if_pos z, q4q (by omega)]
   by_cases e : i % 16 = j % 16
   ·have e' : j = i := by omega
    subst e'
    rw [if_pos rfl]
    have i0 := ih (j - 16) (by omega) (by omega)
    have i1 := ih (j - 15) (by omega) (by omega)
    have i7 := ih (j - 7) (by omega) (by omega)
    have i2 := ih (j - 2) (by omega) (by omega)
    rw [show (j - 16) % 16 = j % 16 by omega] at i0
    rw [show (j - 15) % 16 = (j + 1) % 16 by omega] at i1
    rw [show (j - 7) % 16 = (j + 9) % 16 by omega] at i7
    rw [show (j - 2) % 16 = (j + 14) % 16 by omega] at i2
    rw [i0, i1, i7, i2, q8F w j 64 (by omega), z7s, if_neg (by omega), z03 w (j - 16) j 64 (by omega) (by omega), z03 w (j - 15) j 64 (by omega) (by omega), z03 w (j - 7) j 64 (by omega) (by omega), z03 w (j - 2) j 64 (by omega) (by omega)]
   ·rw [if_neg e]
    exact ih j (by omega) (by omega)
  ·rw [if_neg z]
   exact ih j (by omega) (by omega)
def y1Y (i : Nat) (v s : List W32) : Prop := v.length = 8 ∧ ∀ k, k < 8 → v.getD ((64 - i + k) % 8) 0 = s.getD k 0
theorem y8Z (h s e f g K w : W32) : IntKind.u64.wrap (IntKind.u64.wrap (IntKind.u64.wrap (IntKind.u64.wrap ((h.toNat : Int) + (s.toNat : Int)) + IntKind.u64.wrap (((e &&& f).toNat : Int) + ((~~~e &&& g).toNat : Int))) + (K.toNat : Int)) + (w.toNat : Int)) = (h.toNat : Int) + s.toNat + (e &&& f).toNat + (~~~e &&& g).toNat + K.toNat + w.toNat := by
 have h1 := q0d h; have h2 := q0d s; have h3 := q0d (e &&& f); have h4 := q0d (~~~e &&& g); have h5 := q0d K; have h6 := q0d w
 simp only [q2r]; omega
theorem y77 (h s e f g K w : W32) : ((h.toNat : Int) + s.toNat + (e &&& f).toNat + (~~~e &&& g).toNat + K.toNat + w.toNat) % 4294967296 = ((h + s + (g ^^^ (e &&& (f ^^^ g))) + K + w).toNat : Int) := by
 rw [← x0I]; simp only [BitVec.toNat_add]; omega
theorem y84 (d h s e f g K w : W32) : Int.tmod (IntKind.u64.wrap ((d.toNat : Int) + ((h.toNat : Int) + s.toNat + (e &&& f).toNat + (~~~e &&& g).toNat + K.toNat + w.toNat))) 4294967296 = ((d + (h + s + (g ^^^ (e &&& (f ^^^ g))) + K + w)).toNat : Int) := by
 have h0 := q0d d; have h1 := q0d h; have h2 := q0d s; have h3 := q0d (e &&& f); have h4 := q0d (~~~e &&& g); have h5 := q0d K; have h6 := q0d w
 have ho := y77 h s e f g K w
 refine y3T (by omega) (by omega) ?_
 rw [BitVec.toNat_add]; omega
theorem y63 (z m h s e f g K w : W32) : Int.tmod (IntKind.u64.wrap (IntKind.u64.wrap (((h.toNat : Int) + s.toNat + (e &&& f).toNat + (~~~e &&& g).toNat + K.toNat + w.toNat) + (z.toNat : Int)) + (m.toNat : Int))) 4294967296 = ((h + s + (g ^^^ (e &&& (f ^^^ g))) + K + w + z + m).toNat : Int) := by
 have h0 := q0d z; have h1 := q0d h; have h2 := q0d s; have h3 := q0d (e &&& f); have h4 := q0d (~~~e &&& g); have h5 := q0d K; have h6 := q0d w; have h7 := q0d m
 have ho := y77 h s e f g K w
 have e1 : IntKind.u64.wrap (((h.toNat : Int) + s.toNat + (e &&& f).toNat + (~~~e &&& g).toNat + K.toNat + w.toNat) + (z.toNat : Int)) = ((h.toNat : Int) + s.toNat + (e &&& f).toNat + (~~~e &&& g).toNat + K.toNat + w.toNat) + (z.toNat : Int) := by simp only [q2r]; omega
 rw [e1]
 refine y3T (by omega) (by omega) ?_
 simp only [BitVec.toNat_add] at ho ⊢; omega
theorem y9a (t : C) (ht : q6p t) (hC : C) (b : List C) (vW : List W32) (i : Nat) (hi : i < 64) (hv : vW.length = 8) (hN : 1000 < N) (K rec : KD R) :
  F3 N K rec [hC, t, .int 8, .slice ((J4 b 64).map wI), .int i, .agg (vW.map wI)] [] =
   rec [hC, t, .int 8, .slice ((J4 b 64).map wI), .int ((i + 1 : Nat) : Int), .agg (((vW.set ((67 - i) % 8) (vW.getD ((67 - i) % 8) 0 + (vW.getD ((71 - i) % 8) 0 + bs1 (vW.getD ((68 - i) % 8) 0) + (vW.getD ((70 - i) % 8) 0 ^^^ (vW.getD ((68 - i) % 8) 0 &&& (vW.getD ((69 - i) % 8) 0 ^^^ vW.getD ((70 - i) % 8) 0))) + ksW.getD i 0 + (J4 b 64).getD i 0))).set ((71 - i) % 8)
    (vW.getD ((71 - i) % 8) 0 + bs1 (vW.getD ((68 - i) % 8) 0) + (vW.getD ((70 - i) % 8) 0 ^^^ (vW.getD ((68 - i) % 8) 0 &&& (vW.getD ((69 - i) % 8) 0 ^^^ vW.getD ((70 - i) % 8) 0))) + ksW.getD i 0 + (J4 b 64).getD i 0 + bs0 (vW.getD ((64 - i) % 8) 0) + ((vW.getD ((64 - i) % 8) 0 &&& vW.getD ((65 - i) % 8) 0) ||| (vW.getD ((66 - i) % 8) 0 &&& (vW.getD ((64 - i) % 8) 0 ||| vW.getD ((65 - i) % 8) 0))))).map wI)] [] := by
 have e1 : (i : Int) < 64 := by omega
 have e8 : Int.toNat 8 = 8 := rfl
 have q64 : IntKind.i64.wrap (64 - (i : Int)) = ((64 - i : Nat) : Int) := by rw [wrap_i64 (by omega) (by omega)]; omega
 have q65 : IntKind.i64.wrap (65 - (i : Int)) = ((65 - i : Nat) : Int) := by rw [wrap_i64 (by omega) (by omega)]; omega
 have q66 : IntKind.i64.wrap (66 - (i : Int)) = ((66 - i : Nat) : Int) := by rw [wrap_i64 (by omega) (by omega)]; omega
 have q67 : IntKind.i64.wrap (67 - (i : Int)) = ((67 - i : Nat) : Int) := by rw [wrap_i64 (by omega) (by omega)]; omega
 have q68 : IntKind.i64.wrap (68 - (i : Int)) = ((68 - i : Nat) : Int) := by rw [wrap_i64 (by omega) (by omega)]; omega
 have q69 : IntKind.i64.wrap (69 - (i : Int)) = ((69 - i : Nat) : Int) := by rw [wrap_i64 (by omega) (by omega)]; omega
 have q70 : IntKind.i64.wrap (70 - (i : Int)) = ((70 - i : Nat) : Int) := by rw [wrap_i64 (by omega) (by omega)]; omega
 have q71 : IntKind.i64.wrap (71 - (i : Int)) = ((71 - i : Nat) : Int) := by rw [wrap_i64 (by omega) (by omega)]; omega
 have c8 : ∀ a : Nat, Int.tmod (a : Int) 8 = ((a % 8 : Nat) : Int) := fun a => z97 a 8
 have r8 : ∀ a : Nat, ((a % 8 : Nat) : Int) < ((8 : Nat) : Int) := fun a => by omega
 have gv : ∀ a : Nat, C.get (.agg (vW.map wI)) (a % 8) = wI (vW.getD (a % 8) 0) := fun a => q4G (by omega)
 have gs : ∀ (x : W32) (m a : Nat), C.get (.agg ((vW.set m x).map wI)) (a % 8) = wI ((vW.set m x).getD (a % 8) 0) := fun x m a => q4G (by rw [List.length_set]; omega)
 have gset : ∀ x : W32, (vW.set ((67 - i) % 8) x).getD ((64 - i) % 8) 0 = vW.getD ((64 - i) % 8) 0 := fun x => by rw [q4q (by omega), if_neg (by omega)]
 have hw : (List.map wI (J4 b 64)).length = 64 := by rw [List.length_map, q34]
 have gw : (List.map wI (J4 b 64)).getD i .nil = wI ((J4 b 64).getD i 0) := by
  rw [List.getD_eq_getElem?_getD, List.getElem?_map, List.getD_eq_getElem?_getD, List.getElem?_eq_getElem (by rw [q34]; exact hi)]; rfl
 have r1 : ∀ (x : W32) (k : KD R), o7 N (wI x) (.int 6) (.bool true) k = k [wI (q3N x 6)] [] := fun x k => q1y x 6 (by omega) (by omega) true (by omega) k
 have r2 : ∀ (x : W32) (k : KD R), o7 N (wI x) (.int 11) (.bool true) k = k [wI (q3N x 11)] [] := fun x k => q1y x 11 (by omega) (by omega) true (by omega) k
 have r3 : ∀ (x : W32) (k : KD R), o7 N (wI x) (.int 25) (.bool true) k = k [wI (q3N x 25)] [] := fun x k => q1y x 25 (by omega) (by omega) true (by omega) k
 have r4 : ∀ (x : W32) (k : KD R), o7 N (wI x) (.int 2) (.bool true) k = k [wI (q3N x 2)] [] := fun x k => q1y x 2 (by omega) (by omega) true (by omega) k
 have r5 : ∀ (x : W32) (k : KD R), o7 N (wI x) (.int 13) (.bool true) k = k [wI (q3N x 13)] [] := fun x k => q1y x 13 (by omega) (by omega) true (by omega) k
 have r6 : ∀ (x : W32) (k : KD R), o7 N (wI x) (.int 22) (.bool true) k = k [wI (q3N x 22)] [] := fun x k => q1y x 22 (by omega) (by omega) true (by omega) k
 have rt : ∀ k : KD R, q1M N (t.get 1) (.int i) k = k [wI (ksW.getD i 0)] [] := fun k => by rw [y8l _ i (by rw [ht.l1]; omega) (by omega) (by omega), ht.w1 i hi]; rfl
 unfold F3
 simp only [w6, u0, o8, j9, Y3, q07, w7, w5, q1T, e1, e8, q64, q65, q66, q67, q68, q69, q70, q71, c8, r8, gv, hw, gw, r1, r2, r3, r4, r5, r6, rt, q2s, x64, a64, x13, y8Z, y84, y6D, gs, gset, x0O, y63, decide_true, cond_true, Int.natCast_nonneg, and_self, if_true, Nat.beq_refl, Nat.zero_add, Int.toNat_natCast, List.length_set, List.length_map, c9 (show i < 4611686018427387904 by omega)]
 refine (if_pos ⟨trivial, by omega⟩).trans ?_
 rfl
theorem y8U (w : List C) (h : List W32) (hh : h.length = 8) (i : Nat) (hi : i < 64) (v : List W32) (hv : y1Y i v (Y1 (nG w 16) h i).2) :
  y1Y (i + 1) ((v.set ((67 - i) % 8) (v.getD ((67 - i) % 8) 0 + (v.getD ((71 - i) % 8) 0 + bs1 (v.getD ((68 - i) % 8) 0) + (v.getD ((70 - i) % 8) 0 ^^^ (v.getD ((68 - i) % 8) 0 &&& (v.getD ((69 - i) % 8) 0 ^^^ v.getD ((70 - i) % 8) 0))) + ksW.getD i 0 + (J4 w 64).getD i 0))).set ((71 - i) % 8)
    (v.getD ((71 - i) % 8) 0 + bs1 (v.getD ((68 - i) % 8) 0) + (v.getD ((70 - i) % 8) 0 ^^^ (v.getD ((68 - i) % 8) 0 &&& (v.getD ((69 - i) % 8) 0 ^^^ v.getD ((70 - i) % 8) 0))) + ksW.getD i 0 + (J4 w 64).getD i 0 + bs0 (v.getD ((64 - i) % 8) 0) + ((v.getD ((64 - i) % 8) 0 &&& v.getD ((65 - i) % 8) 0) ||| (v.getD ((66 - i) % 8) 0 &&& (v.getD ((64 - i) % 8) 0 ||| v.getD ((65 - i) % 8) 0)))))
   (Y1 (nG w 16) h (i + 1)).2 := by
 obtain ⟨hl, hp⟩ := hv
 have p0 := hp 0 (by omega)
 have p1 := hp 1 (by omega)
 have p2 := hp 2 (by omega)
 have p3 := hp 3 (by omega)
 have p4 := hp 4 (by omega)
 have p5 := hp 5 (by omega)
 have p6 := hp 6 (by omega)
 have p7 := hp 7 (by omega)
 rw [show 64 - i + 0 = 64 - i by omega] at p0
 rw [show 64 - i + 1 = 65 - i by omega] at p1
 rw [show 64 - i + 2 = 66 - i by omega] at p2
 rw [show 64 - i + 3 = 67 - i by omega] at p3
 rw [show 64 - i + 4 = 68 - i by omega] at p4
 rw [show 64 - i + 5 = 69 - i by omega] at p5
 rw [show 64 - i + 6 = 70 - i by omega] at p6
 rw [show 64 - i + 7 = 71 - i by omega] at p7
 have hn : (q3X i (Y1 (nG w 16) h i).1).getD (i % 16) 0 = (J4 w 64).getD i 0 := y2S w h hh (i + 1) (by omega) i (by omega) (by omega)
 have hs : (Y1 (nG w 16) h (i + 1)).2 = [z5K i (q3X i (Y1 (nG w 16) h i).1) (Y1 (nG w 16) h i).2 + bs0 ((Y1 (nG w 16) h i).2.getD 0 0) + (((Y1 (nG w 16) h i).2.getD 0 0 &&& (Y1 (nG w 16) h i).2.getD 1 0) ||| ((Y1 (nG w 16) h i).2.getD 2 0 &&& ((Y1 (nG w 16) h i).2.getD 0 0 ||| (Y1 (nG w 16) h i).2.getD 1 0))), (Y1 (nG w 16) h i).2.getD 0 0, (Y1 (nG w 16) h i).2.getD 1 0, (Y1 (nG w 16) h i).2.getD 2 0, (Y1 (nG w 16) h i).2.getD 3 0 + z5K i (q3X i (Y1 (nG w 16) h i).1) (Y1 (nG w 16) h i).2, (Y1 (nG w 16) h i).2.getD 4 0, (Y1 (nG w 16) h i).2.getD 5 0, (Y1 (nG w 16) h i).2.getD 6 0] := rfl
 have ha : z5K i (q3X i (Y1 (nG w 16) h i).1) (Y1 (nG w 16) h i).2 = v.getD ((71 - i) % 8) 0 + bs1 (v.getD ((68 - i) % 8) 0) + (v.getD ((70 - i) % 8) 0 ^^^ (v.getD ((68 - i) % 8) 0 &&& (v.getD ((69 - i) % 8) 0 ^^^ v.getD ((70 - i) % 8) 0))) + ksW.getD i 0 + (J4 w 64).getD i 0 := by
  unfold z5K; rw [hn, p4, p5, p6, p7]
 rw [hs, ha, ← p0, ← p1, ← p2, ← p3, ← p4, ← p5, ← p6]
 refine ⟨by rw [List.length_set, List.length_set]; exact hl, fun k hk => ?_⟩
 generalize v.getD ((71 - i) % 8) 0 + bs1 (v.getD ((68 - i) % 8) 0) + (v.getD ((70 - i) % 8) 0 ^^^ (v.getD ((68 - i) % 8) 0 &&& (v.getD ((69 - i) % 8) 0 ^^^ v.getD ((70 - i) % 8) 0))) + ksW.getD i 0 + (J4 w 64).getD i 0 = one
 rw [q4q (by rw [List.length_set]; omega), q4q (by omega)]
 match k, hk with
 | 0, _ => rw [if_pos (by omega)]; rfl
 | 1, _ => rw [if_neg (by omega), if_neg (by omega), show (64 - (i + 1) + 1) % 8 = (64 - i) % 8 by omega]; rfl
 | 2, _ => rw [if_neg (by omega), if_neg (by omega), show (64 - (i + 1) + 2) % 8 = (65 - i) % 8 by omega]; rfl
 | 3, _ => rw [if_neg (by omega), if_neg (by omega), show (64 - (i + 1) + 3) % 8 = (66 - i) % 8 by omega]; rfl
 | 4, _ => rw [if_neg (by omega), if_pos (by omega)]; rfl
 | 5, _ => rw [if_neg (by omega), if_neg (by omega), show (64 - (i + 1) + 5) % 8 = (68 - i) % 8 by omega]; rfl
 | 6, _ => rw [if_neg (by omega), if_neg (by omega), show (64 - (i + 1) + 6) % 8 = (69 - i) % 8 by omega]; rfl
 | 7, _ => rw [if_neg (by omega), if_neg (by omega), show (64 - (i + 1) + 7) % 8 = (70 - i) % 8 by omega]; rfl
theorem z8v {F : KD R → List C → List Es → Option R} (n : Nat) (inv : Nat → List C → Prop) (r : Option R)
  (step : ∀ i st, i < n → inv i st → ∃ st', inv (i + 1) st' ∧ ∀ rec : KD R, F rec st [] = rec st' [])
  (stop : ∀ st, inv n st → ∀ rec : KD R, F rec st [] = r) : ∀ (m i N : Nat) (st : List C), i + m = n → m < N → inv i st → k9 N F st [] = r
 | 0, i, N, st, hi, hN, h => by
  obtain ⟨N, rfl⟩ : ∃ a, N = a + 1 := ⟨N - 1, by omega⟩
  have e : i = n := by omega
  subst e
  rw [j6]; exact stop st h _
 | m + 1, i, N, st, hi, hN, h => by
  obtain ⟨N, rfl⟩ : ∃ a, N = a + 1 := ⟨N - 1, by omega⟩
  obtain ⟨st', h1, h2⟩ := step i st (by omega) h
  rw [j6, h2]
  exact z8v n inv r step stop m (i + 1) N st' (by omega) (by omega) h1
theorem y8b {l : List W32} (h : l.length = 8) : l = [l.getD 0 0, l.getD 1 0, l.getD 2 0, l.getD 3 0, l.getD 4 0, l.getD 5 0, l.getD 6 0, l.getD 7 0] := by
 match l, h with
 | [_, _, _, _, _, _, _, _], _ => rfl
theorem x17 (t : C) (ht : q6p t) (hC : C) (b : List C) (h : List W32) (hh : h.length = 8) (hN : 1000 < N) (K : KD R) :
  k9 N (F3 N K) [hC, t, .int 8, .slice ((J4 b 64).map wI), .int (0 : Nat), .agg (h.map wI)] [] = K [hC, .int 8, .agg ((Y1 (nG b 16) h 64).2.map wI)] [] := by
 refine z8v (F := F3 N K) 64 (fun i st => ∃ v, y1Y i v (Y1 (nG b 16) h i).2 ∧ st = [hC, t, .int 8, .slice ((J4 b 64).map wI), .int i, .agg (v.map wI)]) _ ?_ ?_ 64 0 N _ (by omega) (by omega) ⟨h, ⟨hh, fun k hk => ?_⟩, rfl⟩
 ·rintro i st hi ⟨v, hv, rfl⟩
  exact ⟨_, ⟨_, y8U b h hh i hi v hv, rfl⟩, fun rec => y9a t ht hC b v i hi hv.1 hN K rec⟩
 ·rintro st ⟨v, hv, rfl⟩ rec
  have e : v = (Y1 (nG b 16) h 64).2 := by
   have hl := (q4w (q8Q b 16) hh 64).2
   rw [y8b hv.1, y8b hl]
   have hp := hv.2
   have p0 := hp 0 (by omega)
   have p1 := hp 1 (by omega)
   have p2 := hp 2 (by omega)
   have p3 := hp 3 (by omega)
   have p4 := hp 4 (by omega)
   have p5 := hp 5 (by omega)
   have p6 := hp 6 (by omega)
   have p7 := hp 7 (by omega)
   simp only [Nat.sub_self, Nat.zero_add, Nat.zero_mod, Nat.reduceMod] at p0 p1 p2 p3 p4 p5 p6 p7
   rw [p0, p1, p2, p3, p4, p5, p6, p7]
  unfold F3
  have e64 : ¬ ((64 : Nat) : Int) < 64 := by decide
  simp only [w6, u0, o8, j9, Y3, q07, w7, w5, e64, decide_false, cond_false, if_true, e]
  rfl
 ·have : (64 - 0 + k) % 8 = k := by omega
  rw [this]; rfl
theorem x18 (h s : List W32) (hh : h.length = 8) (hs : s.length = 8) (hN : 1000 < N) (K : KD R) :
  k9 N (q0w N K) [.slice (h.map wI), .int 8, .int (0 : Nat), .int (0 : Nat), .agg (s.map wI), .agg []] [] = K [.int 8, .agg ((aG h s 8).map wI)] [] := by
 have key := U9 (F := q0w N K) (fun i => [.slice (h.map wI), .int 8, .int (i : Nat), .int (i : Nat), .agg (s.map wI), .agg (((aG h s 8).take i).map wI)]) (fun _ => []) 8 (K [.int 8, .agg ((aG h s 8).map wI)] []) ?_ ?_ (N := N) (by omega)
 ·exact key
 ·intro i hi rec
  have e1 : (i : Int) < 8 := by omega
  have e8 : Int.toNat 8 = 8 := rfl
  have e2 : (i : Int) < ((8 : Nat) : Int) := by omega
  have g1 : (i + 1) * 8 ≤ 140737488355328 ∧ i + 1 ≤ 9223372036854775807 := by omega
  have hl8 : (aG h s 8).length = 8 := by rw [q9k]; exact hh
  have hlt : (List.map wI ((aG h s 8).take i)).length = i := by rw [List.length_map, List.length_take, hl8]; omega
  have htk : List.take i (List.map wI ((aG h s 8).take i)) = List.map wI ((aG h s 8).take i) := List.take_of_length_le (by rw [hlt]; exact Nat.le_refl _)
  have hgh : (h.map wI).getD i .nil = wI (h.getD i 0) := by
   rw [List.getD_eq_getElem?_getD, List.getElem?_map, List.getD_eq_getElem?_getD, List.getElem?_eq_getElem (by omega)]; rfl
  have hgs : C.get (.agg (s.map wI)) i = wI (s.getD i 0) := q4G (by omega)
  have hlm : (h.map wI).length = 8 := by rw [List.length_map]; exact hh
  have hag : ∀ j m, j < m → m ≤ 8 → (aG h s m).getD j 0 = h.getD j 0 + s.getD j 0 := by
   intro j m hj hm
   induction m with
   | zero => omega
   | succ m ih =>
    show ((aG h s m).set m _).getD j 0 = _
    rw [q4q (by rw [q9k]; omega)]
    by_cases e : m = j
    ·subst e; rw [if_pos rfl]
    ·rw [if_neg e]; exact ih (by omega) (by omega)
  have hsum : Int.tmod (IntKind.u64.wrap (((h.getD i 0).toNat : Int) + ((s.getD i 0).toNat : Int))) 4294967296 = ((h.getD i 0 + s.getD i 0).toNat : Int) := by
   have h1 := q0d (h.getD i 0); have h2 := q0d (s.getD i 0)
   refine y3T (by omega) (by omega) ?_
   rw [BitVec.toNat_add]; omega
  have ht : List.map wI ((aG h s 8).take (i + 1)) = List.map wI ((aG h s 8).take i) ++ [wI (h.getD i 0 + s.getD i 0)] := by
   rw [List.take_add_one, List.getElem?_eq_getElem (by omega), List.map_append]
   have := hag i 8 hi (by omega)
   rw [List.getD_eq_getElem?_getD, List.getElem?_eq_getElem (by omega)] at this
   simp only [Option.getD_some] at this
   rw [this]; rfl
  unfold q0w
  simp only [w6, u0, o8, j9, Y3, q07, w7, w5, q1T, e1, e2, e8, hlm, g1, hlt, htk, hgh, hgs, hsum, q2s, decide_true, cond_true, Int.natCast_nonneg, and_self, if_true, Nat.zero_add, Int.toNat_natCast, List.length_append, List.length_cons, List.length_nil, c9 (show i < 4611686018427387904 by omega)]
  rw [ht]
  rfl
 ·intro rec
  unfold q0w
  have e : ¬ ((8 : Nat) : Int) < 8 := by decide
  have hl8 : (aG h s 8).length = 8 := by rw [q9k]; exact hh
  simp only [w6, u0, o8, j9, Y3, q07, w7, w5, e, decide_false, cond_false, if_true, List.take_of_length_le (Nat.le_of_eq hl8)]
  rfl
theorem y7K (t : C) (ht : q6p t) (h : List W32) (b : List C) (hh : h.length = 8) (hb : b.length = 64) (hbb : ∀ c ∈ b, F6 c) (hN : 1000 < N) (k : KD R) : J5 N t (.slice (h.map wI)) (.slice b) k = k [.int 8, .agg ((q7l h b).map wI)] [] := by
 have hlm : (h.map wI).length = 8 := by rw [List.length_map]; exact hh
 have ne : (h.map wI).isEmpty = false := by cases h with | nil => simp at hh | cons => rfl
 rw [q5t]
 unfold q1q
 simp only [u9]
 refine (x16 t (h.map wI) b hb hbb hN _).trans ?_
 simp only [w6, u0, o8, w5, q1T, ne, hlm, Nat.beq_refl, cond_true, if_true]
 refine (x17 t ht _ b h hh hN _).trans ?_
 simp only [w6, u0, o8, w7, if_true]
 refine (x18 h _ hh (q4w (q8Q b 16) hh 64).2 hN _).trans ?_
 simp only [w6, u0, o8, w7, if_true]
 rfl
end Go.Proofs.Yteaddgnjddjllaa
namespace Go.Proofs.Yteaddgnjddjllaa
open Go Go.E
set_option maxRecDepth 100000
set_option maxHeartbeats 4000000
set_option linter.unusedSimpArgs false
variable {R : Type} {N : Nat}
def feed (p : List W32 × List C) (b : C) : List W32 × List C :=
 if p.2.length = 63 then (q7l p.1 (p.2 ++ [b]), []) else (p.1, p.2 ++ [b])
theorem y1p : ∀ (x : List C) (h : List W32) (q : List C), q.length + x.length < 64 → x.foldl feed (h, q) = (h, q ++ x)
 | [], h, q, _ => by simp
 | b :: x, h, q, hl => by
  have hl' : q.length + (x.length + 1) < 64 := by simpa using hl
  have e : feed (h, q) b = (h, q ++ [b]) := by unfold feed; rw [if_neg (by show ¬ q.length = 63; omega)]
  rw [List.foldl_cons, e, y1p x h (q ++ [b]) (by simp; omega)]
  simp
theorem z3y : ∀ (x : List C) (h : List W32) (q : List C), q.length + x.length = 64 → q.length < 64 → x.foldl feed (h, q) = (q7l h (q ++ x), [])
 | [], h, q, hl, hq => by simp at hl; omega
 | b :: x, h, q, hl, hq => by
  have hl' : q.length + (x.length + 1) = 64 := by simpa using hl
  by_cases e63 : q.length = 63
  ·have hx : x = [] := List.eq_nil_of_length_eq_zero (by omega)
   subst hx
   simp only [List.foldl_cons, List.foldl_nil, feed]
   rw [if_pos e63]
  ·have e : feed (h, q) b = (h, q ++ [b]) := by unfold feed; rw [if_neg (by show ¬ q.length = 63; exact e63)]
   rw [List.foldl_cons, e, z3y x h (q ++ [b]) (by simp; omega) (by simp; omega)]
   simp
structure q4K (m : C) (h : List W32) (q : List C) (n : Int) : Prop where
 ex : ∃ w : List C, m = .agg [.agg (h.map wI), .agg w, .int n] ∧ w.length = 64 ∧ w.take q.length = q ∧ ∀ c ∈ w, F6 c
 hl : h.length = 8
 nn : W64 n
 ql : n % 64 = (q.length : Int)
theorem y1o {h : List W32} (hh : h.length = 8) : ∀ (x : List C) (q : List C), (x.foldl feed (h, q)).1.length = 8 := by
 have key : ∀ (x : List C) (p : List W32 × List C), p.1.length = 8 → (x.foldl feed p).1.length = 8 := by
  intro x
  induction x with
  | nil => intro p hp; exact hp
  | cons b x ih =>
   intro p hp
   rw [List.foldl_cons]
   refine ih _ ?_
   unfold feed
   split
   ·exact z3H hp _
   ·exact hp
 exact fun x q => key x (h, q) hh
theorem put_eq (l : List C) (m : C) (h : List W32) (q : List C) (n : Int) (hm : q4K m h q n) (hb : ∀ c ∈ l, F6 c) (hN : l.length + 100 < N) :
  ∃ m' n', q4K m' (l.foldl feed (h, q)).1 (l.foldl feed (h, q)).2 n' ∧ n' = (n + l.length) % 18446744073709551616 ∧ ∀ k : KD R, H7 N (.slice l) m k = k [m'] [] := by
 obtain ⟨d, ⟨m', h1, rfl⟩, h2⟩ := q9E (R := R) (F := fun k2 => J7 N k2)
  (fun j st => ∃ (x : List C) (m : C) (h' : List W32) (q' : List C) (n' : Int), st = [.slice x, m] ∧ q4K m h' q' n' ∧ x.length ≤ j ∧ (∀ c ∈ x, F6 c) ∧ x.foldl feed (h', q') = l.foldl feed (h, q) ∧ (n' + x.length) % 18446744073709551616 = (n + l.length) % 18446744073709551616)
  (fun d => ∃ m', q4K m' (l.foldl feed (h, q)).1 (l.foldl feed (h, q)).2 ((n + l.length) % 18446744073709551616) ∧ d = [m'])
  (fun j st hst => by
   obtain ⟨x, m, h', q', n', rfl, ⟨⟨w, rfl, hw, hwq, hwb⟩, hh, hn, hq⟩, hx, hbx, hf, hne⟩ := hst
   have hq64 : q'.length < 64 := by have := hn.1; omega
   by_cases e : 0 < (x.length : Int)
   ·left
    have r : Int.tmod n' 64 = (q'.length : Int) := by rw [Int.tmod_eq_emod_of_nonneg hn.1]; exact hq
    obtain ⟨p, hp⟩ : ∃ p, min x.length (64 - q'.length) = p := ⟨_, rfl⟩
    have tq : (64 - (q'.length : Int)).toNat = 64 - q'.length := by omega
    have cw : (F5 w q'.length (64 - q'.length) x).length = 64 := by rw [q6j (by omega)]; exact hw
    have c1 : 0 < 64 - q'.length := by omega
    have c2 : 0 ≤ (p : Int) ∧ (p : Int) ≤ (x.length : Int) ∧ (x.length : Int) ≤ (x.length : Int) := by omega
    have c3 : 0 ≤ (q'.length : Int) ∧ (q'.length : Int) ≤ 64 ∧ Int.ofNat 64 ≤ 64 := ⟨by omega, by omega, by decide⟩
    have wp : IntKind.u64.wrap (p : Int) = (p : Int) := wrap_u64 (by omega) (by omega)
    have wn : IntKind.u64.wrap (n' + (p : Int)) = (n' + p) % 18446744073709551616 := by simp [IntKind.wrap, IntKind.bits, IntKind.signed]
    have hxs : x = x.take p ++ x.drop p := (List.take_append_drop p x).symm
    have cutx : cut x (p : Int) (x.length : Int) = x.drop p := by simp [cut]
    have tk : (x.take (64 - q'.length)) = x.take p := by
     rcases Nat.le_total x.length (64 - q'.length) with h1 | h1
     ·rw [List.take_of_length_le h1, List.take_of_length_le (by omega)]
     ·rw [show p = 64 - q'.length by omega]
    have cpy : F5 w q'.length (64 - q'.length) x = (q' ++ x.take p) ++ w.drop (q'.length + p) := by
     unfold F5
     rw [hwq, tk, show min x.length (64 - q'.length) = p from hp]
    have cb : ∀ c ∈ F5 w q'.length (64 - q'.length) x, F6 c := by
     rw [cpy]
     intro c hc
     rcases List.mem_append.1 hc with hc | hc
     ·rcases List.mem_append.1 hc with hc | hc
      ·rw [← hwq] at hc; exact hwb c (List.mem_of_mem_take hc)
      ·exact hbx c (List.mem_of_mem_take hc)
     ·exact hwb c (List.mem_of_mem_drop hc)
    have lp : (x.take p).length = p := by simp; omega
    have ld : (x.drop p).length < j + 0 ∨ (x.drop p).length < x.length := .inr (by simp; omega)
    have e2 : Int.tmod ((n' + (p : Int)) % 18446744073709551616) 64 = (n' + p) % 64 := by
     rw [Int.tmod_eq_emod_of_nonneg (by omega)]; omega
    by_cases z : (n' + (p : Int)) % 64 = 0
    ·have hfull : q'.length + p = 64 := by omega
     have hcw : F5 w q'.length (64 - q'.length) x = q' ++ x.take p := by
      rw [cpy, List.drop_of_length_le (by omega)]; simp
     refine ⟨_, (x.drop p).length, by simp; omega, ⟨x.drop p, _, q7l h' (q' ++ x.take p), [], (n' + p) % 18446744073709551616, rfl, ⟨⟨q' ++ x.take p, rfl, by simp; omega, by simp, by rw [← hcw]; exact cb⟩, z3H hh _, ⟨by omega, by omega⟩, by simp; omega⟩, Nat.le_refl _, fun c hc => hbx c (List.mem_of_mem_drop hc), ?_, by simp; omega⟩, fun k rec => ?_⟩
     ·rw [← hf, hxs, List.foldl_append, List.take_append_drop, z3y _ _ _ (by omega) hq64]
     ·unfold J7
      simp only [u9, w6, u0, w7, w5, q1T, q2A, q5F, q5E, q33, q7u, q7t, e, r, tq, Int.toNat_natCast, hp, c1, c2, c3, wp, wn, e2, z, cutx, hcw, decide_true, cond_true, and_self, if_true, y7b h' hh (q' ++ x.take p) (by simp; omega) (by rw [← hcw]; exact cb) _ (show 100 < N by omega)]
    ·have hless : q'.length + p < 64 := by omega
     have hpx : p = x.length := by omega
     refine ⟨_, (x.drop p).length, by simp; omega, ⟨x.drop p, _, h', q' ++ x.take p, (n' + p) % 18446744073709551616, rfl, ⟨⟨F5 w q'.length (64 - q'.length) x, rfl, cw, ?_, cb⟩, hh, ⟨by omega, by omega⟩, by simp; omega⟩, Nat.le_refl _, fun c hc => hbx c (List.mem_of_mem_drop hc), ?_, by simp; omega⟩, fun k rec => ?_⟩
     ·rw [cpy, List.take_left]
     ·have e9 : (x.take p).foldl feed (h', q') = (h', q' ++ x.take p) := y1p _ _ _ (by rw [lp]; exact hless)
      rw [← hf, ← e9, ← List.foldl_append, List.take_append_drop]
     ·unfold J7
      simp only [u9, w6, u0, w7, w5, q1T, q2A, q5F, q5E, q33, q7u, q7t, e, r, tq, Int.toNat_natCast, hp, c1, c2, c3, wp, wn, e2, z, cutx, decide_true, decide_false, cond_true, cond_false, and_self, if_true]
   ·right
    have hx0 : x = [] := List.eq_nil_of_length_eq_zero (by omega)
    subst hx0
    have en : n' = (n + l.length) % 18446744073709551616 := by have := hn.1; have := hn.2; simp at hne; omega
    refine ⟨_, ⟨.agg [.agg (h'.map wI), .agg w, .int n'], ?_, rfl⟩, fun k rec => ?_⟩
    ·rw [← hf, ← en]
     exact ⟨⟨w, rfl, hw, hwq, hwb⟩, hh, hn, hq⟩
    ·unfold J7
     simp only [w6, u0, w5, e, decide_false, cond_false])
  l.length l.length [.slice l, m] N (Nat.le_refl _) ⟨l, m, h, q, n, rfl, hm, Nat.le_refl _, hb, rfl, rfl⟩ (by omega)
 refine ⟨m', _, h1, rfl, fun k => ?_⟩
 rw [q5k]
 unfold q17
 simp only [u9]
 exact (h2 _).trans rfl
end Go.Proofs.Yteaddgnjddjllaa
namespace Go.Proofs.Yteaddgnjddjllaa
open Go Go.E
set_option maxRecDepth 100000
set_option maxHeartbeats 4000000
set_option linter.unusedSimpArgs false
variable {R : Type} {N : Nat}
theorem z2C {l : List C} {i : Nat} (hi : i < l.length) : l.take (i + 1) = l.take i ++ [l.getD i .nil] := by
 rw [List.take_add_one, List.getElem?_eq_getElem hi, List.getD_eq_getElem?_getD, List.getElem?_eq_getElem hi]; rfl
def q3V (l : List C) : List C := l.flatMap C.elems
def q9l (B : Nat) (l : List C) : Prop := ∀ x ∈ l, x = .slice x.elems ∧ (∀ c ∈ x.elems, F6 c) ∧ x.elems.length ≤ B
theorem z90 (l : List C) (m : C) (h : List W32) (q : List C) (n : Int) (hm : q4K m h q n) (B : Nat) (hb : q9l B l) (hl : l.length < N) (hN : B + 100 < N) (hN2 : N < 4611686018427387904) :
  ∃ m' n', q4K m' ((q3V l).foldl feed (h, q)).1 ((q3V l).foldl feed (h, q)).2 n' ∧ n' = (n + (q3V l).length) % 18446744073709551616 ∧ ∀ k : KD R, H3 N (.slice l) m k = k [m'] [] := by
 obtain ⟨d, ⟨m', h1, rfl⟩, h2⟩ := q2z (R := R) (F := fun k2 => q0a N k2) l.length
  (fun i st => ∃ m : C, q4K m ((q3V (l.take i)).foldl feed (h, q)).1 ((q3V (l.take i)).foldl feed (h, q)).2 ((n + (q3V (l.take i)).length) % 18446744073709551616) ∧ st = [.slice l, .int l.length, .int i, m])
  (fun d => ∃ m', q4K m' ((q3V l).foldl feed (h, q)).1 ((q3V l).foldl feed (h, q)).2 ((n + (q3V l).length) % 18446744073709551616) ∧ d = [m'])
  (fun i st hi hst => by
   obtain ⟨m, hm, rfl⟩ := hst
   have e1 : (i : Int) < (l.length : Int) := by omega
   obtain ⟨y1, y2, y3⟩ := hb _ (q0U hi)
   obtain ⟨m2, n2, h2, hn2, h3⟩ := put_eq (R := R) (N := N) (l.getD i .nil).elems m _ _ _ hm y2 (by omega)
   have ec : q3V (l.take (i + 1)) = q3V (l.take i) ++ (l.getD i .nil).elems := by
    rw [z2C hi]; unfold q3V; rw [List.flatMap_append]; simp
   refine ⟨_, ⟨m2, ?_, rfl⟩, fun k rec => ?_⟩
   ·rw [ec, List.foldl_append]
    have en : n2 = (n + ((q3V (l.take i) ++ (l.getD i .nil).elems).length : Nat)) % 18446744073709551616 := by rw [hn2, List.length_append]; omega
    rw [← en]
    exact h2
   ·unfold q0a
    simp only [w6, u0, o8, j9, w7, w5, e1, decide_true, cond_true, Int.natCast_nonneg, and_self, if_true, Int.toNat_natCast, c9 (show i < 4611686018427387904 by omega)]
    rw [y1, h3]
    simp only [w6])
  (fun st hst => by
   obtain ⟨m, hm, rfl⟩ := hst
   rw [List.take_length] at hm
   refine ⟨_, ⟨m, hm, rfl⟩, fun k rec => ?_⟩
   unfold q0a
   simp only [w6, u0, o8, j9, w7, Int.lt_irrefl, decide_false, cond_false])
  (N := N) (by omega) (st := [.slice l, .int l.length, .int (0 : Nat), m]) ⟨m, by
   have := hm.nn
   have e : (n + ((q3V (l.take 0)).length : Nat)) % 18446744073709551616 = n := by
    have : (q3V (l.take 0)).length = 0 := rfl
    rw [this]; have := hm.nn.1; have := hm.nn.2; omega
   rw [e]; exact hm, rfl⟩
 refine ⟨m', _, h1, rfl, fun k => ?_⟩
 rw [q4i]
 unfold q1k
 simp only [u9, w5]
 exact (h2 _).trans rfl
def b4 (n : Int) : List C := [C.int (IntKind.wrap IntKind.u8 (Int.fdiv n (2 ^ 24))), C.int (IntKind.wrap IntKind.u8 (Int.fdiv n (2 ^ 16))), C.int (IntKind.wrap IntKind.u8 (Int.fdiv n (2 ^ 8))), C.int (IntKind.wrap IntKind.u8 n)]
theorem z7S (n : C) (k : KD R) : q0G N n k = k [.slice (b4 n.toInt)] [] := by
 rw [q8U]
 unfold q20
 rfl
theorem q7T (n : Int) : (b4 n).length = 4 := rfl
theorem y1R (x : Int) : F6 (.int (IntKind.wrap IntKind.u8 x)) := by
 refine ⟨rfl, ?_, ?_⟩
 ·show 0 ≤ IntKind.wrap IntKind.u8 x
  rw [wrap_u8]; omega
 ·show IntKind.wrap IntKind.u8 x < 256
  rw [wrap_u8]; omega
theorem z7g (n : Int) : ∀ c ∈ b4 n, F6 c := by
 intro c hc
 simp only [b4, List.mem_cons, List.not_mem_nil, or_false] at hc
 rcases hc with rfl | rfl | rfl | rfl <;> exact y1R _
def q0g (n : Int) : List C := .int 128 :: List.replicate (63 - ((n + 8) % 64).toNat) (.int 0)
def q0N (n : Int) : List C := b4 (IntKind.u32.wrap (Int.fdiv (n * 8 % 18446744073709551616) (2 ^ 32))) ++ b4 (IntKind.u32.wrap (n * 8 % 18446744073709551616))
theorem q8y (n : Int) : ∀ c ∈ q0g n, F6 c := by
 intro c hc
 rcases List.mem_cons.1 hc with rfl | hc
 ·exact ⟨rfl, by decide, by decide⟩
 ·rw [List.eq_of_mem_replicate hc]; exact ⟨rfl, by decide, by decide⟩
theorem y2T (n : Int) : ∀ c ∈ q0N n, F6 c := by
 intro c hc
 rcases List.mem_append.1 hc with hc | hc
 ·exact z7g _ c hc
 ·exact z7g _ c hc
def z1L (h : List W32) : C := .agg (h.flatMap fun x => b4 x.toNat)
theorem z4n : ∀ (h : List W32), (h.flatMap fun x => b4 x.toNat).length = 4 * h.length
 | [] => rfl
 | x :: h => by rw [List.flatMap_cons, List.length_append, z4n h, q7T, List.length_cons]; omega
theorem y7D (A : List C) (z : C) (n : Nat) (y : List C) (hy : y.length ≤ n) : F5 (A ++ List.replicate n z) A.length n y = A ++ (y ++ List.replicate (n - y.length) z) := by
 unfold F5
 rw [List.take_left, List.take_of_length_le hy, Nat.min_eq_left hy, ← List.drop_drop, List.drop_left, List.drop_replicate, List.append_assoc]
theorem y5B (f : W32 → List C) (H : List W32) (i : Nat) (hi : i < H.length) : (H.take (i + 1)).flatMap f = (H.take i).flatMap f ++ f (H.getD i 0) := by
 have et : H.take (i + 1) = H.take i ++ [H.getD i 0] := by
  rw [List.take_add_one, List.getElem?_eq_getElem hi, List.getD_eq_getElem?_getD, List.getElem?_eq_getElem hi]; rfl
 rw [et, List.flatMap_append]
 simp
def z8a (H : List W32) (i : Nat) : List C := ((H.take i).flatMap fun x => b4 x.toNat) ++ List.replicate (32 - 4 * i) (.int 0)
theorem y5P (H : List W32) (hh : H.length = 8) (i : Nat) (hi : i < 8) : F5 (z8a H i) (4 * i) (32 - 4 * i) (b4 (H.getD i 0).toNat) = z8a H (i + 1) := by
 have la : ((H.take i).flatMap fun x => b4 x.toNat).length = 4 * i := by rw [z4n, List.length_take]; omega
 have key := y7D ((H.take i).flatMap fun x => b4 x.toNat) (.int 0) (32 - 4 * i) (b4 (H.getD i 0).toNat) (by rw [q7T]; omega)
 rw [la, q7T] at key
 unfold z8a
 rw [key, y5B _ H i (by omega), List.append_assoc, show 32 - 4 * i - 4 = 32 - 4 * (i + 1) by omega]
theorem y7z (H : List W32) (hh : H.length = 8) : C.agg (z8a H 8) = z1L H := by
 unfold z8a z1L
 rw [List.take_of_length_le (by omega)]
 simp
theorem x0D (m : C) (h : List W32) (q : List C) (n : Int) (hm : q4K m h q n) (hN : 1000 < N) (k : KD R) :
  q0M N m k = k [z1L ((q0N n).foldl feed ((q0g n).foldl feed (h, q))).1, m] [] := by
 obtain ⟨⟨w, rfl, hw, hwq, hwb⟩, hh, hn, hq⟩ := hm
 have hm : q4K (.agg [.agg (h.map wI), .agg w, .int n]) h q n := ⟨⟨w, rfl, hw, hwq, hwb⟩, hh, hn, hq⟩
 have w8 : IntKind.u64.wrap (n + 8) = (n + 8) % 18446744073709551616 := by simp [IntKind.wrap, IntKind.bits, IntKind.signed]
 have r : Int.tmod ((n + 8) % 18446744073709551616) 64 = (n + 8) % 64 := by rw [Int.tmod_eq_emod_of_nonneg (by omega)]; omega
 have wl : IntKind.u64.wrap (n * 8) = n * 8 % 18446744073709551616 := by simp [IntKind.wrap, IntKind.bits, IntKind.signed]
 obtain ⟨z, hz⟩ : ∃ z : Nat, (n + 8) % 64 = z := ⟨((n + 8) % 64).toNat, by omega⟩
 have hz64 : z < 64 := by omega
 have e1 : IntKind.u64.wrap (64 - (z : Int)) = 64 - z := wrap_u64 (by omega) (by omega)
 have tz : (64 - (z : Int)).toNat = 63 - z + 1 := by omega
 have ef : List.take (63 - z + 1) (List.drop 0 (List.set (List.replicate (63 - z + 1) (u7 (Ty.int IntKind.u8))) 0 (C.int 128))) = q0g n := by
  rw [List.drop_zero, List.replicate_succ]
  show List.take (63 - z + 1) (C.int 128 :: List.replicate (63 - z) (u7 (Ty.int IntKind.u8))) = _
  rw [List.take_of_length_le (by simp)]
  unfold q0g
  rw [hz]
  rfl
 obtain ⟨m1, n1, hm1, _, h1⟩ := put_eq (R := R) (N := N) (q0g n) _ _ _ _ hm (q8y n) (by simp [q0g]; omega)
 obtain ⟨m2, n2, hm2, _, h2⟩ := put_eq (R := R) (N := N) (q0N n) _ _ _ _ hm1 (y2T n) (by simp [q0N, q7T]; omega)
 obtain ⟨⟨w2, rfl, _, _, _⟩, hh2, _, _⟩ := hm2
 generalize hH : ((q0N n).foldl feed ((q0g n).foldl feed (h, q))).1 = H at *
 have z32 : u7 (.arr 32 (.int .u8)) = .agg (List.replicate 32 (.int 0)) := rfl
 have lp : ∀ K : KD R, k9 N (q0b N K) [.agg (H.map wI), .int 0, .agg [.agg (h.map wI), .agg w, .int n], u7 (.arr 32 (.int .u8)), .agg (List.replicate 32 (.int 0))] [] = K [.agg [.agg (h.map wI), .agg w, .int n], u7 (.arr 32 (.int .u8)), z1L H] [] := fun K => by
  have key := U9 (F := q0b N K) (fun i => [.agg (H.map wI), .int i, .agg [.agg (h.map wI), .agg w, .int n], u7 (.arr 32 (.int .u8)), .agg (z8a H i)]) (fun _ => []) 8 (K [.agg [.agg (h.map wI), .agg w, .int n], u7 (.arr 32 (.int .u8)), z1L H] []) ?_ ?_ (N := N) (by omega)
  ·exact key
  ·intro i hi rec
   have e1 : (i : Int) < 8 := by omega
   have e2 : IntKind.i64.wrap (4 * (i : Int)) = ((4 * i : Nat) : Int) := by rw [wrap_i64 (by omega) (by omega)]; omega
   have e3 : (32 - ((4 * i : Nat) : Int)).toNat = 32 - 4 * i := by omega
   have c1 : 0 < 32 - 4 * i := by omega
   have c2 : ((4 * i : Nat) : Int) ≤ 32 ∧ Int.ofNat 32 ≤ 32 := ⟨by omega, by decide⟩
   have gi : C.get (.agg (H.map wI)) i = wI (H.getD i 0) := q4G (by omega)
   have ec := y5P H hh2 i hi
   unfold q0b
   simp only [w6, u0, o8, j9, Y3, w7, w5, q1T, e1, e2, e3, c1, c2, gi, z7S, q2s, ec, decide_true, cond_true, Int.natCast_nonneg, and_self, if_true, Int.toNat_natCast, c9 (show i < 4611686018427387904 by omega)]
  ·intro rec
   have e : ¬ ((8 : Nat) : Int) < 8 := by decide
   unfold q0b
   simp only [w6, u0, o8, j9, Y3, w7, e, decide_false, cond_false, y7z H hh2]
 rw [q5m]
 unfold q18
 simp only [q5E, w7, w8, r, e1, wl, hz, tz, ef]
 refine (if_pos (by omega)).trans ?_
 refine (if_pos ⟨by decide, by omega⟩).trans ?_
 rw [h1]
 have m32 : min (Int.toNat 32) 64 = 32 := rfl
 simp only [w6, z7S, w7, w5, Nat.beq_refl, cond_true, q7T, m32]
 refine (if_pos (by omega)).trans ?_
 have h2' := h2
 unfold q0N at h2'
 rw [h2']
 simp only [u9, w6, q2A, z32]
 exact (lp _).trans rfl
end Go.Proofs.Yteaddgnjddjllaa
namespace Go.Proofs.Yteaddgnjddjllaa
open Go Go.E
set_option maxRecDepth 100000
set_option maxHeartbeats 4000000
set_option linter.unusedSimpArgs false
variable {R : Type} {N : Nat}
def ivW : List W32 := [1779033703, 3144134277, 1013904242, 2773480762, 1359893119, 2600822924, 528734635, 1541459225]
theorem x0N : ∃ m, q4K m ivW [] 0 ∧ ∀ k : KD R, q3h N k = k [m] [] := by
 refine ⟨.agg [.agg (ivW.map wI), .agg (List.replicate 64 (.int 0)), .int 0], ⟨⟨List.replicate 64 (.int 0), rfl, by simp, rfl, fun c hc => ?_⟩, rfl, ⟨by decide, by decide⟩, rfl⟩, fun k => ?_⟩
 ·rw [List.eq_of_mem_replicate hc]; exact ⟨rfl, by decide, by decide⟩
 ·rw [q93]
  unfold q42
  rfl
def q0B (x : C) : List C := b4 (IntKind.u32.wrap (x.elems.length : Int)) ++ x.elems
def q2Z (d : C) (l : List C) : List C := [d, .int (IntKind.u8.wrap (l.length : Int))] ++ l.flatMap q0B
def z2I (p : List C) : C := z1L ((q0N p.length).foldl feed ((q0g p.length).foldl feed (p.foldl feed (ivW, [])))).1
theorem x1m (d : C) (hd : F6 d) (l : List C) (B : Nat) (hb : q9l B l) (hl : l.length + 1000 < N) (hN : B + 1000 < N) (hN2 : N < 4611686018427387904) (hm : (q2Z d l).length < 4611686018427387904) (k : KD R) :
  q3i N d (.slice l) k = k [z2I (q2Z d l)] [] := by
 obtain ⟨m0, hm0, h0⟩ := x0N (R := R) (N := N)
 have p1 : q9l 10 [C.slice [d, C.int (IntKind.u8.wrap (l.length : Int))]] := fun x hx => by
  rw [List.mem_singleton.1 hx]
  refine ⟨rfl, fun c hc => ?_, by simp [w5]⟩
  simp only [w5, List.mem_cons, List.not_mem_nil, or_false] at hc
  rcases hc with rfl | rfl
  ·exact hd
  ·exact y1R _
 obtain ⟨m1, n1, hm1, hn1, h1⟩ := z90 (R := R) (N := N) [C.slice [d, C.int (IntKind.u8.wrap (l.length : Int))]] m0 ivW [] 0 hm0 10 p1 (by simp; omega) (by omega) hN2
 have c1 : q3V [C.slice [d, C.int (IntKind.u8.wrap (l.length : Int))]] = [d, C.int (IntKind.u8.wrap (l.length : Int))] := rfl
 rw [c1] at hm1 hn1
 obtain ⟨dd, ⟨m2, hm2, rfl⟩, h2⟩ := q2z (R := R) (F := fun k2 => q2E N k2) l.length
  (fun i st => ∃ m : C, q4K m (([d, C.int (IntKind.u8.wrap (l.length : Int))] ++ (l.take i).flatMap q0B).foldl feed (ivW, [])).1 (([d, C.int (IntKind.u8.wrap (l.length : Int))] ++ (l.take i).flatMap q0B).foldl feed (ivW, [])).2 ((([d, C.int (IntKind.u8.wrap (l.length : Int))] ++ (l.take i).flatMap q0B).length : Nat) % 18446744073709551616) ∧ st = [.slice l, .int l.length, .int i, u7 (.arr 32 (.int .u8)), m])
  (fun dd => ∃ m', q4K m' ((q2Z d l).foldl feed (ivW, [])).1 ((q2Z d l).foldl feed (ivW, [])).2 (((q2Z d l).length : Nat) % 18446744073709551616) ∧ dd = [u7 (.arr 32 (.int .u8)), m'])
  (fun i st hi hst => by
   obtain ⟨m, hm, rfl⟩ := hst
   have e1 : (i : Int) < (l.length : Int) := by omega
   obtain ⟨y1, y2, y3⟩ := hb _ (q0U hi)
   have pp : q9l (B + 4) [C.slice (b4 (IntKind.u32.wrap ((l.getD i .nil).elems.length : Int))), l.getD i .nil] := fun x hx => by
    simp only [List.mem_cons, List.not_mem_nil, or_false] at hx
    rcases hx with rfl | rfl
    ·exact ⟨rfl, z7g _, by rw [w5, q7T]; omega⟩
    ·exact ⟨y1, y2, by omega⟩
   obtain ⟨m2, n2, h2, hn2, h3⟩ := z90 (R := R) (N := N) _ m _ _ _ hm (B + 4) pp (by simp; omega) (by omega) hN2
   have cc : q3V [C.slice (b4 (IntKind.u32.wrap ((l.getD i .nil).elems.length : Int))), l.getD i .nil] = q0B (l.getD i .nil) := by
    unfold q3V q0B
    rw [List.flatMap_cons, List.flatMap_cons, List.flatMap_nil, List.append_nil, w5]
   have ec : (l.take (i + 1)).flatMap q0B = (l.take i).flatMap q0B ++ q0B (l.getD i .nil) := by
    rw [z2C hi, List.flatMap_append]; simp
   rw [cc] at h2 hn2
   refine ⟨_, ⟨m2, ?_, rfl⟩, fun k rec => ?_⟩
   ·rw [ec, ← List.append_assoc, List.foldl_append]
    have en : n2 = ((([d, C.int (IntKind.u8.wrap (l.length : Int))] ++ (l.take i).flatMap q0B ++ q0B (l.getD i .nil)).length : Nat) : Int) % 18446744073709551616 := by
     rw [hn2]
     generalize [d, C.int (IntKind.u8.wrap (l.length : Int))] ++ (l.take i).flatMap q0B = z
     generalize q0B (l.getD i .nil) = y
     rw [List.length_append]; omega
    rw [← en]
    exact h2
   ·unfold q2E
    simp only [w6, u0, o8, j9, Y3, w7, w5, e1, decide_true, cond_true, Int.natCast_nonneg, and_self, if_true, Int.toNat_natCast, z7S, h3, c9 (show i < 4611686018427387904 by omega)])
  (fun st hst => by
   obtain ⟨m, hm, rfl⟩ := hst
   rw [List.take_length] at hm
   refine ⟨_, ⟨m, hm, rfl⟩, fun k rec => ?_⟩
   unfold q2E
   simp only [w6, u0, o8, j9, Y3, w7, Int.lt_irrefl, decide_false, cond_false])
  (N := N) (by omega) (st := [.slice l, .int l.length, .int (0 : Nat), u7 (.arr 32 (.int .u8)), m1]) ⟨m1, by
   have e : ([d, C.int (IntKind.u8.wrap (l.length : Int))] ++ (l.take 0).flatMap q0B) = [d, C.int (IntKind.u8.wrap (l.length : Int))] := rfl
   rw [e]
   have en : n1 = ((([d, C.int (IntKind.u8.wrap (l.length : Int))]).length : Nat) : Int) % 18446744073709551616 := by rw [hn1]; simp
   rw [← en]
   exact hm1, rfl⟩
 have ln : (((q2Z d l).length : Nat) : Int) % 18446744073709551616 = ((q2Z d l).length : Int) := by omega
 rw [ln] at hm2
 rw [q94]
 unfold q43
 simp only [h0, w6, w5, h1, u9]
 refine (h2 _).trans ?_
 simp only [u0, x0D m2 _ _ _ hm2 (show 1000 < N by omega), w6]
 rfl
end Go.Proofs.Yteaddgnjddjllaa
