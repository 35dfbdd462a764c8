/-
 What the functions on the way compute, part 3.
 Conditions: none.
-/
import Derived.Test.YteaddgnjddjllaaKb
set_option linter.all false
namespace Go.Proofs.Yteaddgnjddjllaa
open Go Go.E
set_option maxRecDepth 100000
set_option maxHeartbeats 4000000
set_option linter.unusedSimpArgs false
variable {R : Type} {N : Nat}
abbrev z32 : C := u7 (.arr 32 (.int .u8))
theorem y7g (l : List C) (i : Nat) : C.get (.agg l) i = l.getD i .nil := rfl
theorem z5d (l : List C) (i : Nat) (x : C) : C.set (.agg l) i x = .agg (l.set i x) := rfl
theorem z6z (i m r : Nat) (hi : i = 4 * m + r) (hr : r < 4) (hm : m < 8) (c h : List C) (hc : c.length = 32) (hh : h.length = 8) (x : Nat) (hx : x < 4294967296) (hg : h.getD m .nil = .int (x : Int)) (K rec : KD R) :
  q1h N K rec [.int 8, .int (i : Int), z32, .agg c, .agg h] [] = rec [.int 8, .int ((i : Int) - 1), z32, .agg (c.set i (.int ((x % 256 : Nat) : Int))), .agg (h.set m (.int ((x / 256 : Nat) : Int)))] [] := by
 have z2 : (i : Int) < 32 := by omega
 have e8 : Int.toNat 8 = 8 := rfl
 have q : Int.tdiv (i : Int) 4 = (m : Int) := by rw [Int.tdiv_eq_ediv_of_nonneg (by omega)]; omega
 have q2 : IntKind.i64.wrap (m : Int) = (m : Int) := wrap_i64 (by omega) (by omega)
 have c1 : (m : Int) < ((8 : Nat) : Int) := by omega
 have w1 : IntKind.i64.wrap ((i : Int) - 1) = (i : Int) - 1 := wrap_i64 (by omega) (by omega)
 have m1 : IntKind.u8.wrap (Int.tmod (x : Int) 256) = ((x % 256 : Nat) : Int) := by
  rw [Int.tmod_eq_emod_of_nonneg (by omega), wrap_u8]; omega
 have m2 : IntKind.u64.wrap (Int.tdiv (x : Int) 256) = ((x / 256 : Nat) : Int) := by
  rw [Int.tdiv_eq_ediv_of_nonneg (by omega), wrap_u64 (by omega) (by omega)]; omega
 unfold q1h
 simp only [w6, u0, o8, j9, Y3, w7, q1T, Int.natCast_nonneg, z2, e8, q, q2, c1, w1, y7g, z5d, Nat.zero_add, Int.toNat_natCast, hg, m1, m2, decide_true, cond_true, and_self, if_true, List.length_set]
 rfl
theorem y8S (A B : List C) (n : Nat) (hA : A.length = n) (a b c d a' b' c' d' : C) : ((((A ++ [a, b, c, d] ++ B).set (n + 3) d').set (n + 2) c').set (n + 1) b').set n a' = A ++ [a', b', c', d'] ++ B := by
 subst hA
 apply List.ext_getElem?
 intro i
 simp only [List.append_assoc]
 by_cases h : i < A.length
 ·simp [List.getElem?_set, List.getElem?_append_left h, show ¬ A.length = i by omega, show ¬ A.length + 1 = i by omega, show ¬ A.length + 2 = i by omega, show ¬ A.length + 3 = i by omega]
 ·obtain ⟨j, rfl⟩ : ∃ j, i = A.length + j := ⟨i - A.length, by omega⟩
  match j with
  | 0 => simp [List.getElem?_set]
  | 1 => simp [List.getElem?_set]
  | 2 => simp [List.getElem?_set]
  | 3 => simp [List.getElem?_set]
  | j + 4 => simp [List.getElem?_set, List.getElem?_append_right]
theorem z7h (x : Nat) (hx : x < 4294967296) : b4 (x : Int) = [.int ((x / 256 / 256 / 256 % 256 : Nat) : Int), .int ((x / 256 / 256 % 256 : Nat) : Int), .int ((x / 256 % 256 : Nat) : Int), .int ((x % 256 : Nat) : Int)] := by
 unfold b4
 simp only [wrap_u8]
 rw [Int.fdiv_eq_ediv_of_nonneg _ (by decide), Int.fdiv_eq_ediv_of_nonneg _ (by decide), Int.fdiv_eq_ediv_of_nonneg _ (by decide)]
 simp only [show (2 : Int) ^ 24 = 16777216 by decide, show (2 : Int) ^ 16 = 65536 by decide, show (2 : Int) ^ 8 = 256 by decide]
 rw [show ((x : Int) / 16777216) % 256 = ((x / 256 / 256 / 256 % 256 : Nat) : Int) by omega, show ((x : Int) / 65536) % 256 = ((x / 256 / 256 % 256 : Nat) : Int) by omega, show ((x : Int) / 256) % 256 = ((x / 256 % 256 : Nat) : Int) by omega, show (x : Int) % 256 = ((x % 256 : Nat) : Int) by omega]
theorem y5h (hW : List W32) (hh8 : hW.length = 8) (K : KD R) : ∀ (m M : Nat) (h : List C), m ≤ 8 → h.length = 8 → (∀ j, j < m → h.getD j .nil = wI (hW.getD j 0)) → 4 * m + 1 < M →
  k9 M (q1h N K) [.int 8, .int (4 * (m : Int) - 1), z32, .agg (List.replicate (4 * m) (.int 0) ++ (hW.drop m).flatMap fun x => b4 x.toNat), .agg h] [] = K [z32, z1L hW] []
 | 0, M, h, _, hl, _, hM => by
  obtain ⟨M, rfl⟩ : ∃ a, M = a + 1 := ⟨M - 1, by omega⟩
  rw [j6]
  unfold q1h
  have e : ¬ (0 : Int) ≤ 4 * ((0 : Nat) : Int) - 1 := by omega
  simp only [w6, u0, o8, j9, Y3, w7, e, decide_false, cond_false]
  rfl
 | m + 1, M, h, hm, hl, hg, hM => by
  obtain ⟨M, rfl⟩ : ∃ a, M = a + 1 + 1 + 1 + 1 := ⟨M - 4, by omega⟩
  have hx := q0d (hW.getD m 0)
  have g := hg m (by omega)
  obtain ⟨x, hxx⟩ : ∃ x, (hW.getD m 0).toNat = x := ⟨_, rfl⟩
  have hr : List.replicate (4 * (m + 1)) (C.int 0) = List.replicate (4 * m) (.int 0) ++ [.int 0, .int 0, .int 0, .int 0] := by
   rw [show 4 * (m + 1) = 4 * m + 4 by omega, ← List.replicate_append_replicate]; rfl
  have hd : (hW.drop m).flatMap (fun x => b4 x.toNat) = b4 (x : Int) ++ (hW.drop (m + 1)).flatMap fun x => b4 x.toNat := by
   rw [List.drop_eq_getElem_cons (by omega), List.flatMap_cons]
   rw [List.getD_eq_getElem?_getD, List.getElem?_eq_getElem (by omega)] at hxx
   simp only [Option.getD_some] at hxx
   rw [hxx]
  rw [hxx] at hx
  have hgx : h.getD m .nil = .int (x : Int) := by rw [g, ← hxx]; rfl
  have lc : (List.replicate (4 * m) (C.int 0) ++ [C.int 0, .int 0, .int 0, .int 0] ++ (hW.drop (m + 1)).flatMap fun x => b4 x.toNat).length = 32 := by
   simp only [List.length_append, List.length_replicate, z4n, List.length_drop, hh8, List.length_cons, List.length_nil]; omega
  have gset : ∀ (l : List C) (v : C), l.length = 8 → (l.set m v).getD m .nil = v := fun l v hl => by rw [List.getD_eq_getElem?_getD, List.getElem?_set_self (by omega)]; rfl
  rw [hr]
  have i3 : (4 * ((m + 1 : Nat) : Int) - 1) = ((4 * m + 3 : Nat) : Int) := by omega
  have i2 : (((4 * m + 3 : Nat) : Int) - 1) = ((4 * m + 2 : Nat) : Int) := by omega
  have i1 : (((4 * m + 2 : Nat) : Int) - 1) = ((4 * m + 1 : Nat) : Int) := by omega
  have i0 : (((4 * m + 1 : Nat) : Int) - 1) = ((4 * m : Nat) : Int) := by omega
  rw [i3, j6, z6z (4 * m + 3) m 3 rfl (by omega) (by omega) _ _ lc hl x hx hgx, i2, j6, z6z (4 * m + 2) m 2 rfl (by omega) (by omega) _ _ (by rw [List.length_set]; exact lc) (by rw [List.length_set]; exact hl) (x / 256) (by omega) (gset _ _ hl), i1,
   j6, z6z (4 * m + 1) m 1 rfl (by omega) (by omega) _ _ (by rw [List.length_set, List.length_set]; exact lc) (by rw [List.length_set, List.length_set]; exact hl) (x / 256 / 256) (by omega) (gset _ _ (by rw [List.length_set]; exact hl)), i0,
   j6, z6z (4 * m) m 0 rfl (by omega) (by omega) _ _ (by rw [List.length_set, List.length_set, List.length_set]; exact lc) (by rw [List.length_set, List.length_set, List.length_set]; exact hl) (x / 256 / 256 / 256) (by omega) (gset _ _ (by rw [List.length_set, List.length_set]; exact hl)),
   y8S _ _ (4 * m) (by simp), List.append_assoc, ← z7h x hx, ← hd]
  have e : (((4 * m : Nat) : Int) - 1) = 4 * (m : Int) - 1 := by omega
  rw [e]
  refine y5h hW hh8 K m M _ (by omega) (by simp only [List.length_set]; exact hl) (fun j hj => ?_) (by omega)
  rw [← hg j (by omega)]
  simp only [List.getD_eq_getElem?_getD, List.getElem?_set_ne (show m ≠ j by omega)]
theorem y5g (t : C) (ht : q6p t) (hN : 1000 < N) (K : KD R) : ∀ (q M : Nat) (b : List C) (h : List W32), b.length = 64 * q → h.length = 8 → (∀ c ∈ b, F6 c) → q < M →
  k9 M (q2x N K) [t, .slice b, .int 8, z32, .agg (h.map wI)] [] = K [.int 8, z32, .agg ((b.foldl feed (h, [])).1.map wI)] []
 | 0, M, b, h, hb, hh, _, hM => by
  obtain ⟨M, rfl⟩ : ∃ a, M = a + 1 := ⟨M - 1, by omega⟩
  have hb0 : b = [] := List.eq_nil_of_length_eq_zero (by omega)
  subst hb0
  rw [j6]
  unfold q2x
  simp only [w6, u0, o8, j9, Y3, w5, w7, List.length_nil, Int.lt_irrefl, decide_false, cond_false, if_true, List.foldl_nil]
  rfl
 | q + 1, M, b, h, hb, hh, hbb, hM => by
  obtain ⟨M, rfl⟩ : ∃ a, M = a + 1 := ⟨M - 1, by omega⟩
  have z' : 0 < (b.length : Int) := by omega
  have c1 : 64 ≤ (b.length : Int) := by omega
  have c2 : Int.ofNat 0 ≤ 0 ∧ Int.ofNat 0 ≤ 64 ∧ 64 ≤ (b.length : Int) := ⟨by decide, by decide, c1⟩
  have c3 : Int.ofNat 0 ≤ 64 ∧ 64 ≤ (b.length : Int) ∧ (b.length : Int) ≤ (b.length : Int) := ⟨by decide, c1, Int.le_refl _⟩
  have e8 : Int.toNat 8 = 8 := rfl
  have th : List.take 8 (List.drop 0 (h.map wI)) = h.map wI := by rw [List.drop_zero]; exact List.take_of_length_le (by rw [List.length_map]; omega)
  have k1 : cut b 0 64 = b.take 64 := by simp [cut]
  have k2 : cut b 64 (b.length : Int) = b.drop 64 := by simp [cut]
  have bl : ∀ k : KD R, J5 N t (.slice (h.map wI)) (.slice (b.take 64)) k = k [.int 8, .agg ((q7l h (b.take 64)).map wI)] [] := fun k =>
   y7K t ht h (b.take 64) hh (by simp; omega) (fun c hc => hbb c (List.mem_of_mem_take hc)) hN k
  have ff : b.foldl feed (h, []) = (b.drop 64).foldl feed (q7l h (b.take 64), []) := by
   conv => lhs; rw [← List.take_append_drop 64 b]
   rw [List.foldl_append, z3y (b.take 64) h [] (by simp; omega) (by simp)]
   rfl
  rw [j6, ff, ← y5g t ht hN K q M (b.drop 64) (q7l h (b.take 64)) (by simp; omega) (z3H hh _) (fun c hc => hbb c (List.mem_of_mem_drop hc)) (by omega)]
  unfold q2x
  simp only [w6, u0, o8, j9, Y3, w5, w7, q1T, z', c2, c3, e8, k1, k2, th, bl, decide_true, cond_true, and_self, if_true, Int.toNat_natCast]
  rfl
def ivL (i : Nat) : List C := ((ivW.take i).map wI) ++ List.replicate (8 - i) (u7 (.int .u64))
theorem y66 : ∀ i, i < 8 → (ivL i).set i (wI (ivW.getD i 0)) = ivL (i + 1)
 | 0, _ => rfl
 | 1, _ => rfl
 | 2, _ => rfl
 | 3, _ => rfl
 | 4, _ => rfl
 | 5, _ => rfl
 | 6, _ => rfl
 | 7, _ => rfl
 | i + 8, h => by omega
theorem x0Z (t : C) (ht : q6p t) (b : List C) (hN : 1000 < N) (K : KD R) :
  k9 N (q1g N K) [t, .slice b, .int 8, .int 0, z32, .agg (List.replicate 8 (u7 (.int .u64)))] [] = K [t, .slice b, .int 8, z32, .agg (ivW.map wI)] [] := by
 have key := U9 (F := q1g N K) (fun i => [t, .slice b, .int 8, .int (i : Nat), z32, .agg (ivL i)]) (fun _ => []) 8 (K [t, .slice b, .int 8, z32, .agg (ivW.map wI)] []) ?_ ?_ (N := N) (by omega)
 ·exact key
 ·intro i hi rec
  have e1 : (i : Int) < 8 := by omega
  have e8 : Int.toNat 8 = 8 := rfl
  have e2 : (i : Int) < ((8 : Nat) : Int) := by omega
  have rt : ∀ k : KD R, q1M N (t.get 0) (.int i) k = k [wI (ivW.getD i 0)] [] := fun k => by rw [y8l _ i (by rw [ht.l0]; omega) (by omega) (by omega), ht.w0 i hi]; rfl
  unfold q1g
  simp only [w6, u0, o8, j9, Y3, q07, w7, w5, q1T, e1, e2, e8, rt, z5d, Nat.zero_add, decide_true, cond_true, Int.natCast_nonneg, and_self, if_true, Int.toNat_natCast, Nat.beq_refl, List.length_set, y66 i hi, c9 (show i < 4611686018427387904 by omega)]
  rfl
 ·intro rec
  have e : ¬ ((8 : Nat) : Int) < 8 := by decide
  unfold q1g
  simp only [w6, u0, o8, j9, Y3, q07, w7, w5, q1T, e, decide_false, cond_false, Nat.beq_refl, cond_true, if_true]
  rfl
end Go.Proofs.Yteaddgnjddjllaa
namespace Go.Proofs.Yteaddgnjddjllaa
open Go Go.E
set_option maxRecDepth 100000
set_option maxHeartbeats 4000000
set_option linter.unusedSimpArgs false
variable {R : Type} {N : Nat}
theorem x0U (t p1 : C) (p : List C) (n : Nat) (hp : p.length = n) (hn : n ≤ 4398046511104) (hN : 1000 < N) (K : KD R) :
  k9 N (q1f N K) [p1, t, .slice (p ++ [.int 128]), z32] [] = K [p1, t, .slice (p ++ q0g n), z32] [] := by
 obtain ⟨m, hm⟩ : ∃ m, 63 - (((n : Int) + 8) % 64).toNat = m := ⟨_, rfl⟩
 have hm2 : m < 64 := by omega
 have key := U9 (F := q1f N K) (fun i => [p1, t, .slice (p ++ .int 128 :: List.replicate i (.int 0)), z32]) (fun _ => []) m (K [p1, t, .slice (p ++ q0g n), z32] []) ?_ ?_ (N := N) (by omega)
 ·exact key
 ·intro i hi rec
  have hl : (p ++ C.int 128 :: List.replicate i (C.int 0)).length = n + 1 + i := by simp [hp]; omega
  have z : ¬ ((n + 1 + i : Nat) : Int).tmod 64 = 56 := by rw [Int.tmod_eq_emod_of_nonneg (by omega)]; omega
  have g1 : (n + 1 + i + 1) * 1 ≤ 140737488355328 ∧ n + 1 + i + 1 ≤ 9223372036854775807 := by omega
  have e : (p ++ C.int 128 :: List.replicate i (C.int 0)) ++ [C.int 0] = p ++ C.int 128 :: List.replicate (i + 1) (C.int 0) := by
   rw [List.replicate_succ', List.append_assoc]; rfl
  have hl2 : (p ++ C.int 128 :: List.replicate (i + 1) (C.int 0)).length = n + 1 + i + 1 := by simp [hp]; omega
  unfold q1f
  simp only [w6, u0, o8, j9, w5, hl, z, g1, e, hl2, decide_false, Bool.not_false, cond_true, Nat.beq_refl, and_self, if_true]
 ·intro rec
  have hl : (p ++ C.int 128 :: List.replicate m (C.int 0)).length = n + 1 + m := by simp [hp]; omega
  have z : ((n + 1 + m : Nat) : Int).tmod 64 = 56 := by rw [Int.tmod_eq_emod_of_nonneg (by omega)]; omega
  have e : q0g n = C.int 128 :: List.replicate m (C.int 0) := by unfold q0g; rw [hm]
  rw [e]
  unfold q1f
  simp only [w6, u0, o8, j9, w5, hl, z, decide_true, Bool.not_true, cond_false, cond_true, Nat.beq_refl]
theorem x0W (t : C) (b e : List C) (x : Nat) (hx : x < 18446744073709551616) (i : Nat) (hi : i < 8) (K rec : KD R) :
  q0x N K rec [t, .int 0, .int 8, .int 8, .slice b, .int (x : Int), .int (i : Int), z32, .agg e] [] = rec [t, .int 0, .int 8, .int 8, .slice b, .int ((x / 256 : Nat) : Int), .int ((i : Int) - 1), z32, .agg (e.set i (.int ((x % 256 : Nat) : Int)))] [] := by
 have c1 : (i : Int) < ((8 : Nat) : Int) := by omega
 have e8 : Int.toNat 8 = 8 := rfl
 have w1 : IntKind.i64.wrap ((i : Int) - 1) = (i : Int) - 1 := wrap_i64 (by omega) (by omega)
 have m1 : IntKind.u8.wrap (Int.tmod (x : Int) 256) = ((x % 256 : Nat) : Int) := by
  rw [Int.tmod_eq_emod_of_nonneg (by omega), wrap_u8]; omega
 have m2 : IntKind.u64.wrap (Int.tdiv (x : Int) 256) = ((x / 256 : Nat) : Int) := by
  rw [Int.tdiv_eq_ediv_of_nonneg (by omega), wrap_u64 (by omega) (by omega)]; omega
 have t0 : Int.toNat 0 = 0 := rfl
 unfold q0x
 simp only [w6, u0, o8, j9, Y3, q07, q24, q79, z5H, w5, w7, c1, e8, t0, w1, m1, m2, z5d, Nat.zero_add, Int.natCast_nonneg, decide_true, cond_true, Nat.beq_refl, and_self, if_true, Int.toNat_natCast]
 rfl
theorem y01 (n : Nat) (hn : n ≤ 4398046511104) : q0N n = [.int ((n * 8 / 256 / 256 / 256 / 256 / 256 / 256 / 256 % 256 : Nat) : Int), .int ((n * 8 / 256 / 256 / 256 / 256 / 256 / 256 % 256 : Nat) : Int), .int ((n * 8 / 256 / 256 / 256 / 256 / 256 % 256 : Nat) : Int), .int ((n * 8 / 256 / 256 / 256 / 256 % 256 : Nat) : Int), .int ((n * 8 / 256 / 256 / 256 % 256 : Nat) : Int), .int ((n * 8 / 256 / 256 % 256 : Nat) : Int), .int ((n * 8 / 256 % 256 : Nat) : Int), .int ((n * 8 % 256 : Nat) : Int)] := by
 unfold q0N
 have e1 : IntKind.u32.wrap (Int.fdiv ((n : Int) * 8 % 18446744073709551616) (2 ^ 32)) = ((n * 8 / 4294967296 : Nat) : Int) := by
  rw [Int.fdiv_eq_ediv_of_nonneg _ (by decide), wrap_u32, show (2 : Int) ^ 32 = 4294967296 by decide]; omega
 have e2 : IntKind.u32.wrap ((n : Int) * 8 % 18446744073709551616) = ((n * 8 % 4294967296 : Nat) : Int) := by
  rw [wrap_u32]; omega
 rw [e1, e2, z7h _ (by omega), z7h _ (by omega)]
 obtain ⟨y, hy⟩ : ∃ y, n * 8 = y := ⟨_, rfl⟩
 rw [hy]
 have f1 : y / 4294967296 = y / 256 / 256 / 256 / 256 := by omega
 have f2 : y % 4294967296 % 256 = y % 256 := by omega
 have f3 : y % 4294967296 / 256 % 256 = y / 256 % 256 := by omega
 have f4 : y % 4294967296 / 256 / 256 % 256 = y / 256 / 256 % 256 := by omega
 have f5 : y % 4294967296 / 256 / 256 / 256 % 256 = y / 256 / 256 / 256 % 256 := by omega
 rw [f1, f2, f3, f4, f5]
 rfl
theorem x0X (t : C) (b : List C) (n : Nat) (hn : n ≤ 4398046511104) (hN : 1000 < N) (K : KD R) :
  k9 N (q0x N K) [t, .int 0, .int 8, .int 8, .slice b, .int ((n * 8 : Nat) : Int), .int 7, z32, .agg (List.replicate 8 (u7 (.int .u8)))] [] = K [t, .int 0, .int 8, .int 8, .slice b, z32, .agg (q0N n)] [] := by
 obtain ⟨M, hM⟩ : ∃ M, N = M + 1 + 1 + 1 + 1 + 1 + 1 + 1 + 1 + 1 := ⟨N - 9, by omega⟩
 obtain ⟨F, hF⟩ : ∃ F, q0x N K = F := ⟨_, rfl⟩
 have one : ∀ (e : List C) (x : Nat) (_ : x < 18446744073709551616) (i : Nat) (_ : i < 8) (rec : KD R), F rec [t, .int 0, .int 8, .int 8, .slice b, .int (x : Int), .int (i : Int), z32, .agg e] [] = rec [t, .int 0, .int 8, .int 8, .slice b, .int ((x / 256 : Nat) : Int), .int ((i : Int) - 1), z32, .agg (e.set i (.int ((x % 256 : Nat) : Int)))] [] := fun e x hx i hi rec => by rw [← hF]; exact x0W t b e x hx i hi K rec
 have stop : ∀ (e : List C) (x : Int) (rec : KD R), F rec [t, .int 0, .int 8, .int 8, .slice b, .int x, .int (-1), z32, .agg e] [] = K [t, .int 0, .int 8, .int 8, .slice b, z32, .agg e] [] := fun e x rec => by
  rw [← hF]
  have e0 : ¬ (0 : Int) ≤ -1 := by decide
  have e8 : Int.toNat 8 = 8 := rfl
  have t0 : Int.toNat 0 = 0 := rfl
  unfold q0x
  simp only [w6, u0, o8, j9, Y3, q07, q24, q79, z5H, w5, w7, e0, e8, t0, decide_false, cond_false, cond_true, Nat.beq_refl]
  rfl
 rw [hF, hM, y01 n hn]
 have s7 : (7 : Int) = ((7 : Nat) : Int) := rfl
 have s6 : ((7 : Nat) : Int) - 1 = ((6 : Nat) : Int) := rfl
 have s5 : ((6 : Nat) : Int) - 1 = ((5 : Nat) : Int) := rfl
 have s4 : ((5 : Nat) : Int) - 1 = ((4 : Nat) : Int) := rfl
 have s3 : ((4 : Nat) : Int) - 1 = ((3 : Nat) : Int) := rfl
 have s2 : ((3 : Nat) : Int) - 1 = ((2 : Nat) : Int) := rfl
 have s1 : ((2 : Nat) : Int) - 1 = ((1 : Nat) : Int) := rfl
 have s0 : ((1 : Nat) : Int) - 1 = ((0 : Nat) : Int) := rfl
 have sm : ((0 : Nat) : Int) - 1 = -1 := rfl
 obtain ⟨y, hy⟩ : ∃ y, n * 8 = y := ⟨_, rfl⟩
 rw [hy, s7, j6, one _ y (by omega) 7 (by omega), s6, j6, one _ (y / 256) (by omega) 6 (by omega), s5, j6, one _ (y / 256 / 256) (by omega) 5 (by omega), s4, j6, one _ (y / 256 / 256 / 256) (by omega) 4 (by omega), s3, j6, one _ (y / 256 / 256 / 256 / 256) (by omega) 3 (by omega), s2, j6, one _ (y / 256 / 256 / 256 / 256 / 256) (by omega) 2 (by omega), s1, j6, one _ (y / 256 / 256 / 256 / 256 / 256 / 256) (by omega) 1 (by omega), s0, j6, one _ (y / 256 / 256 / 256 / 256 / 256 / 256 / 256) (by omega) 0 (by omega), sm, j6, stop]
 rfl
theorem x2k (t : C) (ht : q6p t) (p : List C) (hb : ∀ c ∈ p, F6 c) (hp : p.length ≤ 4398046511104) (hN : p.length + 1000 < N) (k : KD R) : q0Y N t (.slice p) k = k [z2I p] [] := by
 obtain ⟨n, hn⟩ : ∃ n, p.length = n := ⟨_, rfl⟩
 have lf : (q0g n).length = 1 + (63 - (((n : Int) + 8) % 64).toNat) := by simp [q0g]; omega
 have ll : (q0N n).length = 8 := by rw [y01 n (by omega)]; rfl
 obtain ⟨q, hq⟩ : ∃ q, (p ++ q0g n ++ q0N n).length = 64 * q := ⟨(p ++ q0g n ++ q0N n).length / 64, by simp only [List.length_append, lf, ll, hn]; omega⟩
 have hq2 : q < N := by simp only [List.length_append, lf, ll, hn] at hq; omega
 have hbb : ∀ c ∈ p ++ q0g n ++ q0N n, F6 c := fun c hc => by
  rcases List.mem_append.1 hc with hc | hc
  ·rcases List.mem_append.1 hc with hc | hc
   ·exact hb c hc
   ·exact q8y _ c hc
  ·exact y2T _ c hc
 have hH : ((p ++ q0g n ++ q0N n).foldl feed (ivW, [])).1.length = 8 := y1o rfl _ _
 have hsha : z2I p = z1L ((p ++ q0g n ++ q0N n).foldl feed (ivW, [])).1 := by unfold z2I; rw [hn, List.foldl_append, List.foldl_append]
 have w8 : IntKind.u64.wrap (IntKind.u64.wrap (n : Int) * 8) = ((n * 8 : Nat) : Int) := by simp only [q2r]; omega
 have g1 : (n + 1) * 1 ≤ 140737488355328 ∧ n + 1 ≤ 9223372036854775807 := by omega
 have g2 : ((p ++ q0g n).length + 8) * 1 ≤ 140737488355328 ∧ (p ++ q0g n).length + 8 ≤ 9223372036854775807 := by simp only [List.length_append, lf, hn]; omega
 have te : List.take 8 (List.drop 0 (q0N n)) = q0N n := by rw [List.drop_zero]; exact List.take_of_length_le (by omega)
 have e8 : Int.toNat 8 = 8 := rfl
 have t0 : Int.toNat 0 = 0 := rfl
 rw [q7B]
 unfold q2w
 simp only [u9, w5, hn, Nat.beq_refl, cond_true, g1, and_self, if_true, List.length_append, List.length_cons, List.length_nil, Nat.zero_add]
 refine (x0U t (.slice p) p n hn (by omega) (by omega) _).trans ?_
 simp only [w6, u0, o8, j9, w5, Nat.beq_refl, cond_true, e8, hn, w8]
 refine (x0X t (p ++ q0g n) n (by omega) (by omega) _).trans ?_
 simp only [w6, u0, o8, j9, Y3, q07, q24, w5, q1T, w7, e8, t0, te, ll]
 rw [if_pos g2]
 refine (x0Z t ht _ (by omega) _).trans ?_
 simp only [w6, u0, o8, j9, Y3, q07, w5, q1T, w7, e8, if_true]
 refine (y5g t ht (by omega) _ q N (p ++ q0g n ++ q0N n) ivW hq rfl hbb hq2).trans ?_
 simp only [w6, u0, o8, q1T, w7, e8, if_true]
 rw [hsha]
 have key := y5h (N := N) _ hH (fun d5 m5 => k [dk d5 1] []) 8 N (((p ++ q0g n ++ q0N n).foldl feed (ivW, [])).1.map wI) (by omega) (by rw [List.length_map]; exact hH) (fun j hj => by
  rw [List.getD_eq_getElem?_getD, List.getElem?_map, List.getD_eq_getElem?_getD, List.getElem?_eq_getElem (by omega)]; rfl) (by omega)
 have e0 : (List.replicate (4 * 8) (C.int 0) ++ (((p ++ q0g n ++ q0N n).foldl feed (ivW, [])).1.drop 8).flatMap fun x => b4 x.toNat) = List.replicate 32 (.int 0) := by
  rw [List.drop_of_length_le (by omega)]; rfl
 rw [e0] at key
 exact key
end Go.Proofs.Yteaddgnjddjllaa
namespace Go.Proofs.Yteaddgnjddjllaa
open Go Go.E
set_option maxRecDepth 100000
set_option maxHeartbeats 4000000
set_option linter.unusedVariables false
noncomputable def z9h : Hints := [([9], ⟨[], [(0, .as (.ptr (.l 0) [] o6))], [], [(.l 0, .box (.d o6))], [], []⟩)]
noncomputable def z14 (N : Nat) : OvS (X0 gl0) where
 g R := []
 ok := fun R => fun _ h => nomatch h
noncomputable def q5b {R : Type} (N : Nat) (k1 : KD R) : Option R := (k1 [C.set (C.set (C.agg [C.str [], C.str []]) 0 (C.str [UInt8.ofNat 54, UInt8.ofNat 97, UInt8.ofNat 48, UInt8.ofNat 57, UInt8.ofNat 101, UInt8.ofNat 54, UInt8.ofNat 54, UInt8.ofNat 55, UInt8.ofNat 98, UInt8.ofNat 98, UInt8.ofNat 54, UInt8.ofNat 55, UInt8.ofNat 97, UInt8.ofNat 101, UInt8.ofNat 56, UInt8.ofNat 53, UInt8.ofNat 51, UInt8.ofNat 99, UInt8.ofNat 54, UInt8.ofNat 101, UInt8.ofNat 102, UInt8.ofNat 51, UInt8.ofNat 55, UInt8.ofNat 50, UInt8.ofNat 97, UInt8.ofNat 53, UInt8.ofNat 52, UInt8.ofNat 102, UInt8.ofNat 102, UInt8.ofNat 53, UInt8.ofNat 51, UInt8.ofNat 97, UInt8.ofNat 53, UInt8.ofNat 49, UInt8.ofNat 48, UInt8.ofNat 101, UInt8.ofNat 53, UInt8.ofNat 50, UInt8.ofNat 55, UInt8.ofNat 102, UInt8.ofNat 57, UInt8.ofNat 98, UInt8.ofNat 48, UInt8.ofNat 53, UInt8.ofNat 54, UInt8.ofNat 56, UInt8.ofNat 56, UInt8.ofNat 99, UInt8.ofNat 49, UInt8.ofNat 102, UInt8.ofNat 56, UInt8.ofNat 51, UInt8.ofNat 100, UInt8.ofNat 57, UInt8.ofNat 97, UInt8.ofNat 98, UInt8.ofNat 53, UInt8.ofNat 98, UInt8.ofNat 101, UInt8.ofNat 48, UInt8.ofNat 99, UInt8.ofNat 100, UInt8.ofNat 49, UInt8.ofNat 57])) 1 (C.str [UInt8.ofNat 52, UInt8.ofNat 50, UInt8.ofNat 56, UInt8.ofNat 97, UInt8.ofNat 50, UInt8.ofNat 102, UInt8.ofNat 57, UInt8.ofNat 56, UInt8.ofNat 55, UInt8.ofNat 49, UInt8.ofNat 51, UInt8.ofNat 55, UInt8.ofNat 52, UInt8.ofNat 52, UInt8.ofNat 57, UInt8.ofNat 49, UInt8.ofNat 98, UInt8.ofNat 53, UInt8.ofNat 99, UInt8.ofNat 48, UInt8.ofNat 102, UInt8.ofNat 98, UInt8.ofNat 99, UInt8.ofNat 102, UInt8.ofNat 101, UInt8.ofNat 57, UInt8.ofNat 98, UInt8.ofNat 53, UInt8.ofNat 100, UInt8.ofNat 98, UInt8.ofNat 97, UInt8.ofNat 53, UInt8.ofNat 51, UInt8.ofNat 57, UInt8.ofNat 53, UInt8.ofNat 54, UInt8.ofNat 99, UInt8.ofNat 50, UInt8.ofNat 53, UInt8.ofNat 98, UInt8.ofNat 53, UInt8.ofNat 57, UInt8.ofNat 102, UInt8.ofNat 49, UInt8.ofNat 49, UInt8.ofNat 49, UInt8.ofNat 102, UInt8.ofNat 49, UInt8.ofNat 57, UInt8.ofNat 50, UInt8.ofNat 51, UInt8.ofNat 102, UInt8.ofNat 56, UInt8.ofNat 50, UInt8.ofNat 97, UInt8.ofNat 52, UInt8.ofNat 97, UInt8.ofNat 98, UInt8.ofNat 49, UInt8.ofNat 99, UInt8.ofNat 53, UInt8.ofNat 101, UInt8.ofNat 100, UInt8.ofNat 53, UInt8.ofNat 100, UInt8.ofNat 56, UInt8.ofNat 48, UInt8.ofNat 55, UInt8.ofNat 97, UInt8.ofNat 97, UInt8.ofNat 57, UInt8.ofNat 56, UInt8.ofNat 49, UInt8.ofNat 50, UInt8.ofNat 56, UInt8.ofNat 51, UInt8.ofNat 53, UInt8.ofNat 98, UInt8.ofNat 48, UInt8.ofNat 49, UInt8.ofNat 50, UInt8.ofNat 52, UInt8.ofNat 51, UInt8.ofNat 49, UInt8.ofNat 56, UInt8.ofNat 53, UInt8.ofNat 98, UInt8.ofNat 101, UInt8.ofNat 53, UInt8.ofNat 53, UInt8.ofNat 48, UInt8.ofNat 99, UInt8.ofNat 55, UInt8.ofNat 100, UInt8.ofNat 99, UInt8.ofNat 51, UInt8.ofNat 55, UInt8.ofNat 50, UInt8.ofNat 98, UInt8.ofNat 101, UInt8.ofNat 53, UInt8.ofNat 100, UInt8.ofNat 55, UInt8.ofNat 52, UInt8.ofNat 56, UInt8.ofNat 48, UInt8.ofNat 100, UInt8.ofNat 101, UInt8.ofNat 98, UInt8.ofNat 49, UInt8.ofNat 102, UInt8.ofNat 101, UInt8.ofNat 57, UInt8.ofNat 98, UInt8.ofNat 100, UInt8.ofNat 99, UInt8.ofNat 48, UInt8.ofNat 54, UInt8.ofNat 97, UInt8.ofNat 55, UInt8.ofNat 99, UInt8.ofNat 49, UInt8.ofNat 57, UInt8.ofNat 98, UInt8.ofNat 102, UInt8.ofNat 49, UInt8.ofNat 55, UInt8.ofNat 52, UInt8.ofNat 101, UInt8.ofNat 52, UInt8.ofNat 57, UInt8.ofNat 98, UInt8.ofNat 54, UInt8.ofNat 57, UInt8.ofNat 99, UInt8.ofNat 49, UInt8.ofNat 101, UInt8.ofNat 102, UInt8.ofNat 98, UInt8.ofNat 101, UInt8.ofNat 52, UInt8.ofNat 55, UInt8.ofNat 56, UInt8.ofNat 54, UInt8.ofNat 48, UInt8.ofNat 102, UInt8.ofNat 99, UInt8.ofNat 49, UInt8.ofNat 57, UInt8.ofNat 100, UInt8.ofNat 99, UInt8.ofNat 54, UInt8.ofNat 50, UInt8.ofNat 52, UInt8.ofNat 48, UInt8.ofNat 99, UInt8.ofNat 97, UInt8.ofNat 49, UInt8.ofNat 99, UInt8.ofNat 99, UInt8.ofNat 50, UInt8.ofNat 100, UInt8.ofNat 101, UInt8.ofNat 57, UInt8.ofNat 50, UInt8.ofNat 99, UInt8.ofNat 54, UInt8.ofNat 102, UInt8.ofNat 52, UInt8.ofNat 97, UInt8.ofNat 55, UInt8.ofNat 52, UInt8.ofNat 56, UInt8.ofNat 52, UInt8.ofNat 97, UInt8.ofNat 97, UInt8.ofNat 53, UInt8.ofNat 99, UInt8.ofNat 98, UInt8.ofNat 48, UInt8.ofNat 97, UInt8.ofNat 57, UInt8.ofNat 100, UInt8.ofNat 99, UInt8.ofNat 55, UInt8.ofNat 54, UInt8.ofNat 102, UInt8.ofNat 57, UInt8.ofNat 56, UInt8.ofNat 56, UInt8.ofNat 100, UInt8.ofNat 97, UInt8.ofNat 57, UInt8.ofNat 56, UInt8.ofNat 51, UInt8.ofNat 101, UInt8.ofNat 53, UInt8.ofNat 49, UInt8.ofNat 53, UInt8.ofNat 50, UInt8.ofNat 97, UInt8.ofNat 56, UInt8.ofNat 51, UInt8.ofNat 49, UInt8.ofNat 99, UInt8.ofNat 54, UInt8.ofNat 54, UInt8.ofNat 100, UInt8.ofNat 98, UInt8.ofNat 48, UInt8.ofNat 48, UInt8.ofNat 51, UInt8.ofNat 50, UInt8.ofNat 55, UInt8.ofNat 99, UInt8.ofNat 56, UInt8.ofNat 98, UInt8.ofNat 102, UInt8.ofNat 53, UInt8.ofNat 57, UInt8.ofNat 55, UInt8.ofNat 102, UInt8.ofNat 99, UInt8.ofNat 55, UInt8.ofNat 99, UInt8.ofNat 54, UInt8.ofNat 101, UInt8.ofNat 48, UInt8.ofNat 48, UInt8.ofNat 98, UInt8.ofNat 102, UInt8.ofNat 51, UInt8.ofNat 100, UInt8.ofNat 53, UInt8.ofNat 97, UInt8.ofNat 55, UInt8.ofNat 57, UInt8.ofNat 49, UInt8.ofNat 52, UInt8.ofNat 55, UInt8.ofNat 48, UInt8.ofNat 54, UInt8.ofNat 99, UInt8.ofNat 97, UInt8.ofNat 54, UInt8.ofNat 51, UInt8.ofNat 53, UInt8.ofNat 49, UInt8.ofNat 49, UInt8.ofNat 52, UInt8.ofNat 50, UInt8.ofNat 57, UInt8.ofNat 50, UInt8.ofNat 57, UInt8.ofNat 54, UInt8.ofNat 55, UInt8.ofNat 50, UInt8.ofNat 55, UInt8.ofNat 98, UInt8.ofNat 55, UInt8.ofNat 48, UInt8.ofNat 97, UInt8.ofNat 56, UInt8.ofNat 53, UInt8.ofNat 50, UInt8.ofNat 101, UInt8.ofNat 49, UInt8.ofNat 98, UInt8.ofNat 50, UInt8.ofNat 49, UInt8.ofNat 51, UInt8.ofNat 56, UInt8.ofNat 52, UInt8.ofNat 100, UInt8.ofNat 50, UInt8.ofNat 99, UInt8.ofNat 54, UInt8.ofNat 100, UInt8.ofNat 102, UInt8.ofNat 99, UInt8.ofNat 53, UInt8.ofNat 51, UInt8.ofNat 51, UInt8.ofNat 56, UInt8.ofNat 48, UInt8.ofNat 100, UInt8.ofNat 49, UInt8.ofNat 51, UInt8.ofNat 54, UInt8.ofNat 53, UInt8.ofNat 48, UInt8.ofNat 97, UInt8.ofNat 55, UInt8.ofNat 51, UInt8.ofNat 53, UInt8.ofNat 52, UInt8.ofNat 55, UInt8.ofNat 54, UInt8.ofNat 54, UInt8.ofNat 97, UInt8.ofNat 48, UInt8.ofNat 97, UInt8.ofNat 98, UInt8.ofNat 98, UInt8.ofNat 56, UInt8.ofNat 49, UInt8.ofNat 99, UInt8.ofNat 50, UInt8.ofNat 99, UInt8.ofNat 57, UInt8.ofNat 50, UInt8.ofNat 101, UInt8.ofNat 57, UInt8.ofNat 50, UInt8.ofNat 55, UInt8.ofNat 50, UInt8.ofNat 50, UInt8.ofNat 99, UInt8.ofNat 56, UInt8.ofNat 53, UInt8.ofNat 97, UInt8.ofNat 50, UInt8.ofNat 98, UInt8.ofNat 102, UInt8.ofNat 101, UInt8.ofNat 56, UInt8.ofNat 97, UInt8.ofNat 49, UInt8.ofNat 97, UInt8.ofNat 56, UInt8.ofNat 49, UInt8.ofNat 97, UInt8.ofNat 54, UInt8.ofNat 54, UInt8.ofNat 52, UInt8.ofNat 98, UInt8.ofNat 99, UInt8.ofNat 50, UInt8.ofNat 52, UInt8.ofNat 98, UInt8.ofNat 56, UInt8.ofNat 98, UInt8.ofNat 55, UInt8.ofNat 48, UInt8.ofNat 99, UInt8.ofNat 55, UInt8.ofNat 54, UInt8.ofNat 99, UInt8.ofNat 53, UInt8.ofNat 49, UInt8.ofNat 97, UInt8.ofNat 51, UInt8.ofNat 100, UInt8.ofNat 49, UInt8.ofNat 57, UInt8.ofNat 50, UInt8.ofNat 101, UInt8.ofNat 56, UInt8.ofNat 49, UInt8.ofNat 57, UInt8.ofNat 100, UInt8.ofNat 54, UInt8.ofNat 57, UInt8.ofNat 57, UInt8.ofNat 48, UInt8.ofNat 54, UInt8.ofNat 50, UInt8.ofNat 52, UInt8.ofNat 102, UInt8.ofNat 52, UInt8.ofNat 48, UInt8.ofNat 101, UInt8.ofNat 51, UInt8.ofNat 53, UInt8.ofNat 56, UInt8.ofNat 53, UInt8.ofNat 49, UInt8.ofNat 48, UInt8.ofNat 54, UInt8.ofNat 97, UInt8.ofNat 97, UInt8.ofNat 48, UInt8.ofNat 55, UInt8.ofNat 48, UInt8.ofNat 49, UInt8.ofNat 57, UInt8.ofNat 97, UInt8.ofNat 52, UInt8.ofNat 99, UInt8.ofNat 49, UInt8.ofNat 49, UInt8.ofNat 54, UInt8.ofNat 49, UInt8.ofNat 101, UInt8.ofNat 51, UInt8.ofNat 55, UInt8.ofNat 54, UInt8.ofNat 99, UInt8.ofNat 48, UInt8.ofNat 56, UInt8.ofNat 50, UInt8.ofNat 55, UInt8.ofNat 52, UInt8.ofNat 56, UInt8.ofNat 55, UInt8.ofNat 55, UInt8.ofNat 52, UInt8.ofNat 99, UInt8.ofNat 51, UInt8.ofNat 52, UInt8.ofNat 98, UInt8.ofNat 48, UInt8.ofNat 98, UInt8.ofNat 99, UInt8.ofNat 98, UInt8.ofNat 53, UInt8.ofNat 51, UInt8.ofNat 57, UInt8.ofNat 49, UInt8.ofNat 99, UInt8.ofNat 48, UInt8.ofNat 99, UInt8.ofNat 98, UInt8.ofNat 51, UInt8.ofNat 52, UInt8.ofNat 101, UInt8.ofNat 100, UInt8.ofNat 56, UInt8.ofNat 97, UInt8.ofNat 97, UInt8.ofNat 52, UInt8.ofNat 97, UInt8.ofNat 53, UInt8.ofNat 98, UInt8.ofNat 57, UInt8.ofNat 99, UInt8.ofNat 99, UInt8.ofNat 97, UInt8.ofNat 52, UInt8.ofNat 102, UInt8.ofNat 54, UInt8.ofNat 56, UInt8.ofNat 50, UInt8.ofNat 101, UInt8.ofNat 54, UInt8.ofNat 102, UInt8.ofNat 102, UInt8.ofNat 51, UInt8.ofNat 55, UInt8.ofNat 52, UInt8.ofNat 56, UInt8.ofNat 102, UInt8.ofNat 56, UInt8.ofNat 50, UInt8.ofNat 101, UInt8.ofNat 101, UInt8.ofNat 55, UInt8.ofNat 56, UInt8.ofNat 97, UInt8.ofNat 53, UInt8.ofNat 54, UInt8.ofNat 51, UInt8.ofNat 54, UInt8.ofNat 102, UInt8.ofNat 56, UInt8.ofNat 52, UInt8.ofNat 99, UInt8.ofNat 56, UInt8.ofNat 55, UInt8.ofNat 56, UInt8.ofNat 49, UInt8.ofNat 52, UInt8.ofNat 56, UInt8.ofNat 99, UInt8.ofNat 99, UInt8.ofNat 55, UInt8.ofNat 48, UInt8.ofNat 50, UInt8.ofNat 48, UInt8.ofNat 56, UInt8.ofNat 57, UInt8.ofNat 48, UInt8.ofNat 98, UInt8.ofNat 101, UInt8.ofNat 102, UInt8.ofNat 102, UInt8.ofNat 102, UInt8.ofNat 97, UInt8.ofNat 97, UInt8.ofNat 52, UInt8.ofNat 53, UInt8.ofNat 48, UInt8.ofNat 54, UInt8.ofNat 99, UInt8.ofNat 101, UInt8.ofNat 98, UInt8.ofNat 98, UInt8.ofNat 101, UInt8.ofNat 102, UInt8.ofNat 57, UInt8.ofNat 97, UInt8.ofNat 51, UInt8.ofNat 102, UInt8.ofNat 55, UInt8.ofNat 99, UInt8.ofNat 54, UInt8.ofNat 55, UInt8.ofNat 49, UInt8.ofNat 55, UInt8.ofNat 56, UInt8.ofNat 102, UInt8.ofNat 50])] [])
noncomputable def q2U {R : Type} (N : Nat) : KD R → Option R := lid "" (q5b N)
theorem z13 {R : Type} (N : Nat)  (k : KD R) : q2U N  k = q5b N  k := by unfold q2U; rw [Z9]
theorem z7A {R : Type} (N : Nat)  (K : V → List (Key × O) → Option R) : exF (X0 gl0) ((z14 N).ov R) F0 noX (fun f => bif Nat.beq f 14 then z9h else []) N 400 8 14 [] A0 K =
  q2U N  (fun d1 m1 => K (V.d o6 (dk d1 0)) []) := by
 rw [z13]
 exact (show _ = jn (fun d1 m1 => (K (V.d o6 (dk d1 0)) [])) (q5b N ) by kernel_rfl).trans (u9 _ _)
noncomputable def q8M (N : Nat) {R : Type} : OvG R := fun xs _ K => match xs with
 | [] => q2U N  (fun d1 m1 => K (V.d o6 (dk d1 0)) [])
 | _ => none
theorem z9g (N : Nat) {R : Type} : GOk (X0 gl0) 14 (q8M N (R := R)) := by
 intro xs A Kr r hr
 unfold q8M at hr
 split at hr
 ·skip
  rw [← z7A] at hr
  exact okA (z14 N) hr
 ·cases hr
noncomputable def z1e : Hints := [([9], ⟨[], [(4, .as (.ptr (.l 4) [] (.arr 32 (.int .u8))))], [], [(.l 4, .box (.d (.arr 32 (.int .u8))))], [], []⟩)]
noncomputable def q51 (N : Nat) : OvS (X0 gl0) where
 g R := [(37, q4a N)]
 ok := fun R => List.forall_mem_cons.2 ⟨z2k N, fun _ h => nomatch h⟩
noncomputable def q1N {R : Type} (N : Nat) (a0 a1 : C) (k1 : KD R) : Option R := (q0y N a0 (C.int 6) (C.slice [C.slice (cut (C.elems a1) 0 32)]) (fun d1 m1 => (k1 [dk d1 0] [])))
noncomputable def q0p {R : Type} (N : Nat) : C → C → KD R → Option R := lid "" (q1N N)
theorem q50 {R : Type} (N : Nat) (a0 a1 : C) (k : KD R) : q0p N a0 a1 k = q1N N a0 a1 k := by unfold q0p; rw [Z9]
theorem z0v {R : Type} (N : Nat) (a0 a1 : C) (K : V → List (Key × O) → Option R) : exF (X0 gl0) ((q51 N).ov R) F0 (fun f r => bif Nat.beq f 27 then (bif Nat.beq r 0 then [(2, 5), (3, 5)] else bif Nat.beq r 1 then [(8, 7)] else []) else []) (fun f => bif Nat.beq f 27 then z1e else []) N 400 8 27 [.d o6 a0, .d (.arr 32 (.int .u8)) a1] A0 K =
  q0p N a0 a1 (fun d1 m1 => K (V.d (Ty.arr 32 (Ty.int IntKind.u8)) (dk d1 0)) []) := by
 rw [q50]
 exact (show _ = jn (fun d1 m1 => (K (V.d (Ty.arr 32 (Ty.int IntKind.u8)) (dk d1 0)) [])) (q1N N a0 a1) by kernel_rfl).trans (u9 _ _)
noncomputable def q3P (N : Nat) {R : Type} : OvG R := fun xs _ K => match xs with
 | [.d t0 a0, .d t1 a1] => if t0 = o6 ∧ t1 = (.arr 32 (.int .u8)) then q0p N a0 a1 (fun d1 m1 => K (V.d (Ty.arr 32 (Ty.int IntKind.u8)) (dk d1 0)) []) else none
 | _ => none
theorem z1d (N : Nat) {R : Type} : GOk (X0 gl0) 27 (q3P N (R := R)) := by
 intro xs A Kr r hr
 unfold q3P at hr
 split at hr
 ·simp only [Option.ite_none_right_eq_some] at hr
  obtain ⟨hty, hr⟩ := hr
  obtain ⟨rfl, rfl⟩ := hty
  rw [← z0v] at hr
  exact okA (q51 N) hr
 ·cases hr
end Go.Proofs.Yteaddgnjddjllaa
namespace Go.Proofs.Yteaddgnjddjllaa
open Go Go.E
set_option maxRecDepth 100000
set_option maxHeartbeats 4000000
set_option linter.unusedSimpArgs false
variable {R : Type} {N : Nat}
theorem y9G (d : C) (l : List C) (B : Nat) (hb : q9l B l) (hB : B ≤ 1000000) (hl : l.length ≤ 100000) (hN : l.length + 1000 < N) (k : KD R) : q2T N d (.slice l) k = k [.slice (q2Z d l)] [] := by
 have lenb : ∀ i, i ≤ l.length → ((l.take i).flatMap q0B).length ≤ i * (B + 4) := by
  intro i hi
  induction i with
  | zero => simp
  | succ i ih =>
   rw [z2C (by omega), List.flatMap_append, List.length_append]
   have h1 := ih (by omega)
   have h2 := (hb _ (q0U (show i < l.length by omega))).2.2
   have h3 : ([l.getD i C.nil].flatMap q0B).length = 4 + (l.getD i C.nil).elems.length := by simp [q0B, q7T]
   rw [h3, Nat.succ_mul]; omega
 have lp : ∀ K : KD R, k9 N (q3u N K) [.slice l, .slice [d, C.int (IntKind.wrap IntKind.u8 (l.length : Int))], .int 0] [] = K [.slice (q2Z d l)] [] := fun K => by
  have key := U9 (F := q3u N K) (fun i => [.slice l, .slice ([d, C.int (IntKind.wrap IntKind.u8 (l.length : Int))] ++ (l.take i).flatMap q0B), .int (i : Nat)]) (fun _ => []) l.length (K [.slice (q2Z d l)] []) ?_ ?_ (N := N) (by omega)
  ·exact key
  ·intro i hi rec
   have e1 : (i : Int) < (l.length : Int) := by omega
   obtain ⟨y1, y2, y3⟩ := hb _ (q0U hi)
   have h1 := lenb i (by omega)
   have m1 : i * (B + 4) ≤ 100000 * 1000004 := Nat.mul_le_mul (by omega) (by omega)
   obtain ⟨o, ho⟩ : ∃ o, [d, C.int (IntKind.wrap IntKind.u8 (l.length : Int))] ++ (l.take i).flatMap q0B = o := ⟨_, rfl⟩
   have hol : o.length ≤ 2 + 100000 * 1000004 := by rw [← ho]; simp only [List.length_append, List.length_cons, List.length_nil]; omega
   obtain ⟨y, hy⟩ : ∃ y, (l.getD i .nil).elems = y := ⟨_, rfl⟩
   rw [hy] at y3
   have g1 : (o.length + 4) * 1 ≤ 140737488355328 ∧ o.length + 4 ≤ 9223372036854775807 := by omega
   have g2 : (o.length + 4 + y.length) * 1 ≤ 140737488355328 ∧ o.length + 4 + y.length ≤ 9223372036854775807 := by omega
   have w1 : IntKind.u8.wrap (IntKind.i64.wrap (Int.tdiv (y.length : Int) 16777216)) = ((y.length / 256 / 256 / 256 % 256 : Nat) : Int) := by
    rw [Int.tdiv_eq_ediv_of_nonneg (by omega), wrap_i64 (by omega) (by omega), wrap_u8]; omega
   have w2 : IntKind.u8.wrap (IntKind.i64.wrap (Int.tdiv (y.length : Int) 65536)) = ((y.length / 256 / 256 % 256 : Nat) : Int) := by
    rw [Int.tdiv_eq_ediv_of_nonneg (by omega), wrap_i64 (by omega) (by omega), wrap_u8]; omega
   have w3 : IntKind.u8.wrap (IntKind.i64.wrap (Int.tdiv (y.length : Int) 256)) = ((y.length / 256 % 256 : Nat) : Int) := by
    rw [Int.tdiv_eq_ediv_of_nonneg (by omega), wrap_i64 (by omega) (by omega), wrap_u8]; omega
   have w4 : IntKind.u8.wrap (y.length : Int) = ((y.length % 256 : Nat) : Int) := by rw [wrap_u8]; omega
   have ec : o ++ [C.int ((y.length / 256 / 256 / 256 % 256 : Nat) : Int), C.int ((y.length / 256 / 256 % 256 : Nat) : Int), C.int ((y.length / 256 % 256 : Nat) : Int), C.int ((y.length % 256 : Nat) : Int)] ++ y = [d, C.int (IntKind.wrap IntKind.u8 (l.length : Int))] ++ (l.take (i + 1)).flatMap q0B := by
    rw [← z7h _ (by omega), z2C hi, List.flatMap_append, ← List.append_assoc, ho, List.append_assoc]
    have : [l.getD i C.nil].flatMap q0B = b4 (IntKind.u32.wrap ((l.getD i .nil).elems.length : Int)) ++ (l.getD i .nil).elems := by simp [q0B]
    rw [this, hy]
    rw [show IntKind.u32.wrap (y.length : Int) = (y.length : Int) by rw [wrap_u32]; omega]
   rw [ho, ← ec]
   unfold q3u
   simp only [w6, u0, o8, w7, w5, e1, hy, w1, w2, w3, w4, g1, g2, decide_true, cond_true, Int.natCast_nonneg, and_self, if_true, Int.toNat_natCast, Nat.beq_refl, List.length_append, List.length_cons, List.length_nil, Nat.zero_add, Nat.reduceAdd, c9 (show i < 4611686018427387904 by omega)]
  ·intro rec
   unfold q3u
   simp only [w6, u0, o8, w7, w5, Int.lt_irrefl, decide_false, cond_false, Nat.beq_refl, cond_true, List.take_length]
   rfl
 rw [z10]
 unfold q3t
 simp only [u9, w5]
 refine (lp _).trans ?_
 simp only [w6, w5, Nat.beq_refl, cond_true]
theorem y9I (t : C) (ht : q6p t) (d : C) (hd : F6 d) (l : List C) (B : Nat) (hb : q9l B l) (hB : B ≤ 1000000) (hl : l.length ≤ 100000) (hm : (q2Z d l).length ≤ 4398046511104) (hN : (q2Z d l).length + l.length + 1000 < N) (k : KD R) : q0y N t d (.slice l) k = k [z2I (q2Z d l)] [] := by
 have hbb : ∀ c ∈ q2Z d l, F6 c := by
  intro c hc
  unfold q2Z at hc
  rcases List.mem_append.1 hc with hc | hc
  ·simp only [List.mem_cons, List.not_mem_nil, or_false] at hc
   rcases hc with rfl | rfl
   ·exact hd
   ·exact y1R _
  ·obtain ⟨x, hx, hc⟩ := List.mem_flatMap.1 hc
   unfold q0B at hc
   rcases List.mem_append.1 hc with hc | hc
   ·exact z7g _ c hc
   ·exact (hb x hx).2.1 c hc
 rw [q6s]
 unfold q2f
 simp only [u9, y9G d l B hb hB hl (show l.length + 1000 < N by omega), w6, w5, x2k t ht _ hbb hm (show (q2Z d l).length + 1000 < N by omega)]
theorem y4L (s : List UInt8) (n : Nat) (g : Nat → Int) (h : (List.range n).map (fun i => z1B s i 8) = (List.range n).map g) : ∀ i, i < n → z1B s i 8 = g i := fun i hi => by
 have := congrArg (fun l => l.getD i 0) h
 simpa [hi] using this
theorem y6V (k : KD R) : ∃ t, q6p t ∧ ∀ k : KD R, q2U N k = k [t] [] := by
 refine ⟨?w, ?a, fun k => ?b⟩
 case b => rw [z13]; unfold q5b; simp only [u9]; rfl
 ·exact ⟨by kernel_rfl, by kernel_rfl, y4L _ 8 (fun i => ((([1779033703, 3144134277, 1013904242, 2773480762, 1359893119, 2600822924, 528734635, 1541459225] : List W32).getD i 0).toNat : Int)) (by kernel_rfl), y4L _ 64 (fun i => ((ksW.getD i 0).toNat : Int)) (by kernel_rfl)⟩
end Go.Proofs.Yteaddgnjddjllaa
namespace Go.Proofs.Yteaddgnjddjllaa
open Go Go.E
set_option maxRecDepth 100000
set_option maxHeartbeats 4000000
set_option linter.unusedVariables false
def q3e : List Sh := [.as (.ptr (.g (.l 1)) [] c4), .d (.arr 32 (.int .u8))]
def q5Z : List (Key × OSh) := [(.l 1, .box (.agg c4 [.d o6, .ts 72 b7]))]
noncomputable def z1c : Hints := [([1, 0, 1], ⟨[0], [], [], [], [.g (.l 1)], []⟩),
  ([4, 1, 0, 1], ⟨[0, 3], [(5, .d (.int .i64))], [], [], [.g (.l 1)], []⟩),
  ([9], ⟨[], [(4, .d (.int .i64))], [], [], [.g (.l 1)], []⟩)]
noncomputable def q5Y (N : Nat) : OvS (X0 gl0) where
 g R := []
 ok := fun R => fun _ h => nomatch h
noncomputable def q0K {R : Type} (N : Nat) (b0 : C) (k1 : KD R) (k2 : KD R) : KD R → List C → List Es → Option R := (fun k3 d1 m1 => (bif decide (C.toInt (dk d1 1) < (↑(List.length (C.elems b0)) : Int)) then (if 0 ≤ C.toInt (dk d1 1) ∧ C.toInt (dk d1 1) < (↑(List.length (C.elems b0)) : Int) then (bif C.beq (C.get (List.getD (C.elems b0) (Int.toNat (C.toInt (dk d1 1))) C.nil) 0) (dk d1 0) then (k1 [dk d1 1] []) else (k3 [dk d1 0, C.int (IntKind.wrap IntKind.i64 (C.toInt (dk d1 1) + 1))] [])) else none) else (k2 [] [])))
noncomputable def q1L {R : Type} (N : Nat) (a0 a1 b0 b1 : C) (k1 : KD R) : Option R := (jn (fun d1 m1 => (k1 [C.int (-1)] [])) (fun k2 => (k9 N (q0K N b0 k1 k2) [a0, C.int 0] [])))
noncomputable def U3 {R : Type} (N : Nat) : C → C → C → C → KD R → Option R := lid "" (q1L N)
theorem q5X {R : Type} (N : Nat) (a0 a1 b0 b1 : C) (k : KD R) : U3 N a0 a1 b0 b1 k = q1L N a0 a1 b0 b1 k := by unfold U3; rw [Z9]
theorem z0q {R : Type} (N : Nat) (a0 a1 b0 b1 : C) (K : V → List (Key × O) → Option R) : exF (X0 gl0) ((q5Y N).ov R) F0 (fun f r => bif Nat.beq f 18 then (bif Nat.beq r 0 then [(3, 5)] else []) else []) (fun f => bif Nat.beq f 18 then z1c else []) N 400 8 18 (Sh.U1 q3e 0 [a0, a1, b0, b1]) (y7 (u5 q5Z (Sh.q0n q3e) 0 [a0, a1, b0, b1] [])) K =
  U3 N a0 a1 b0 b1 (fun d1 m1 => K (V.d (Ty.int IntKind.i64) (dk d1 0)) []) := by
 rw [q5X]
 exact (show _ = jn (fun d1 m1 => (K (V.d (Ty.int IntKind.i64) (dk d1 0)) [])) (q1L N a0 a1 b0 b1) by kernel_rfl).trans (u9 _ _)
noncomputable def q00 (N : Nat) {R : Type} : OvG R := q4Q q3e q5Z fun ds ms K => U3 N (dk ds 0) (dk ds 1) (dk ds 2) (dk ds 3) (fun d1 m1 => K (V.d (Ty.int IntKind.i64) (dk d1 0)) [])
theorem q3d (N : Nat) {R : Type} : GOk (X0 gl0) 18 (q00 N (R := R)) := by
 unfold q00
 refine q1r fun ds ms K r hr => ?_
 rw [← z0q] at hr
 exact okB (q5Y N) hr
def q3c : List Sh := [.as (.ptr (.g (.l 1)) [] c4), .d (.arr 32 (.int .u8)), .d (.int .u64)]
def q5W : List (Key × OSh) := [(.l 1, .box (.agg c4 [.d o6, .ts 72 b7]))]
noncomputable def z1b : Hints := [([9], ⟨[], [(6, .d (.int .i64))], [.g (.l 1)], [(.g (.l 1), .box (.agg c4 [.d o6, .ts 72 b7]))], [], []⟩)]
noncomputable def q5V (N : Nat) : OvS (X0 gl0) where
 g R := [(18, q00 N), (27, q3P N)]
 ok := fun R => List.forall_mem_cons.2 ⟨q3d N, List.forall_mem_cons.2 ⟨z1d N, fun _ h => nomatch h⟩⟩
noncomputable def q1K {R : Type} (N : Nat) (a0 a1 a2 b0 b1 : C) (k1 : KD R) : Option R := (q0p N a2 a0 (fun d1 m1 => (U3 N (dk d1 0) a2 (C.slice (C.elems b0)) C.nil (fun d2 m2 => (bif decide (0 ≤ C.toInt (dk d2 0)) then (k1 [C.int 7, a2, C.slice (C.elems b0)] []) else (bif Nat.beq (List.length (C.elems b0)) (List.length (C.elems b0)) then (if (List.length (C.elems b0) + 1) * 72 ≤ 140737488355328 ∧ List.length (C.elems b0) + 1 ≤ 9223372036854775807 then (bif Nat.beq (List.length (C.elems b0) + 1) (List.length (C.elems b0 ++ [C.set (C.set (C.set (C.agg [C.agg (List.replicate 32 (C.int 0)), C.agg (List.replicate 32 (C.int 0)), C.int 0]) 0 (dk d1 0)) 1 a0) 2 a1])) then (k1 [C.int 0, a2, C.slice (C.elems b0 ++ [C.set (C.set (C.set (C.agg [C.agg (List.replicate 32 (C.int 0)), C.agg (List.replicate 32 (C.int 0)), C.int 0]) 0 (dk d1 0)) 1 a0) 2 a1])] []) else none) else none) else none))))))
noncomputable def q0o {R : Type} (N : Nat) : C → C → C → C → C → KD R → Option R := lid "" (q1K N)
theorem q5U {R : Type} (N : Nat) (a0 a1 a2 b0 b1 : C) (k : KD R) : q0o N a0 a1 a2 b0 b1 k = q1K N a0 a1 a2 b0 b1 k := by unfold q0o; rw [Z9]
theorem z0p {R : Type} (N : Nat) (a0 a1 a2 b0 b1 : C) (K : V → List (Key × O) → Option R) : exF (X0 gl0) ((q5V N).ov R) F0 (fun f r => bif Nat.beq f 15 then (bif Nat.beq r 0 then [(4, 5)] else bif Nat.beq r 1 then [(13, 7)] else bif Nat.beq r 4 then [(7, 6)] else []) else []) (fun f => bif Nat.beq f 15 then z1b else []) N 400 8 15 (Sh.U1 q3c 0 [a0, a1, a2, b0, b1]) (y7 (u5 q5W (Sh.q0n q3c) 0 [a0, a1, a2, b0, b1] [])) K =
  q0o N a0 a1 a2 b0 b1 (fun d1 m1 => K (V.d (Ty.int IntKind.i64) (dk d1 0)) [(Key.g (Key.l 1), O.box (V.agg c4 [V.d o6 (dk d1 1), V.ts 72 b7 (C.elems (dk d1 2))]))]) := by
 rw [q5U]
 exact (show _ = jn (fun d1 m1 => (K (V.d (Ty.int IntKind.i64) (dk d1 0)) [(Key.g (Key.l 1), O.box (V.agg c4 [V.d o6 (dk d1 1), V.ts 72 b7 (C.elems (dk d1 2))]))])) (q1K N a0 a1 a2 b0 b1) by kernel_rfl).trans (u9 _ _)
noncomputable def q3O (N : Nat) {R : Type} : OvG R := q4Q q3c q5W fun ds ms K => q0o N (dk ds 0) (dk ds 1) (dk ds 2) (dk ds 3) (dk ds 4) (fun d1 m1 => K (V.d (Ty.int IntKind.i64) (dk d1 0)) [(Key.g (Key.l 1), O.box (V.agg c4 [V.d o6 (dk d1 1), V.ts 72 b7 (C.elems (dk d1 2))]))])
theorem z1a (N : Nat) {R : Type} : GOk (X0 gl0) 15 (q3O N (R := R)) := by
 unfold q3O
 refine q1r fun ds ms K r hr => ?_
 rw [← z0p] at hr
 exact okB (q5V N) hr
def q39 : List Sh := [.as (.ptr (.g (.l 1)) [] c4), .d Y0, .d (.int .u64)]
def q7A : List (Key × OSh) := [(.l 1, .box (.agg c4 [.d o6, .ts 72 b7]))]
noncomputable def z2S : Hints := [([0, 0, 1, 1], ⟨[0, 2, 4], [(26, .d .bool)], [], [], [.g (.l 1)], []⟩),
  ([9], ⟨[], [(6, .d (.int .i64))], [], [], [.g (.l 1)], []⟩)]
noncomputable def q7z (N : Nat) : OvS (X0 gl0) where
 g R := [(18, q00 N)]
 ok := fun R => List.forall_mem_cons.2 ⟨q3d N, fun _ h => nomatch h⟩
noncomputable def q2v {R : Type} (N : Nat) (a0 a1 b0 b1 : C) (k1 : KD R) : Option R := (U3 N (C.get a0 3) b0 (C.slice (C.elems b1)) C.nil (fun d1 m1 => (jn (fun d2 m2 => (bif C.toBool (dk d2 2) then (k1 [C.int 1] []) else (bif decide (C.toInt (C.get (dk d2 1) 4) < C.toInt (dk d2 0)) then (k1 [C.int 2] []) else (k1 [C.int 0] [])))) (fun k2 => (bif decide (0 ≤ C.toInt (dk d1 0)) then (if 0 ≤ C.toInt (dk d1 0) ∧ C.toInt (dk d1 0) < (↑(List.length (C.elems b1)) : Int) then (k2 [a1, a0, C.bool (decide (C.toInt (C.get (List.getD (C.elems b1) (Int.toNat (C.toInt (dk d1 0))) C.nil) 2) ≤ C.toInt (C.get a0 4)))] []) else none) else (k2 [a1, a0, C.bool false] []))))))
noncomputable def q0X {R : Type} (N : Nat) : C → C → C → C → KD R → Option R := lid "" (q2v N)
theorem q7y {R : Type} (N : Nat) (a0 a1 b0 b1 : C) (k : KD R) : q0X N a0 a1 b0 b1 k = q2v N a0 a1 b0 b1 k := by unfold q0X; rw [Z9]
theorem z2i {R : Type} (N : Nat) (a0 a1 b0 b1 : C) (K : V → List (Key × O) → Option R) : exF (X0 gl0) ((q7z N).ov R) F0 (fun f r => bif Nat.beq f 20 then (bif Nat.beq r 0 then [(4, 5)] else []) else []) (fun f => bif Nat.beq f 20 then z2S else []) N 400 8 20 (Sh.U1 q39 0 [a0, a1, b0, b1]) (y7 (u5 q7A (Sh.q0n q39) 0 [a0, a1, b0, b1] [])) K =
  q0X N a0 a1 b0 b1 (fun d1 m1 => K (V.d (Ty.int IntKind.i64) (dk d1 0)) []) := by
 rw [q7y]
 exact (show _ = jn (fun d1 m1 => (K (V.d (Ty.int IntKind.i64) (dk d1 0)) [])) (q2v N a0 a1 b0 b1) by kernel_rfl).trans (u9 _ _)
noncomputable def q4N (N : Nat) {R : Type} : OvG R := q4Q q39 q7A fun ds ms K => q0X N (dk ds 0) (dk ds 1) (dk ds 2) (dk ds 3) (fun d1 m1 => K (V.d (Ty.int IntKind.i64) (dk d1 0)) [])
theorem z2R (N : Nat) {R : Type} : GOk (X0 gl0) 20 (q4N N (R := R)) := by
 unfold q4N
 refine q1r fun ds ms K r hr => ?_
 rw [← z2i] at hr
 exact okB (q7z N) hr
noncomputable def z9d : Hints := [([1, 0, 1], ⟨[], [], [], [], [], []⟩),
  ([4, 1, 0, 1], ⟨[2, 3], [(5, .d (.int .i64))], [], [], [], []⟩),
  ([9], ⟨[], [(4, .d .bool)], [], [], [], []⟩)]
noncomputable def z1Z (N : Nat) : OvS (X0 gl0) where
 g R := []
 ok := fun R => fun _ h => nomatch h
noncomputable def q3s {R : Type} (N : Nat) (k1 : KD R) (k2 : KD R) : KD R → List C → List Es → Option R := (fun k3 d1 m1 => (bif decide (C.toInt (dk d1 2) < 32) then (if 0 ≤ C.toInt (dk d1 2) ∧ C.toInt (dk d1 2) < 32 then (if 0 ≤ C.toInt (dk d1 2) ∧ C.toInt (dk d1 2) < 32 then (bif !decide (C.toInt (C.get (dk d1 0) (Int.toNat (C.toInt (dk d1 2)))) = C.toInt (C.get (dk d1 1) (Int.toNat (C.toInt (dk d1 2))))) then (if 0 ≤ C.toInt (dk d1 2) ∧ C.toInt (dk d1 2) < 32 then (if 0 ≤ C.toInt (dk d1 2) ∧ C.toInt (dk d1 2) < 32 then (k1 [C.bool (decide (C.toInt (C.get (dk d1 0) (Int.toNat (C.toInt (dk d1 2)))) < C.toInt (C.get (dk d1 1) (Int.toNat (C.toInt (dk d1 2))))))] []) else none) else none) else (k3 [dk d1 0, dk d1 1, C.int (IntKind.wrap IntKind.i64 (C.toInt (dk d1 2) + 1))] [])) else none) else none) else (k2 [] [])))
noncomputable def q5a {R : Type} (N : Nat) (a0 a1 : C) (k1 : KD R) : Option R := (jn (fun d1 m1 => (k1 [C.bool false] [])) (fun k2 => (k9 N (q3s N k1 k2) [a0, a1, C.int 0] [])))
noncomputable def q2Q {R : Type} (N : Nat) : C → C → KD R → Option R := lid "" (q5a N)
theorem z1Y {R : Type} (N : Nat) (a0 a1 : C) (k : KD R) : q2Q N a0 a1 k = q5a N a0 a1 k := by unfold q2Q; rw [Z9]
theorem z7w {R : Type} (N : Nat) (a0 a1 : C) (K : V → List (Key × O) → Option R) : exF (X0 gl0) ((z1Z N).ov R) F0 (fun f r => bif Nat.beq f 28 then (bif Nat.beq r 0 then [(2, 5), (3, 5)] else []) else []) (fun f => bif Nat.beq f 28 then z9d else []) N 400 8 28 [.d (.arr 32 (.int .u8)) a0, .d (.arr 32 (.int .u8)) a1] A0 K =
  q2Q N a0 a1 (fun d1 m1 => K (V.d Ty.bool (C.bool (C.toBool (dk d1 0)))) []) := by
 rw [z1Y]
 exact (show _ = jn (fun d1 m1 => (K (V.d Ty.bool (C.bool (C.toBool (dk d1 0)))) [])) (q5a N a0 a1) by kernel_rfl).trans (u9 _ _)
noncomputable def q8K (N : Nat) {R : Type} : OvG R := fun xs _ K => match xs with
 | [.d t0 a0, .d t1 a1] => if t0 = (.arr 32 (.int .u8)) ∧ t1 = (.arr 32 (.int .u8)) then q2Q N a0 a1 (fun d1 m1 => K (V.d Ty.bool (C.bool (C.toBool (dk d1 0)))) []) else none
 | _ => none
theorem z9c (N : Nat) {R : Type} : GOk (X0 gl0) 28 (q8K N (R := R)) := by
 intro xs A Kr r hr
 unfold q8K at hr
 split at hr
 ·simp only [Option.ite_none_right_eq_some] at hr
  obtain ⟨hty, hr⟩ := hr
  obtain ⟨rfl, rfl⟩ := hty
  rw [← z7w] at hr
  exact okA (z1Z N) hr
 ·cases hr
def q2B : List Sh := [.as (.ptr (.g (.l 1)) [] c4)]
def q4Z : List (Key × OSh) := [(.l 1, .box (.agg c4 [.d o6, .ts 72 b7]))]
noncomputable def q9Y : Hints := [([1, 0, 1, 1], ⟨[0], [(3, .d (.slice 32 (.arr 32 (.int .u8))))], [], [], [.g (.l 1)], []⟩),
  ([4, 1, 0, 1, 1], ⟨[0], [(3, .d (.slice 32 (.arr 32 (.int .u8)))), (4, .d (.int .i64))], [], [], [.g (.l 1)], []⟩),
  ([0, 1, 4, 0, 1, 5, 4, 1, 0, 1, 1], ⟨[0, 3, 4], [(5, .d (.int .i64))], [], [], [.g (.l 1)], []⟩),
  ([4, 0, 1, 4, 0, 1, 5, 4, 1, 0, 1, 1], ⟨[0, 3, 4], [(5, .d (.int .i64))], [], [], [.g (.l 1)], []⟩),
  ([0, 0, 5, 4, 0, 1, 4, 0, 1, 5, 4, 1, 0, 1, 1], ⟨[0, 3, 4, 5], [(34, .d .bool)], [], [], [.g (.l 1)], []⟩),
  ([9], ⟨[], [(2, .d (.slice 32 (.arr 32 (.int .u8))))], [], [], [.g (.l 1)], []⟩)]
noncomputable def q4Y (N : Nat) : OvS (X0 gl0) where
 g R := [(28, q8K N)]
 ok := fun R => List.forall_mem_cons.2 ⟨z9c N, fun _ h => nomatch h⟩
noncomputable def q0u {R : Type} (N : Nat) (b1 : C) (k4 : KD R) : KD R → List C → List Es → Option R := (fun k5 d2 m2 => (jn (fun d3 m3 => (bif C.toBool (dk d3 3) then (k5 [dk d3 0, dk d3 1, C.int (IntKind.wrap IntKind.i64 (C.toInt (dk d3 2) + 1))] []) else (k4 [dk d3 0, dk d3 1, dk d3 2] []))) (fun k6 => (bif decide (C.toInt (dk d2 2) < (↑(List.length (C.elems (dk d2 0))) : Int)) then (if 0 ≤ C.toInt (dk d2 2) ∧ C.toInt (dk d2 2) < (↑(List.length (C.elems (dk d2 0))) : Int) then (if 0 ≤ C.toInt (dk d2 1) ∧ C.toInt (dk d2 1) < (↑(List.length (C.elems b1)) : Int) then (q2Q N (List.getD (C.elems (dk d2 0)) (Int.toNat (C.toInt (dk d2 2))) C.nil) (C.get (List.getD (C.elems b1) (Int.toNat (C.toInt (dk d2 1))) C.nil) 0) (fun d3 m3 => (k6 [dk d2 0, dk d2 1, dk d2 2, C.bool (C.toBool (dk d3 0))] []))) else none) else none) else (k6 [dk d2 0, dk d2 1, dk d2 2, C.bool false] [])))))
noncomputable def q1a {R : Type} (N : Nat) (b1 : C) (k2 : KD R) : KD R → List C → List Es → Option R := (fun k3 d1 m1 => (bif decide (C.toInt (dk d1 1) < (↑(List.length (C.elems b1)) : Int)) then (jn (fun d2 m2 => (if Int.ofNat 0 ≤ 0 ∧ 0 ≤ C.toInt (dk d2 2) ∧ C.toInt (dk d2 2) ≤ (↑(List.length (C.elems (dk d2 0))) : Int) then (if 0 ≤ C.toInt (dk d2 1) ∧ C.toInt (dk d2 1) < (↑(List.length (C.elems b1)) : Int) then (bif Nat.beq (List.length (cut (C.elems (dk d2 0)) 0 (C.toInt (dk d2 2)))) (List.length (cut (C.elems (dk d2 0)) 0 (C.toInt (dk d2 2)))) then (if (List.length (cut (C.elems (dk d2 0)) 0 (C.toInt (dk d2 2))) + 1) * 32 ≤ 140737488355328 ∧ List.length (cut (C.elems (dk d2 0)) 0 (C.toInt (dk d2 2))) + 1 ≤ 9223372036854775807 then (if 0 ≤ C.toInt (dk d2 2) ∧ C.toInt (dk d2 2) ≤ (↑(List.length (C.elems (dk d2 0))) : Int) ∧ (↑(List.length (C.elems (dk d2 0))) : Int) ≤ (↑(List.length (C.elems (dk d2 0))) : Int) then (bif Nat.beq (List.length (cut (C.elems (dk d2 0)) 0 (C.toInt (dk d2 2))) + 1) (List.length (cut (C.elems (dk d2 0)) 0 (C.toInt (dk d2 2)) ++ [C.get (List.getD (C.elems b1) (Int.toNat (C.toInt (dk d2 1))) C.nil) 0])) then (if (List.length (cut (C.elems (dk d2 0)) 0 (C.toInt (dk d2 2)) ++ [C.get (List.getD (C.elems b1) (Int.toNat (C.toInt (dk d2 1))) C.nil) 0]) + List.length (cut (C.elems (dk d2 0)) (C.toInt (dk d2 2)) (↑(List.length (C.elems (dk d2 0))) : Int))) * 32 ≤ 140737488355328 ∧ List.length (cut (C.elems (dk d2 0)) 0 (C.toInt (dk d2 2)) ++ [C.get (List.getD (C.elems b1) (Int.toNat (C.toInt (dk d2 1))) C.nil) 0]) + List.length (cut (C.elems (dk d2 0)) (C.toInt (dk d2 2)) (↑(List.length (C.elems (dk d2 0))) : Int)) ≤ 9223372036854775807 then (k3 [C.slice (cut (C.elems (dk d2 0)) 0 (C.toInt (dk d2 2)) ++ [C.get (List.getD (C.elems b1) (Int.toNat (C.toInt (dk d2 1))) C.nil) 0] ++ cut (C.elems (dk d2 0)) (C.toInt (dk d2 2)) (↑(List.length (C.elems (dk d2 0))) : Int)), C.int (IntKind.wrap IntKind.i64 (C.toInt (dk d2 1) + 1))] []) else none) else none) else none) else none) else none) else none) else none)) (fun k4 => (k9 N (q0u N b1 k4) [dk d1 0, dk d1 1, C.int 0] []))) else (k2 [dk d1 0] [])))
noncomputable def q09 {R : Type} (N : Nat) (b0 b1 : C) (k1 : KD R) : Option R := (jn (fun d1 m1 => (k1 [dk d1 0] [])) (fun k2 => (k9 N (q1a N b1 k2) [C.slice [], C.int 0] [])))
noncomputable def F1 {R : Type} (N : Nat) : C → C → KD R → Option R := lid "" (q09 N)
theorem q4X {R : Type} (N : Nat) (b0 b1 : C) (k : KD R) : F1 N b0 b1 k = q09 N b0 b1 k := by unfold F1; rw [Z9]
theorem q9n {R : Type} (N : Nat) (b0 b1 : C) (K : V → List (Key × O) → Option R) : exF (X0 gl0) ((q4Y N).ov R) F0 (fun f r => bif Nat.beq f 16 then (bif Nat.beq r 6 then [(33, 7)] else []) else []) (fun f => bif Nat.beq f 16 then q9Y else []) N 400 8 16 (Sh.U1 q2B 0 [b0, b1]) (y7 (u5 q4Z (Sh.q0n q2B) 0 [b0, b1] [])) K =
  F1 N b0 b1 (fun d1 m1 => K (V.d (Ty.slice 32 (Ty.arr 32 (Ty.int IntKind.u8))) (dk d1 0)) []) := by
 rw [q4X]
 exact (show _ = jn (fun d1 m1 => (K (V.d (Ty.slice 32 (Ty.arr 32 (Ty.int IntKind.u8))) (dk d1 0)) [])) (q09 N b0 b1) by kernel_rfl).trans (u9 _ _)
noncomputable def q2R (N : Nat) {R : Type} : OvG R := q4Q q2B q4Z fun ds ms K => F1 N (dk ds 0) (dk ds 1) (fun d1 m1 => K (V.d (Ty.slice 32 (Ty.arr 32 (Ty.int IntKind.u8))) (dk d1 0)) [])
theorem q9X (N : Nat) {R : Type} : GOk (X0 gl0) 16 (q2R N (R := R)) := by
 unfold q2R
 refine q1r fun ds ms K r hr => ?_
 rw [← q9n] at hr
 exact okB (q4Y N) hr
def q3g : List Sh := [.as (.ptr (.g (.l 1)) [] Q0), .d (.int .u64), .d (.slice 64 Y0)]
def q58 : List (Key × OSh) := [(.l 1, .box (.agg Q0 [.as (.mp (.g (.l 2)))])), (.l 2, .map (.arr 32 (.int .u8)) z7)]
noncomputable def z1l : Hints := [([1, 0, 1, 1], ⟨[0], [(7, .sl 8 (.int .i64) 5007)], [], [], [.g (.l 1), .g (.l 2)], []⟩),
  ([4, 1, 0, 1, 1], ⟨[0, 1, 10, 11], [(7, .sl 8 (.int .i64) 5007), (12, .d (.int .i64))], [], [], [.g (.l 1), .g (.l 2)], []⟩),
  ([9], ⟨[], [(6, .sl 8 (.int .i64) 5006)], [], [], [.g (.l 1), .g (.l 2)], []⟩)]
noncomputable def q57 (N : Nat) : OvS (X0 gl0) where
 g R := [(21, q1i N)]
 ok := fun R => List.forall_mem_cons.2 ⟨q3Q N, fun _ h => nomatch h⟩
noncomputable def q1Q {R : Type} (N : Nat) (m0 : Es) (k2 : KD R) : KD R → List C → List Es → Option R := (fun k3 d1 m1 => (bif decide (C.toInt (dk d1 4) < C.toInt (dk d1 2)) then (if 0 ≤ C.toInt (dk d1 4) ∧ C.toInt (dk d1 4) < (↑(List.length (C.elems (dk d1 1))) : Int) then (if X4 z7 (List.map (fun c => (Prod.fst c, V.ren (swU (Key.l 2) (x8 (if Key.l 1 = x8 [] (Key.g (Key.l 1)) then [] else [] ++ [(Key.l 1, x8 [] (Key.g (Key.l 1)))]) (Key.g (Key.l 2)))) id (Prod.snd c))) (List.map (fun c => (Prod.fst c, V.ren (swU (Key.l 1) (x8 [] (Key.g (Key.l 1)))) id (Prod.snd c))) (List.map (fun c => (Prod.fst c, V.ren Key.g id (Prod.snd c))) (dE z7 m0)))) = true then (X9 N (List.getD (C.elems (dk d1 1)) (Int.toNat (C.toInt (dk d1 4))) C.nil) (dk d1 0) C.nil (unE (List.map (fun c => (Prod.fst c, V.ren (swU (Key.l 2) (x8 (if Key.l 1 = x8 [] (Key.g (Key.l 1)) then [] else [] ++ [(Key.l 1, x8 [] (Key.g (Key.l 1)))]) (Key.g (Key.l 2)))) id (Prod.snd c))) (List.map (fun c => (Prod.fst c, V.ren (swU (Key.l 1) (x8 [] (Key.g (Key.l 1)))) id (Prod.snd c))) (List.map (fun c => (Prod.fst c, V.ren Key.g id (Prod.snd c))) (dE z7 m0))))) (fun d2 m2 => (bif Nat.beq (List.length (C.elems (dk d1 3))) (List.length (C.elems (dk d1 3))) then (if (List.length (C.elems (dk d1 3)) + 1) * 8 ≤ 140737488355328 ∧ List.length (C.elems (dk d1 3)) + 1 ≤ 9223372036854775807 then (bif Nat.beq (List.length (C.elems (dk d1 3)) + 1) (List.length (C.elems (dk d1 3) ++ [dk d2 0])) then (k3 [dk d1 0, dk d1 1, dk d1 2, C.slice (C.elems (dk d1 3) ++ [dk d2 0]), C.int (IntKind.wrap IntKind.i64 (C.toInt (dk d1 4) + 1))] []) else none) else none) else none))) else none) else none) else (bif Nat.beq (List.length (C.elems (dk d1 3))) (List.length (C.elems (dk d1 3))) then (k2 [C.slice (C.elems (dk d1 3))] []) else none)))
noncomputable def q0L {R : Type} (N : Nat) (a0 a1 b0 : C) (m0 : Es) (k1 : KD R) : Option R := (jn (fun d1 m1 => (bif Nat.beq (List.length (C.elems (dk d1 0))) (List.length (C.elems (dk d1 0))) then (k1 [C.slice (C.elems (dk d1 0))] []) else none)) (fun k2 => (k9 N (q1Q N m0 k2) [a0, a1, C.int (↑(List.length (C.elems a1)) : Int), C.slice [], C.int 0] [])))
noncomputable def q0q {R : Type} (N : Nat) : C → C → C → Es → KD R → Option R := lid "" (q0L N)
theorem q56 {R : Type} (N : Nat) (a0 a1 b0 : C) (m0 : Es) (k : KD R) : q0q N a0 a1 b0 m0 k = q0L N a0 a1 b0 m0 k := by unfold q0q; rw [Z9]
theorem z0D {R : Type} (N : Nat) (a0 a1 b0 : C) (m0 : Es) (K : V → List (Key × O) → Option R) : exF (X0 gl0) ((q57 N).ov R) F0 noX (fun f => bif Nat.beq f 19 then z1l else []) N 400 8 19 (Sh.U1 q3g 0 [a0, a1, b0]) (y7 (u5 q58 (Sh.q0n q3g) 0 [a0, a1, b0] [m0])) K =
  q0q N a0 a1 b0 m0 (fun d1 m1 => K (V.ts 8 (Ty.int IntKind.i64) (C.elems (dk d1 0))) []) := by
 rw [q56]
 exact (show _ = jn (fun d1 m1 => (bif Nat.beq (List.length (C.elems (dk d1 0))) (List.length (C.elems (dk d1 0))) then
  (K (V.ts 8 (Ty.int IntKind.i64) (C.elems (dk d1 0))) [])
 else
  none)) (q0L N a0 a1 b0 m0) by kernel_rfl).trans ((u9 _ _).trans (congrArg (q0L N a0 a1 b0 m0) (funext fun _ => funext fun _ => by simp only [Nat.beq_refl, cond_true])))
noncomputable def q3T (N : Nat) {R : Type} : OvG R := q4Q q3g q58 fun ds ms K => q0q N (dk ds 0) (dk ds 1) (dk ds 2) (dm ms 0) (fun d1 m1 => K (V.ts 8 (Ty.int IntKind.i64) (C.elems (dk d1 0))) [])
theorem z1k (N : Nat) {R : Type} : GOk (X0 gl0) 19 (q3T N (R := R)) := by
 unfold q3T
 refine q1r fun ds ms K r hr => ?_
 rw [← z0D] at hr
 exact okB (q57 N) hr
end Go.Proofs.Yteaddgnjddjllaa
namespace Go.Proofs.Yteaddgnjddjllaa
open Go Go.E
set_option maxRecDepth 100000
set_option maxHeartbeats 4000000
set_option linter.unusedSimpArgs false
variable {R : Type} {N : Nat}
abbrev Ent := H32 × C × Int
def H5 (e : Ent) : C := .agg [c6 e.1, e.2.1, .int e.2.2]
def Q8 (e : Ent) : C × C := (c6 e.1, .agg [e.2.1, .int e.2.2])
theorem y7J {x y : H32} (h : c6 x = c6 y) : x = y := by
 have := congrArg q1m h
 rw [q4J, q4J] at this
 exact Subtype.ext this
theorem z4r (x y : H32) : C.beq (c6 x) (c6 y) = decide (x = y) := by
 by_cases h : x = y
 ·subst h; simp [(C.beq_iff _ _).2 rfl]
 ·cases hb : C.beq (c6 x) (c6 y) with
  | false => simp [h]
  | true => exact absurd (y7J ((C.beq_iff _ _).1 hb)) h
def q0Z (x : H32) : List Ent → Option Nat
 | [] => none
 | e :: l => if e.1 = x then some 0 else (q0Z x l).map (· + 1)
theorem z2V (x : H32) (e : Ent) (l : List Ent) : q0Z x (e :: l) = if e.1 = x then some 0 else (q0Z x l).map (· + 1) := rfl
theorem z7E {x : H32} : ∀ {l : List Ent} {i : Nat}, q0Z x l = some i → i < l.length
 | [], i, h => by cases h
 | e :: l, i, h => by
  unfold q0Z at h
  split at h
  ·cases h; simp
  ·obtain ⟨j, hj, rfl⟩ := Option.map_eq_some_iff.1 h
   have := z7E hj
   simp; omega
def zE : Ent := (default, .nil, 0)
theorem q89 (x : H32) : ∀ l : List Ent, q5p (l.map Q8) (c6 x) = (q0Z x l).isSome
 | [] => rfl
 | e :: l => by
  have ih := q89 x l
  simp only [List.map_cons, Q8, q5p, q0Z, z4r] at ih ⊢
  by_cases h : e.1 = x
  ·simp [h]
  ·have h' : ¬ x = e.1 := fun e => h e.symm
   simp [h, h', ih]
theorem z1D (x : H32) : ∀ (l : List Ent) (i : Nat), q0Z x l = some i → getM (l.map Q8) (c6 x) = .agg [(l.getD i zE).2.1, .int (l.getD i zE).2.2]
 | [], i, h => by cases h
 | e :: l, i, h => by
  have ih := z1D x l
  unfold q0Z at h
  simp only [List.map_cons, Q8, getM, z4r] at ih ⊢
  split at h
  ·rename_i he
   cases h
   simp [he]
  ·rename_i he
   obtain ⟨j, hj, rfl⟩ := Option.map_eq_some_iff.1 h
   have h' : ¬ x = e.1 := fun e => he e.symm
   simp [h', ih j hj]
theorem y0u (x : H32) (s : C) (t : Int) : ∀ l : List Ent, q0Z x l = none → z7D (l.map Q8) (c6 x) (.agg [s, .int t]) = (l ++ [(x, s, t)]).map Q8
 | [], _ => rfl
 | e :: l, h => by
  unfold q0Z at h
  split at h
  ·cases h
  ·rename_i he
   have h' : ¬ x = e.1 := fun e => he e.symm
   have hn : q0Z x l = none := by simpa using h
   have hb : ¬ C.beq (c6 x) (c6 e.1) = true := by rw [z4r]; simpa using h'
   simp only [List.map_cons, List.cons_append, Q8, z7D, if_neg hb]
   exact congrArg _ (y0u x s t l hn)
theorem q6M {l : List Ent} {i : Nat} (h : i < l.length) : (l.map H5).getD i .nil = H5 (l.getD i zE) := by
 rw [List.getD_eq_getElem?_getD, List.getElem?_map, List.getD_eq_getElem?_getD, List.getElem?_eq_getElem h]; rfl
def z6L (x : H32) (l : List Ent) : Int := match q0Z x l with
 | some i => i
 | none => -1
theorem z8R (x : H32) (l : List Ent) (hl : l.length < 4611686018427387904) (k1 k2 : KD R) : ∀ (m i M : Nat), i + m = l.length → m < M →
  k9 M (q0K N (.slice (l.map H5)) k1 k2) [c6 x, .int i] [] = (match q0Z x (l.drop i) with | some j => k1 [.int ((i + j : Nat) : Int)] [] | none => k2 [] [])
 | 0, i, M, hi, hM => by
  obtain ⟨M, rfl⟩ : ∃ a, M = a + 1 := ⟨M - 1, by omega⟩
  have e1 : ¬ (i : Int) < (l.length : Int) := by omega
  rw [j6, List.drop_of_length_le (by omega)]
  unfold q0K
  simp only [w6, u0, w7, w5, List.length_map, e1, decide_false, cond_false]
  rfl
 | m + 1, i, M, hi, hM => by
  obtain ⟨M, rfl⟩ : ∃ a, M = a + 1 := ⟨M - 1, by omega⟩
  have e1 : (i : Int) < (l.length : Int) := by omega
  have hil : i < l.length := by omega
  have ih := z8R x l hl k1 k2 m (i + 1) M (by omega) (by omega)
  have hd : l.drop i = l.getD i zE :: l.drop (i + 1) := by
   rw [List.drop_eq_getElem_cons hil, List.getD_eq_getElem?_getD, List.getElem?_eq_getElem hil]; rfl
  have hg : C.get (H5 (l.getD i zE)) 0 = c6 (l.getD i zE).1 := rfl
  have one : ∀ rec : KD R, q0K N (.slice (l.map H5)) k1 k2 rec [c6 x, .int i] [] = if (l.getD i zE).1 = x then k1 [.int i] [] else rec [c6 x, .int ((i + 1 : Nat) : Int)] [] := fun rec => by
   unfold q0K
   simp only [w6, u0, w7, w5, List.length_map, e1, decide_true, cond_true, Int.natCast_nonneg, and_self, if_true, Int.toNat_natCast, q6M hil, hg, z4r, c9 (show i < 4611686018427387904 by omega)]
   by_cases h : (l.getD i zE).1 = x
   ·rw [if_pos h, decide_eq_true h]; rfl
   ·rw [if_neg h, decide_eq_false h]; rfl
  rw [j6, one, hd, ih, z2V]
  by_cases h : (l.getD i zE).1 = x
  ·rw [if_pos h, if_pos h]; rfl
  ·rw [if_neg h, if_neg h]
   cases hp : q0Z x (l.drop (i + 1)) with
   | none => rfl
   | some j => simp only [Option.map_some]; rw [show i + 1 + j = i + (j + 1) by omega]
theorem find_eq (x : H32) (l : List Ent) (hl : l.length < 4611686018427387904) (hN : l.length < N) (a c : C) (k : KD R) : U3 N (c6 x) a (.slice (l.map H5)) c k = k [.int (z6L x l)] [] := by
 rw [q5X]
 unfold q1L
 simp only [u9]
 refine (z8R x l hl _ _ l.length 0 N (by omega) hN).trans ?_
 unfold z6L
 rw [List.drop_zero]
 cases q0Z x l with
 | none => rfl
 | some j => simp only [Nat.zero_add, w6]
theorem y2Y (x : H32) {i : Nat} (h : i < 32) : C.get (c6 x) i = .int ((x.1.getD i 0).toNat : Int) := by
 show (x.1.map _).getD i C.nil = _
 rw [List.getD_eq_getElem?_getD, List.getElem?_map, List.getD_eq_getElem?_getD, List.getElem?_eq_getElem (by rw [x.2]; exact h)]; rfl
theorem z8F (x y : H32) (k1 k2 : KD R) (hk : k2 [] [] = k1 [.bool false] []) : ∀ (m i M : Nat), i + m = 32 → m < M →
  k9 M (q3s N k1 k2) [c6 x, c6 y, .int i] [] = k1 [.bool (Op.bytesLess (x.1.drop i) (y.1.drop i))] []
 | 0, i, M, hi, hM => by
  obtain ⟨M, rfl⟩ : ∃ a, M = a + 1 := ⟨M - 1, by omega⟩
  have e1 : ¬ (i : Int) < 32 := by omega
  rw [j6, List.drop_of_length_le (by rw [x.2]; omega), List.drop_of_length_le (by rw [y.2]; omega)]
  unfold q3s
  simp only [w6, u0, o8, w7, e1, decide_false, cond_false]
  exact hk
 | m + 1, i, M, hi, hM => by
  obtain ⟨M, rfl⟩ : ∃ a, M = a + 1 := ⟨M - 1, by omega⟩
  have e1 : (i : Int) < 32 := by omega
  have ih := z8F x y k1 k2 hk m (i + 1) M (by omega) (by omega)
  have hx : x.1.drop i = x.1.getD i 0 :: x.1.drop (i + 1) := by
   rw [List.drop_eq_getElem_cons (by rw [x.2]; omega), List.getD_eq_getElem?_getD, List.getElem?_eq_getElem (by rw [x.2]; omega)]; rfl
  have hy : y.1.drop i = y.1.getD i 0 :: y.1.drop (i + 1) := by
   rw [List.drop_eq_getElem_cons (by rw [y.2]; omega), List.getD_eq_getElem?_getD, List.getElem?_eq_getElem (by rw [y.2]; omega)]; rfl
  have g1 := y2Y x (show i < 32 by omega)
  have g2 := y2Y y (show i < 32 by omega)
  have one : ∀ rec : KD R, q3s N k1 k2 rec [c6 x, c6 y, .int i] [] = if x.1.getD i 0 = y.1.getD i 0 then rec [c6 x, c6 y, .int ((i + 1 : Nat) : Int)] [] else k1 [.bool (decide (x.1.getD i 0 < y.1.getD i 0))] [] := fun rec => by
   unfold q3s
   generalize x.1.getD i 0 = u at *
   generalize y.1.getD i 0 = v at *
   simp only [w6, u0, o8, w7, e1, decide_true, cond_true, Int.natCast_nonneg, and_self, if_true, Int.toNat_natCast, g1, g2, c9 (show i < 4611686018427387904 by omega)]
   by_cases h : u = v
   ·subst h
    simp only [decide_true, Bool.not_true, cond_false, if_true]
   ·have hn : ¬ (u.toNat : Int) = (v.toNat : Int) := fun e => h (UInt8.toNat_inj.1 (by omega))
    have hl : decide ((u.toNat : Int) < (v.toNat : Int)) = decide (u < v) := by
     rw [decide_eq_decide, UInt8.lt_iff_toNat_lt]; omega
    simp only [hn, h, decide_false, Bool.not_false, cond_true, hl, if_false]
  rw [j6, one, hx, hy, ih]
  generalize x.1.getD i 0 = u at *
  generalize y.1.getD i 0 = v at *
  simp only [Op.bytesLess]
  by_cases h : u = v
  ·subst h
   have h1 : ¬ u < u := fun h => by rw [UInt8.lt_iff_toNat_lt] at h; omega
   simp [h1]
  ·have hb : (u == v) = false := by simpa using h
   rw [if_neg h]
   simp only [hb, Bool.false_and, Bool.or_false]
theorem y88 (x y : H32) (hN : 100 < N) (k : KD R) : q2Q N (c6 x) (c6 y) k = k [.bool (Op.bytesLess x.1 y.1)] [] := by
 rw [z1Y]
 unfold q5a
 simp only [u9]
 exact z8F x y _ _ rfl 32 0 N rfl (by omega)
end Go.Proofs.Yteaddgnjddjllaa
namespace Go.Proofs.Yteaddgnjddjllaa
open Go Go.E
set_option maxRecDepth 100000
set_option maxHeartbeats 4000000
set_option linter.unusedSimpArgs false
variable {R : Type} {N : Nat}
def z6u (s : C) : C := z2I (q2Z (.int 6) [C.slice (cut (C.elems s) 0 32)])
def Sec (s : C) : Prop := s.elems.length = 32 ∧ ∀ c ∈ s.elems, F6 c
theorem z6t (s : C) (hs : Sec s) : q9l 100 [C.slice (cut (C.elems s) 0 32)] := fun x hx => by
 rw [List.mem_singleton.1 hx]
 refine ⟨rfl, fun c hc => ?_, by simp [w5, cut]; omega⟩
 simp only [w5, cut] at hc
 exact hs.2 c (List.mem_of_mem_take (List.mem_of_mem_drop hc))
theorem z5q (s : C) (hs : Sec s) : (q2Z (.int 6) [C.slice (cut (C.elems s) 0 32)]).length = 38 := by
 simp [q2Z, q0B, q7T, w5, cut, hs.1]
theorem y75 : F6 (.int 6) := ⟨rfl, by decide, by decide⟩
theorem y85 (s : C) (hs : Sec s) (hN : 5000 < N) (hN2 : N < 4611686018427387904) (k : KD R) : q1b N s k = k [z6u s] [] := by
 rw [q80]
 unfold q4k
 have := x1m (R := R) (N := N) (.int 6) y75 [C.slice (cut (C.elems s) 0 32)] 100 (z6t s hs) (by simp; omega) (by omega) hN2 (by rw [z5q s hs]; omega)
 simp only [this, w6]
 rfl
theorem y6X (t : C) (ht : q6p t) (s : C) (hs : Sec s) (hN : 5000 < N) (k : KD R) : q0p N t s k = k [z6u s] [] := by
 rw [q50]
 unfold q1N
 have := y9I (R := R) (N := N) t ht (.int 6) y75 [C.slice (cut (C.elems s) 0 32)] 100 (z6t s hs) (by omega) (by simp) (by rw [z5q s hs]; omega) (by rw [z5q s hs]; simp; omega)
 simp only [this, w6]
 rfl
theorem y8R (p : List C) : ∃ x : H32, z2I p = c6 x := by
 have h8 : ((q0N p.length).foldl feed ((q0g p.length).foldl feed (p.foldl feed (ivW, [])))).1.length = 8 := by
  rw [← List.foldl_append, ← List.foldl_append]; exact y1o rfl _ _
 unfold z2I
 generalize ((q0N p.length).foldl feed ((q0g p.length).foldl feed (p.foldl feed (ivW, [])))).1 = h at h8
 refine ⟨⟨(h.flatMap fun x => b4 x.toNat).map fun c => UInt8.ofNat c.toInt.toNat, by rw [List.length_map, z4n, h8]⟩, ?_⟩
 unfold z1L c6
 simp only [List.map_map]
 congr 1
 refine ((List.map_congr_left fun c hc => ?_).trans (List.map_id _)).symm
 obtain ⟨w, _, hc⟩ := List.mem_flatMap.1 hc
 obtain ⟨e1, e2, e3⟩ := z7g _ c hc
 simp only [Function.comp, id]
 rw [e1]
 simp only [w7]
 congr 1
 have : (UInt8.ofNat c.toInt.toNat).toNat = c.toInt.toNat := by simp; omega
 rw [this]; omega
def q4v (l : List Ent) (x : H32) (s : C) (t : Int) : Int × List Ent := match q0Z x l with
 | some _ => (7, l)
 | none => (0, l ++ [(x, s, t)])
theorem y6n (s : C) (hs : Sec s) (x : H32) (hx : z6u s = c6 x) (t : Int) (a b : C) (l : List Ent) (hN : 5000 < N) (hN2 : N < 4611686018427387904) (k : KD R) :
  X8 N s (.int t) a b (l.map Q8) k = k [.int (q4v l x s t).1] [(q4v l x s t).2.map Q8] := by
 rw [q2X]
 unfold q0z
 have e : dm [(l.map Q8)] 0 = l.map Q8 := rfl
 simp only [y85 s hs hN hN2, w6, hx, e, q9j, z0K, z5i, J3, q0t, q89]
 unfold q4v
 cases hp : q0Z x l with
 | some i => simp only [Option.isSome_some, cond_true, if_true]
 | none =>
  have hset : C.set (C.set (C.agg [C.agg (List.replicate 32 (C.int 0)), C.int 0]) 0 s) 1 (C.int t) = .agg [s, .int t] := rfl
  simp only [Option.isSome_none, cond_true, cond_false, if_true, hset, y0u x s t l hp]
theorem y6G (s : C) (hs : Sec s) (x : H32) (hx : z6u s = c6 x) (t : Int) (T : C) (hT : q6p T) (l : List Ent) (hl : l.length ≤ 1000) (hN : 5000 < N) (b1 : C) (k : KD R) :
  q0o N s (.int t) T (.slice (l.map H5)) b1 k = k [.int (q4v l x s t).1, T, .slice ((q4v l x s t).2.map H5)] [] := by
 rw [q5U]
 unfold q1K
 have hf := fun (a c : C) (k : KD R) => find_eq (N := N) x l (by omega) (by omega) a c k
 simp only [u9, y6X T hT s hs hN, w6, hx, w5, hf, w7]
 unfold q4v z6L
 cases hp : q0Z x l with
 | some i =>
  have : (0 : Int) ≤ (i : Int) := by omega
  simp only [this, decide_true, cond_true, u0, o8, w5]
 | none =>
  have h0 : ¬ (0 : Int) ≤ -1 := by decide
  have g1 : (l.length + 1) * 72 ≤ 140737488355328 ∧ l.length + 1 ≤ 9223372036854775807 := by omega
  simp only [h0, decide_false, cond_false, List.length_map, List.length_append, List.length_cons, List.length_nil, Nat.zero_add, Nat.beq_refl, cond_true, g1, and_self, if_true, List.map_append, List.map_cons, List.map_nil]
  rfl
end Go.Proofs.Yteaddgnjddjllaa
namespace Go.Proofs.Yteaddgnjddjllaa
open Go Go.E
set_option maxRecDepth 100000
set_option maxHeartbeats 4000000
set_option linter.unusedSimpArgs false
variable {R : Type} {N : Nat}
theorem y4W (c x : C) (h : H32) (hc : c.get 3 = c6 h) (height : Int) (l : List Ent) (hl : l.length ≤ 1000) (hN : 5000 < N) (b0 : C) (k : KD R) :
  q0X N c (.int height) b0 (.slice (l.map H5)) k = k [.int (ofP (l.map Q8) c height)] [] := by
 have hf := fun (a c : C) (k : KD R) => find_eq (N := N) h l (by omega) (by omega) a c k
 rw [q7y]
 unfold q2v ofP inT
 simp only [u9, hc, w5, hf, w6, w7, q89]
 unfold z6L
 cases hp : q0Z h l with
 | none =>
  have h0 : ¬ (0 : Int) ≤ -1 := by decide
  simp only [h0, decide_false, cond_false, w6, u0, o8, J8, w7, Option.isSome_none, Bool.false_and, Bool.false_eq_true, if_false]
  by_cases h2 : (c.get 4).toInt < height
  ·simp only [h2, decide_true, cond_true, if_true]
  ·simp only [h2, decide_false, cond_false, if_false]
 | some i =>
  have hi := z7E hp
  have h0 : (0 : Int) ≤ (i : Int) := by omega
  have h1 : (0 : Int) ≤ (i : Int) ∧ (i : Int) < ((l.map H5).length : Int) := by rw [List.length_map]; omega
  have hg := z1D h l i hp
  have g2 : C.get (H5 (l.getD i zE)) 2 = .int (l.getD i zE).2.2 := rfl
  have g1 : C.get (.agg [(l.getD i zE).2.1, .int (l.getD i zE).2.2]) 1 = .int (l.getD i zE).2.2 := rfl
  simp only [h0, h1, decide_true, cond_true, and_self, if_true, w6, u0, o8, J8, w7, Int.toNat_natCast, q6M hi, g2, g1, hg, Option.isSome_some, Bool.true_and]
  by_cases h3 : (l.getD i zE).2.2 ≤ (c.get 4).toInt
  ·simp only [h3, decide_true, cond_true, if_true]
  ·simp only [h3, decide_false, cond_false, Bool.false_eq_true, if_false]
   by_cases h2 : (c.get 4).toInt < height
   ·simp only [h2, decide_true, cond_true, if_true]
   ·simp only [h2, decide_false, cond_false, if_false]
theorem all_eq (hgt : Int) (L : List C) (m : Es) (hL : L.length ≤ 1000) (hN : 5000 < N) (b0 : C) (k : KD R) :
  q0q N (.int hgt) (.slice L) b0 m k = k [.slice (L.map fun c => .int (ofP m c hgt))] [] := by
 rw [q56]
 unfold q0L
 simp only [u9, w5]
 have key := U9 (F := q1Q N m fun d1 m1 => bif Nat.beq (List.length (C.elems (dk d1 0))) (List.length (C.elems (dk d1 0))) then k [C.slice (C.elems (dk d1 0))] [] else none) (fun i => [.int hgt, .slice L, .int (L.length : Int), .slice ((L.take i).map fun c => .int (ofP m c hgt)), .int (i : Nat)]) (fun _ => []) L.length (k [.slice (L.map fun c => .int (ofP m c hgt))] []) ?_ ?_ (N := N) (by omega)
 ·exact key
 ·intro i hi rec
  have e1 : (i : Int) < (L.length : Int) := by omega
  have hl : (List.map (fun c => C.int (ofP m c hgt)) (L.take i)).length = i := by rw [List.length_map, List.length_take]; omega
  have g1 : (i + 1) * 8 ≤ 140737488355328 ∧ i + 1 ≤ 9223372036854775807 := by omega
  have et : List.map (fun c => C.int (ofP m c hgt)) (L.take (i + 1)) = List.map (fun c => C.int (ofP m c hgt)) (L.take i) ++ [C.int (ofP m (L.getD i .nil) hgt)] := by
   rw [List.take_add_one, List.getElem?_eq_getElem hi, List.map_append, List.getD_eq_getElem?_getD, List.getElem?_eq_getElem hi]; rfl
  unfold q1Q
  simp only [w6, u0, o8, j9, Y3, w7, w5, e1, decide_true, cond_true, Int.natCast_nonneg, and_self, if_true, Int.toNat_natCast, q5s, J3, q0t, of_eq, hl, g1, Nat.beq_refl, List.length_append, List.length_cons, List.length_nil, Nat.zero_add, c9 (show i < 4611686018427387904 by omega)]
  rw [et]
 ·intro rec
  unfold q1Q
  simp only [w6, u0, o8, j9, Y3, w7, w5, Int.lt_irrefl, decide_false, cond_false, Nat.beq_refl, cond_true, List.take_length, w6]
def q6g (l : List H32) (x : H32) : List H32 := l.takeWhile (fun y => Op.bytesLess y.1 x.1) ++ x :: l.dropWhile (fun y => Op.bytesLess y.1 x.1)
theorem z3p (l : List H32) (x : H32) : (q6g l x).Perm (l ++ [x]) := by
 unfold q6g
 refine (List.perm_middle).trans ?_
 rw [List.takeWhile_append_dropWhile]
 exact (List.perm_append_singleton x l).symm
def z4t (l : List H32) : Prop := l.Pairwise fun a b => Op.bytesLess b.1 a.1 = false
theorem x2i {x y : List UInt8} (h : Op.bytesLess x y = true) : Op.bytesLess y x = false := by
 cases h2 : Op.bytesLess y x with
 | false => rfl
 | true => have := z7e _ _ _ h h2; rw [z7f] at this; cases this
theorem z8K (x : H32) : ∀ l : List H32, z4t l → z4t (q6g l x)
 | [], _ => by simp [q6g, z4t]
 | y :: l, h => by
  have ih := z8K x l (List.Pairwise.of_cons h)
  unfold q6g at ih ⊢
  by_cases hy : Op.bytesLess y.1 x.1 = true
  ·simp only [List.takeWhile_cons, List.dropWhile_cons, hy, if_true, List.cons_append]
   refine List.pairwise_cons.2 ⟨fun b hb => ?_, ih⟩
   have hb' := (z3p l x).mem_iff.1 hb
   rcases List.mem_append.1 hb' with hb' | hb'
   ·exact (List.pairwise_cons.1 h).1 b hb'
   ·rw [List.mem_singleton.1 hb']; exact x2i hy
  ·simp only [List.takeWhile_cons, List.dropWhile_cons, hy, Bool.false_eq_true, if_false, List.nil_append]
   refine List.pairwise_cons.2 ⟨fun b hb => ?_, h⟩
   have hy' : Op.bytesLess y.1 x.1 = false := by simpa using hy
   rcases List.mem_cons.1 hb with rfl | hb
   ·exact hy'
   ·exact y6r ((List.pairwise_cons.1 h).1 b hb) hy'
def q7N (l : List H32) : List H32 := l.foldl q6g []
theorem z8L : ∀ (l a : List H32), z4t a → z4t (l.foldl q6g a) ∧ (l.foldl q6g a).Perm (a ++ l)
 | [], a, h => ⟨h, by simp⟩
 | x :: l, a, h => by
  obtain ⟨h1, h2⟩ := z8L l (q6g a x) (z8K x a h)
  refine ⟨h1, h2.trans ?_⟩
  have := (z3p a x).append_right l
  simpa using this
theorem z9w (l : List Ent) : (q7N (l.map (·.1))).map c6 = q22 (l.map Q8) := by
 obtain ⟨h1, h2⟩ := z8L (l.map (·.1)) [] List.Pairwise.nil
 have h1 : z4t (q7N (l.map (·.1))) := h1
 unfold q22
 refine z4C (xs := l.map (·.1)) ?_ (by simpa [q7N] using h2) fun i j hij hj => ?_
 ·rw [List.map_map, List.map_map]; rfl
 ·rw [z3j, getElem!_pos _ j hj, getElem!_pos _ i (by omega)]
  exact List.pairwise_iff_getElem.1 h1 i j (by omega) hj hij
theorem y67 (l : List H32) (x : H32) : (q6g l x).length = l.length + 1 := by
 have := (z3p l x).length_eq; simpa using this
theorem y4J {α : Type} (p : α → Bool) : ∀ {l : List α}, (∀ y ∈ l, p y = true) → l.takeWhile p = l
 | [], _ => rfl
 | x :: l, h => by
  simp only [List.takeWhile_cons, h x (by simp), if_true]
  rw [y4J p fun y hy => h y (by simp [hy])]
theorem z96 {α : Type} (p : α → Bool) : ∀ (a : List α) (z : α) (b : List α), (∀ y ∈ a, p y = true) → p z = false → (a ++ z :: b).takeWhile p = a
 | [], z, b, _, h => by simp [List.takeWhile_cons, h]
 | x :: a, z, b, ha, h => by
  rw [List.cons_append, List.takeWhile_cons, ha x (by simp)]
  rw [if_pos rfl, z96 p a z b (fun y hy => ha y (by simp [hy])) h]
theorem y3j (l : List Ent) (out : List H32) (i : Nat) (hi : i < l.length) (hl : l.length ≤ 1000) (ho : out.length ≤ 1000) (hN : 5000 < N) (K : KD R) : ∀ (m j M : Nat), j + m = out.length → m < M → (∀ q, q < j → Op.bytesLess (out.getD q default).1 (l.getD i zE).1.1 = true) →
  k9 M (q0u N (.slice (l.map H5)) K) [.slice (out.map c6), .int i, .int j] [] = K [.slice (out.map c6), .int i, .int ((out.takeWhile fun y => Op.bytesLess y.1 (l.getD i zE).1.1).length : Nat)] []
 | 0, j, M, hj, hM, hq => by
  obtain ⟨M, rfl⟩ : ∃ a, M = a + 1 := ⟨M - 1, by omega⟩
  have e1 : ¬ (j : Int) < (out.length : Int) := by omega
  have ht : out.takeWhile (fun y => Op.bytesLess y.1 (l.getD i zE).1.1) = out := by
   refine y4J _ fun y hy => ?_
   obtain ⟨q, hq1, rfl⟩ := List.mem_iff_getElem.1 hy
   have := hq q (by omega)
   rwa [List.getD_eq_getElem?_getD, List.getElem?_eq_getElem hq1] at this
  rw [j6, ht]
  unfold q0u
  simp only [u9, w6, u0, o8, j9, w7, w5, J8, List.length_map, e1, decide_false, cond_false]
  rw [show j = out.length by omega]
 | m + 1, j, M, hj, hM, hq => by
  obtain ⟨M, rfl⟩ : ∃ a, M = a + 1 := ⟨M - 1, by omega⟩
  have hjl : j < out.length := by omega
  have e1 : (j : Int) < (out.length : Int) := by omega
  have e2 : (i : Int) < (l.length : Int) := by omega
  have ih := y3j l out i hi hl ho hN K m (j + 1) M (by omega) (by omega)
  have gk : (out.map c6).getD j .nil = c6 (out.getD j default) := by
   rw [List.getD_eq_getElem?_getD, List.getElem?_map, List.getD_eq_getElem?_getD, List.getElem?_eq_getElem hjl]; rfl
  have g0 : C.get (H5 (l.getD i zE)) 0 = c6 (l.getD i zE).1 := rfl
  have hle := fun k : KD R => y88 (N := N) (out.getD j default) (l.getD i zE).1 (by omega) k
  have one : ∀ rec : KD R, q0u N (.slice (l.map H5)) K rec [.slice (out.map c6), .int i, .int j] [] = if Op.bytesLess (out.getD j default).1 (l.getD i zE).1.1 = true then rec [.slice (out.map c6), .int i, .int ((j + 1 : Nat) : Int)] [] else K [.slice (out.map c6), .int i, .int j] [] := fun rec => by
   unfold q0u
   simp only [u9, w6, u0, o8, j9, w7, w5, J8, List.length_map, e1, e2, decide_true, cond_true, Int.natCast_nonneg, and_self, if_true, Int.toNat_natCast, gk, q6M hi, g0, hle, c9 (show j < 4611686018427387904 by omega)]
   cases Op.bytesLess (out.getD j default).1 (l.getD i zE).1.1 <;> rfl
  rw [j6, one]
  by_cases h : Op.bytesLess (out.getD j default).1 (l.getD i zE).1.1 = true
  ·rw [if_pos h]
   refine ih fun q hqj => ?_
   by_cases hqe : q = j
   ·subst hqe; exact h
   ·exact hq q (by omega)
  ·rw [if_neg h]
   have ht : (out.takeWhile fun y => Op.bytesLess y.1 (l.getD i zE).1.1).length = j := by
    have hs : out = out.take j ++ out.getD j default :: out.drop (j + 1) := by
     conv => lhs; rw [← List.take_append_drop j out, List.drop_eq_getElem_cons hjl]
     rw [List.getD_eq_getElem?_getD, List.getElem?_eq_getElem hjl]; rfl
    have h2 := z96 (fun y : H32 => Op.bytesLess y.1 (l.getD i zE).1.1) (out.take j) (out.getD j default) (out.drop (j + 1)) (fun y hy => by
     obtain ⟨q, hq1, rfl⟩ := List.mem_iff_getElem.1 hy
     have hq2 : q < j := by rw [List.length_take] at hq1; omega
     have := hq q hq2
     rw [List.getD_eq_getElem?_getD, List.getElem?_eq_getElem (by omega)] at this
     simpa using this) (by simpa using h)
    rw [← hs] at h2
    rw [h2, List.length_take]
    omega
   rw [ht]
end Go.Proofs.Yteaddgnjddjllaa
namespace Go.Proofs.Yteaddgnjddjllaa
open Go Go.E
set_option maxRecDepth 100000
set_option maxHeartbeats 4000000
set_option linter.unusedVariables false
noncomputable def y2l : Hints := [([9], ⟨[], [(2, .as (.ptr (.l 2) [] Y0))], [], [(.l 2, .box (.d Y0))], [], []⟩)]
noncomputable def z4Q (N : Nat) : OvS (X0 gl0) where
 g R := []
 ok := fun R => fun _ h => nomatch h
noncomputable def q7e {R : Type} (N : Nat) (a0 : C) (k1 : KD R) : Option R := (k1 [C.set (C.set (C.set (C.set (C.set (C.agg [C.int 0, C.int 0, C.int 0, C.agg (List.replicate 32 (C.int 0)), C.int 0]) 0 (C.get a0 0)) 1 (C.get a0 1)) 2 (C.get a0 2)) 3 (C.get a0 3)) 4 (C.get a0 4)] [])
noncomputable def q4F {R : Type} (N : Nat) : C → KD R → Option R := lid "" (q7e N)
theorem z4P {R : Type} (N : Nat) (a0 : C) (k : KD R) : q4F N a0 k = q7e N a0 k := by unfold q4F; rw [Z9]
theorem y09 {R : Type} (N : Nat) (a0 : C) (K : V → List (Key × O) → Option R) : exF (X0 gl0) ((z4Q N).ov R) F0 (fun f r => bif Nat.beq f 17 then (bif Nat.beq r 0 then [(1, 5)] else []) else []) (fun f => bif Nat.beq f 17 then y2l else []) N 400 8 17 [.d Y0 a0] A0 K =
  q4F N a0 (fun d1 m1 => K (V.d Y0 (dk d1 0)) []) := by
 rw [z4P]
 exact (show _ = jn (fun d1 m1 => (K (V.d Y0 (dk d1 0)) [])) (q7e N a0) by kernel_rfl).trans (u9 _ _)
noncomputable def z1s (N : Nat) {R : Type} : OvG R := fun xs _ K => match xs with
 | [.d t0 a0] => if t0 = Y0 then q4F N a0 (fun d1 m1 => K (V.d Y0 (dk d1 0)) []) else none
 | _ => none
theorem y2k (N : Nat) {R : Type} : GOk (X0 gl0) 17 (z1s N (R := R)) := by
 intro xs A Kr r hr
 unfold z1s at hr
 split at hr
 ·simp only [Option.ite_none_right_eq_some] at hr
  obtain ⟨hty, hr⟩ := hr
  subst hty
  rw [← y09] at hr
  exact okA (z4Q N) hr
 ·cases hr
noncomputable def z1u : Hints := [([1, 0, 1, 1, 1], ⟨[1, 2, 7, 8], [], [], [(.l 34, .box (.agg c4 [.d o6, .ts 72 b7]))], [], []⟩),
  ([4, 1, 0, 1, 1, 1], ⟨[1, 2, 7, 8, 35, 36], [(37, .d (.int .i64))], [], [(.l 34, .box (.agg c4 [.d o6, .ts 72 b7]))], [], []⟩),
  ([0, 1, 1, 4, 0, 1, 1, 5, 4, 1, 0, 1, 1, 1], ⟨[1, 2, 7, 8, 35, 36, 37], [(66, .d .bool)], [], [(.l 34, .box (.agg c4 [.d o6, .ts 72 b7]))], [], []⟩),
  ([1, 0, 1, 1, 1, 1], ⟨[1, 2, 7, 8], [], [], [(.l 34, .box (.agg c4 [.d o6, .ts 72 b7]))], [], []⟩),
  ([4, 1, 0, 1, 1, 1, 1], ⟨[1, 2, 7, 8, 71, 72], [(73, .d (.int .i64))], [], [(.l 34, .box (.agg c4 [.d o6, .ts 72 b7]))], [], []⟩),
  ([0, 1, 1, 1, 4, 0, 1, 1, 5, 4, 1, 0, 1, 1, 1, 1], ⟨[1, 2, 7, 8, 71, 72, 73], [(108, .d .bool)], [], [(.l 34, .box (.agg c4 [.d o6, .ts 72 b7]))], [], []⟩),
  ([1, 0, 1, 1, 1, 1, 1, 1, 1], ⟨[1, 2, 7, 8], [], [], [(.l 34, .box (.agg c4 [.d o6, .ts 72 b7]))], [], []⟩),
  ([4, 1, 0, 1, 1, 1, 1, 1, 1, 1], ⟨[1, 2, 7, 8, 17, 18, 120], [(121, .d (.int .i64))], [], [(.l 34, .box (.agg c4 [.d o6, .ts 72 b7]))], [], []⟩),
  ([1, 0, 1, 1, 1, 1, 1, 1, 1, 1, 1], ⟨[1, 2, 7, 8], [(20, .sl 64 Y0 5020)], [], [(.l 34, .box (.agg c4 [.d o6, .ts 72 b7]))], [], []⟩),
  ([4, 1, 0, 1, 1, 1, 1, 1, 1, 1, 1, 1], ⟨[1, 2, 7, 8, 134, 135], [(20, .sl 64 Y0 5020), (136, .d (.int .i64))], [], [(.l 34, .box (.agg c4 [.d o6, .ts 72 b7]))], [], []⟩),
  ([0, 1, 1, 1, 4, 0, 1, 1, 5, 4, 1, 0, 1, 1, 1, 1, 1, 1, 1, 1, 1], ⟨[1, 2, 7, 8, 134, 135, 136], [(20, .sl 64 Y0 5020), (170, .d .bool)], [], [(.l 34, .box (.agg c4 [.d o6, .ts 72 b7]))], [], []⟩),
  ([1, 0, 1, 1, 1, 1, 1, 1, 1, 1, 1, 1, 1], ⟨[1, 24], [], [], [(.l 34, .box (.agg c4 [.d o6, .ts 72 b7]))], [], []⟩),
  ([4, 1, 0, 1, 1, 1, 1, 1, 1, 1, 1, 1, 1, 1], ⟨[1, 2, 7, 8, 24, 176, 177], [(20, .sl 64 Y0 5020), (178, .d (.int .i64))], [], [(.l 34, .box (.agg c4 [.d o6, .ts 72 b7]))], [], []⟩),
  ([0, 1, 4, 0, 1, 1, 5, 4, 1, 0, 1, 1, 1, 1, 1, 1, 1, 1, 1, 1, 1], ⟨[1, 2, 7, 8, 24, 176, 177, 178], [(20, .sl 64 Y0 5020), (211, .d .bool)], [], [(.l 34, .box (.agg c4 [.d o6, .ts 72 b7]))], [], []⟩),
  ([0, 1, 1, 1, 1, 1, 1, 1, 1, 1, 1, 1, 1], ⟨[], [(6, .d .bool)], [], [(.l 34, .box (.agg c4 [.d o6, .ts 72 b7]))], [], []⟩),
  ([9], ⟨[], [(6, .d .bool)], [], [], [], []⟩)]
noncomputable def q6d (N : Nat) : OvS (X0 gl0) where
 g R := [(7, q1O N), (8, q1P N), (10, q74 N), (12, q2D N), (13, q2y N), (14, q8M N), (15, q3O N), (16, q2R N), (17, z1s N), (18, q00 N), (19, q3T N), (20, q4N N), (21, q1i N)]
 ok := fun R => List.forall_mem_cons.2 ⟨q5y N, List.forall_mem_cons.2 ⟨q5B N, List.forall_mem_cons.2 ⟨z7M N, List.forall_mem_cons.2 ⟨q9o N, List.forall_mem_cons.2 ⟨q6A N, List.forall_mem_cons.2 ⟨z9g N, List.forall_mem_cons.2 ⟨z1a N, List.forall_mem_cons.2 ⟨q9X N, List.forall_mem_cons.2 ⟨y2k N, List.forall_mem_cons.2 ⟨q3d N, List.forall_mem_cons.2 ⟨z1k N, List.forall_mem_cons.2 ⟨z2R N, List.forall_mem_cons.2 ⟨q3Q N, fun _ h => nomatch h⟩⟩⟩⟩⟩⟩⟩⟩⟩⟩⟩⟩⟩
noncomputable def q0T {R : Type} (N : Nat) (k1 : KD R) (k2 : KD R) : KD R → List C → List Es → Option R := (fun k3 d8 m8 => (bif decide (C.toInt (dk d8 6) < C.toInt (dk d8 4)) then (if 0 ≤ C.toInt (dk d8 6) ∧ C.toInt (dk d8 6) < (↑(List.length (C.elems (dk d8 3))) : Int) then (jn (fun d9 m9 => (bif C.toBool (dk d9 7) then (k1 [C.bool false] []) else (bif Nat.beq (List.length (C.elems (dk d9 6))) (List.length (C.elems (dk d9 6))) then (if X4 z7 (dE z7 (dm m9 0)) = true then (k3 [dk d9 0, dk d9 1, dk d9 2, dk d9 3, dk d9 4, C.slice (C.elems (dk d9 6)), C.int (IntKind.wrap IntKind.i64 (C.toInt (dk d9 5) + 1)), dk d9 8, C.slice (C.elems (dk d9 9))] [unE (dE z7 (dm m9 0))]) else none) else none))) (fun k4 => (bif decide ((↑(List.length (C.elems (dk d8 2))) : Int) ≤ C.toInt (dk d8 6)) then (bif Nat.beq (List.length (C.elems (dk d8 5))) (List.length (C.elems (dk d8 5))) then (if X4 z7 (dE z7 (dm m8 0)) = true then (k4 [dk d8 0, dk d8 1, dk d8 2, dk d8 3, dk d8 4, dk d8 6, C.slice (C.elems (dk d8 5)), C.bool true, dk d8 7, C.slice (C.elems (dk d8 8))] [unE (dE z7 (dm m8 0))]) else none) else none) else (if 0 ≤ C.toInt (dk d8 6) ∧ C.toInt (dk d8 6) < (↑(List.length (C.elems (dk d8 2))) : Int) then (q0X N (List.getD (C.elems (dk d8 3)) (Int.toNat (C.toInt (dk d8 6))) C.nil) (dk d8 1) (dk d8 7) (C.slice (C.elems (dk d8 8))) (fun d9 m9 => (bif !decide (C.toInt (List.getD (C.elems (dk d8 2)) (Int.toNat (C.toInt (dk d8 6))) C.nil) = C.toInt (dk d9 0)) then (bif Nat.beq (List.length (C.elems (dk d8 5))) (List.length (C.elems (dk d8 5))) then (if X4 z7 (dE z7 (dm m8 0)) = true then (k4 [dk d8 0, dk d8 1, dk d8 2, dk d8 3, dk d8 4, dk d8 6, C.slice (C.elems (dk d8 5)), C.bool true, dk d8 7, C.slice (C.elems (dk d8 8))] [unE (dE z7 (dm m8 0))]) else none) else none) else (if 0 ≤ C.toInt (dk d8 6) ∧ C.toInt (dk d8 6) < (↑(List.length (C.elems (dk d8 2))) : Int) then (if 0 ≤ C.toInt (dk d8 6) ∧ C.toInt (dk d8 6) < (↑(List.length (C.elems (dk d8 5))) : Int) then (if X4 z7 (List.map (fun c => (Prod.fst c, V.ren (swU (Key.l 2) (x8 (if Key.l 1 = x8 [] (Key.l 32003) then [] else [] ++ [(Key.l 1, x8 [] (Key.l 32003))]) (Key.l 32001))) id (Prod.snd c))) (List.map (fun c => (Prod.fst c, V.ren (swU (Key.l 1) (x8 [] (Key.l 32003))) id (Prod.snd c))) (List.map (fun c => (Prod.fst c, V.ren Key.g id (Prod.snd c))) (dE z7 (dm m8 0))))) = true then (X9 N (List.getD (C.elems (dk d8 5)) (Int.toNat (C.toInt (dk d8 6))) C.nil) (dk d8 1) C.nil (unE (List.map (fun c => (Prod.fst c, V.ren (swU (Key.l 2) (x8 (if Key.l 1 = x8 [] (Key.l 32003) then [] else [] ++ [(Key.l 1, x8 [] (Key.l 32003))]) (Key.l 32001))) id (Prod.snd c))) (List.map (fun c => (Prod.fst c, V.ren (swU (Key.l 1) (x8 [] (Key.l 32003))) id (Prod.snd c))) (List.map (fun c => (Prod.fst c, V.ren Key.g id (Prod.snd c))) (dE z7 (dm m8 0)))))) (fun d10 m10 => (bif Nat.beq (List.length (C.elems (dk d8 5))) (List.length (C.elems (dk d8 5))) then (if X4 z7 (dE z7 (dm m8 0)) = true then (k4 [dk d8 0, dk d8 1, dk d8 2, dk d8 3, dk d8 4, dk d8 6, C.slice (C.elems (dk d8 5)), C.bool !decide (C.toInt (List.getD (C.elems (dk d8 2)) (Int.toNat (C.toInt (dk d8 6))) C.nil) = C.toInt (dk d10 0)), dk d8 7, C.slice (C.elems (dk d8 8))] [unE (dE z7 (dm m8 0))]) else none) else none))) else none) else none) else none)))) else none)))) else none) else (k2 [dk d8 0, dk d8 2, dk d8 7, C.slice (C.elems (dk d8 8))] [])))
noncomputable def q0S {R : Type} (N : Nat) (k1 : KD R) (k2 : KD R) : KD R → List C → List Es → Option R := (fun k3 d6 m6 => (bif decide (C.toInt (dk d6 5) < C.toInt (dk d6 3)) then (if 0 ≤ C.toInt (dk d6 5) ∧ C.toInt (dk d6 5) < (↑(List.length (C.elems (dk d6 2))) : Int) then (q4F N (List.getD (C.elems (dk d6 2)) (Int.toNat (C.toInt (dk d6 5))) C.nil) (fun d7 m7 => (bif Nat.beq (List.length (C.elems (dk d6 4))) (List.length (C.elems (dk d6 4))) then (if (List.length (C.elems (dk d6 4)) + 1) * 64 ≤ 140737488355328 ∧ List.length (C.elems (dk d6 4)) + 1 ≤ 9223372036854775807 then (U3 N (C.get (List.getD (C.elems (dk d6 2)) (Int.toNat (C.toInt (dk d6 5))) C.nil) 3) (dk d6 6) (C.slice (C.elems (dk d6 7))) C.nil (fun d8 m8 => (jn (fun d9 m9 => (bif C.toBool (dk d9 6) then (k1 [C.bool false] []) else (bif Nat.beq (List.length (C.elems (dk d9 5))) (List.length (C.elems (dk d9 5))) then (if X4 z7 (dE z7 (dm m9 0)) = true then (k3 [dk d9 0, dk d9 1, dk d9 2, dk d9 3, C.slice (C.elems (dk d9 5)), C.int (IntKind.wrap IntKind.i64 (C.toInt (dk d9 4) + 1)), dk d9 7, C.slice (C.elems (dk d9 8))] [unE (dE z7 (dm m9 0))]) else none) else none))) (fun k4 => (if X4 z7 (List.map (fun c => (Prod.fst c, V.ren (swU (Key.l 2) (x8 (if Key.l 1 = x8 [] (Key.l 32003) then [] else [] ++ [(Key.l 1, x8 [] (Key.l 32003))]) (Key.l 32001))) id (Prod.snd c))) (List.map (fun c => (Prod.fst c, V.ren (swU (Key.l 1) (x8 [] (Key.l 32003))) id (Prod.snd c))) (List.map (fun c => (Prod.fst c, V.ren Key.g id (Prod.snd c))) (dE z7 (dm m6 0))))) = true then (F9 N (C.get (List.getD (C.elems (dk d6 2)) (Int.toNat (C.toInt (dk d6 5))) C.nil) 3) (C.get (List.getD (C.elems (dk d6 2)) (Int.toNat (C.toInt (dk d6 5))) C.nil) 4) C.nil C.nil (unE (List.map (fun c => (Prod.fst c, V.ren (swU (Key.l 2) (x8 (if Key.l 1 = x8 [] (Key.l 32003) then [] else [] ++ [(Key.l 1, x8 [] (Key.l 32003))]) (Key.l 32001))) id (Prod.snd c))) (List.map (fun c => (Prod.fst c, V.ren (swU (Key.l 1) (x8 [] (Key.l 32003))) id (Prod.snd c))) (List.map (fun c => (Prod.fst c, V.ren Key.g id (Prod.snd c))) (dE z7 (dm m6 0)))))) (fun d9 m9 => (bif decide (0 ≤ C.toInt (dk d8 0)) then (if 0 ≤ C.toInt (dk d8 0) ∧ C.toInt (dk d8 0) < (↑(List.length (C.elems (dk d6 7))) : Int) then (bif Nat.beq (List.length (C.elems (dk d6 4)) + 1) (List.length (C.elems (dk d6 4) ++ [dk d7 0])) then (if X4 z7 (dE z7 (dm m6 0)) = true then (k4 [dk d6 0, dk d6 1, dk d6 2, dk d6 3, dk d6 5, C.slice (C.elems (dk d6 4) ++ [dk d7 0]), C.bool !C.toBool (dk d9 0) == decide (C.toInt (C.get (List.getD (C.elems (dk d6 7)) (Int.toNat (C.toInt (dk d8 0))) C.nil) 2) ≤ C.toInt (C.get (List.getD (C.elems (dk d6 2)) (Int.toNat (C.toInt (dk d6 5))) C.nil) 4)), dk d6 6, C.slice (C.elems (dk d6 7))] [unE (dE z7 (dm m6 0))]) else none) else none) else none) else (bif Nat.beq (List.length (C.elems (dk d6 4)) + 1) (List.length (C.elems (dk d6 4) ++ [dk d7 0])) then (if X4 z7 (dE z7 (dm m6 0)) = true then (k4 [dk d6 0, dk d6 1, dk d6 2, dk d6 3, dk d6 5, C.slice (C.elems (dk d6 4) ++ [dk d7 0]), C.bool !C.toBool (dk d9 0) == false, dk d6 6, C.slice (C.elems (dk d6 7))] [unE (dE z7 (dm m6 0))]) else none) else none)))) else none))))) else none) else none))) else none) else (bif Nat.beq (List.length (C.elems (dk d6 4))) (List.length (C.elems (dk d6 4))) then (if X4 z7 (dE z7 (dm m6 0)) = true then (k2 [dk d6 0, dk d6 1, C.slice (C.elems (dk d6 4)), dk d6 6, C.slice (C.elems (dk d6 7))] [unE (dE z7 (dm m6 0))]) else none) else none)))
noncomputable def q0R {R : Type} (N : Nat) (k1 : KD R) (k2 : KD R) : KD R → List C → List Es → Option R := (fun k3 d5 m5 => (bif decide (C.toInt (dk d5 5) < C.toInt (dk d5 4)) then (if 0 ≤ C.toInt (dk d5 5) ∧ C.toInt (dk d5 5) < (↑(List.length (C.elems (dk d5 2))) : Int) then (if 0 ≤ C.toInt (dk d5 5) ∧ C.toInt (dk d5 5) < (↑(List.length (C.elems (dk d5 3))) : Int) then (bif !C.beq (List.getD (C.elems (dk d5 2)) (Int.toNat (C.toInt (dk d5 5))) C.nil) (List.getD (C.elems (dk d5 3)) (Int.toNat (C.toInt (dk d5 5))) C.nil) then (k1 [C.bool false] []) else (if X4 z7 (dE z7 (dm m5 0)) = true then (k3 [dk d5 0, dk d5 1, dk d5 2, dk d5 3, dk d5 4, C.int (IntKind.wrap IntKind.i64 (C.toInt (dk d5 5) + 1)), dk d5 6, C.slice (C.elems (dk d5 7))] [unE (dE z7 (dm m5 0))]) else none)) else none) else none) else (if X4 z7 (dE z7 (dm m5 0)) = true then (k2 [dk d5 0, dk d5 1, dk d5 6, C.slice (C.elems (dk d5 7))] [unE (dE z7 (dm m5 0))]) else none)))
noncomputable def q0Q {R : Type} (N : Nat) (k1 : KD R) (k2 : KD R) : KD R → List C → List Es → Option R := (fun k3 d3 m3 => (bif decide (C.toInt (dk d3 4) < C.toInt (dk d3 3)) then (if 0 ≤ C.toInt (dk d3 4) ∧ C.toInt (dk d3 4) < (↑(List.length (C.elems (dk d3 2))) : Int) then (if X4 z7 (List.map (fun c => (Prod.fst c, V.ren (swU (Key.l 2) (x8 (if Key.l 1 = x8 [] (Key.l 32003) then [] else [] ++ [(Key.l 1, x8 [] (Key.l 32003))]) (Key.l 32001))) id (Prod.snd c))) (List.map (fun c => (Prod.fst c, V.ren (swU (Key.l 1) (x8 [] (Key.l 32003))) id (Prod.snd c))) (List.map (fun c => (Prod.fst c, V.ren Key.g id (Prod.snd c))) (dE z7 (dm m3 0))))) = true then (J6 N (C.get (List.getD (C.elems (dk d3 2)) (Int.toNat (C.toInt (dk d3 4))) C.nil) 0) C.nil C.nil (unE (List.map (fun c => (Prod.fst c, V.ren (swU (Key.l 2) (x8 (if Key.l 1 = x8 [] (Key.l 32003) then [] else [] ++ [(Key.l 1, x8 [] (Key.l 32003))]) (Key.l 32001))) id (Prod.snd c))) (List.map (fun c => (Prod.fst c, V.ren (swU (Key.l 1) (x8 [] (Key.l 32003))) id (Prod.snd c))) (List.map (fun c => (Prod.fst c, V.ren Key.g id (Prod.snd c))) (dE z7 (dm m3 0)))))) (fun d4 m4 => (bif q0E z7 (List.map (fun c => (Prod.fst c, V.ren Key.g id (Prod.snd c))) (dE z7 (dm m3 0))) then (bif q9a (List.map (fun c => (Prod.fst c, V.ren Key.g id (Prod.snd c))) (dE z7 (dm m3 0))) (C.get (List.getD (C.elems (dk d3 2)) (Int.toNat (C.toInt (dk d3 4))) C.nil) 0) then (jn (fun d5 m5 => (bif C.toBool (dk d5 5) then (k1 [C.bool false] []) else (if X4 z7 (dE z7 (dm m5 0)) = true then (k3 [dk d5 0, dk d5 1, dk d5 2, dk d5 3, C.int (IntKind.wrap IntKind.i64 (C.toInt (dk d5 4) + 1)), dk d5 6, C.slice (C.elems (dk d5 7))] [unE (dE z7 (dm m5 0))]) else none))) (fun k4 => (bif !C.toBool (dk d4 1) then (if X4 z7 (dE z7 (dm m3 0)) = true then (k4 [dk d3 0, dk d3 1, dk d3 2, dk d3 3, dk d3 4, C.bool true, dk d3 5, C.slice (C.elems (dk d3 6))] [unE (dE z7 (dm m3 0))]) else none) else (bif !decide (C.toInt (dk d4 0) = C.toInt (C.get (List.getD (C.elems (dk d3 2)) (Int.toNat (C.toInt (dk d3 4))) C.nil) 2)) then (if X4 z7 (dE z7 (dm m3 0)) = true then (k4 [dk d3 0, dk d3 1, dk d3 2, dk d3 3, dk d3 4, C.bool true, dk d3 5, C.slice (C.elems (dk d3 6))] [unE (dE z7 (dm m3 0))]) else none) else (if X4 z7 (dE z7 (dm m3 0)) = true then (k4 [dk d3 0, dk d3 1, dk d3 2, dk d3 3, dk d3 4, C.bool !C.beq (C.get (z3u (List.map (fun c => (Prod.fst c, V.ren Key.g id (Prod.snd c))) (dE z7 (dm m3 0))) (C.get (List.getD (C.elems (dk d3 2)) (Int.toNat (C.toInt (dk d3 4))) C.nil) 0)) 0) (C.get (List.getD (C.elems (dk d3 2)) (Int.toNat (C.toInt (dk d3 4))) C.nil) 1), dk d3 5, C.slice (C.elems (dk d3 6))] [unE (dE z7 (dm m3 0))]) else none))))) else (jn (fun d5 m5 => (bif C.toBool (dk d5 5) then (k1 [C.bool false] []) else (if X4 z7 (dE z7 (dm m5 0)) = true then (k3 [dk d5 0, dk d5 1, dk d5 2, dk d5 3, C.int (IntKind.wrap IntKind.i64 (C.toInt (dk d5 4) + 1)), dk d5 6, C.slice (C.elems (dk d5 7))] [unE (dE z7 (dm m5 0))]) else none))) (fun k4 => (bif !C.toBool (dk d4 1) then (if X4 z7 (dE z7 (dm m3 0)) = true then (k4 [dk d3 0, dk d3 1, dk d3 2, dk d3 3, dk d3 4, C.bool true, dk d3 5, C.slice (C.elems (dk d3 6))] [unE (dE z7 (dm m3 0))]) else none) else (if X4 z7 (dE z7 (dm m3 0)) = true then (k4 [dk d3 0, dk d3 1, dk d3 2, dk d3 3, dk d3 4, C.bool true, dk d3 5, C.slice (C.elems (dk d3 6))] [unE (dE z7 (dm m3 0))]) else none))))) else none))) else none) else none) else (if X4 z7 (dE z7 (dm m3 0)) = true then (k2 [dk d3 0, dk d3 1, dk d3 5, C.slice (C.elems (dk d3 6))] [unE (dE z7 (dm m3 0))]) else none)))
noncomputable def q0P {R : Type} (N : Nat) (k1 : KD R) (k2 : KD R) : KD R → List C → List Es → Option R := (fun k3 d2 m2 => (bif decide (C.toInt (dk d2 4) < C.toInt (dk d2 3)) then (if 0 ≤ C.toInt (dk d2 4) ∧ C.toInt (dk d2 4) < (↑(List.length (C.elems (dk d2 2))) : Int) then (bif decide (30 ≤ C.toInt (dk d2 4)) then (if X4 z7 (dE z7 (dm m2 0)) = true then (k2 [dk d2 0, dk d2 1, dk d2 5, C.slice (C.elems (dk d2 6))] [unE (dE z7 (dm m2 0))]) else none) else (jn (fun d3 m3 => (bif C.toBool (dk d3 5) then (k1 [C.bool false] []) else (if X4 z7 (dE z7 (dm m3 0)) = true then (k3 [dk d3 0, dk d3 1, dk d3 2, dk d3 3, C.int (IntKind.wrap IntKind.i64 (C.toInt (dk d3 4) + 1)), dk d3 6, C.slice (C.elems (dk d3 7))] [unE (dE z7 (dm m3 0))]) else none))) (fun k4 => (if X4 z7 (List.map (fun c => (Prod.fst c, V.ren (swU (Key.l 2) (x8 (if Key.l 1 = x8 [] (Key.l 32003) then [] else [] ++ [(Key.l 1, x8 [] (Key.l 32003))]) (Key.l 32001))) id (Prod.snd c))) (List.map (fun c => (Prod.fst c, V.ren (swU (Key.l 1) (x8 [] (Key.l 32003))) id (Prod.snd c))) (List.map (fun c => (Prod.fst c, V.ren Key.g id (Prod.snd c))) (dE z7 (dm m2 0))))) = true then (X8 N (C.get (List.getD (C.elems (dk d2 2)) (Int.toNat (C.toInt (dk d2 4))) C.nil) 0) (C.get (List.getD (C.elems (dk d2 2)) (Int.toNat (C.toInt (dk d2 4))) C.nil) 1) C.nil C.nil (unE (List.map (fun c => (Prod.fst c, V.ren (swU (Key.l 2) (x8 (if Key.l 1 = x8 [] (Key.l 32003) then [] else [] ++ [(Key.l 1, x8 [] (Key.l 32003))]) (Key.l 32001))) id (Prod.snd c))) (List.map (fun c => (Prod.fst c, V.ren (swU (Key.l 1) (x8 [] (Key.l 32003))) id (Prod.snd c))) (List.map (fun c => (Prod.fst c, V.ren Key.g id (Prod.snd c))) (dE z7 (dm m2 0)))))) (fun d3 m3 => (q0o N (C.get (List.getD (C.elems (dk d2 2)) (Int.toNat (C.toInt (dk d2 4))) C.nil) 0) (C.get (List.getD (C.elems (dk d2 2)) (Int.toNat (C.toInt (dk d2 4))) C.nil) 1) (dk d2 5) (C.slice (C.elems (dk d2 6))) C.nil (fun d4 m4 => (bif !decide (C.toInt (dk d3 0) = C.toInt (dk d4 0)) then (if X4 z7 (List.map (fun c => (Prod.fst c, V.ren (dn (p8 { dst := some 49, op := Op.call { callee := Callee.value (Operand.func 8), args := #[Operand.tmp 44, Operand.tmp 46, Operand.tmp 48], argTypes := #[24, 28, 23] }, type := 31, pos := "law.go:46", after := #[{ on := 0, ground := Ground.data }, { on := 2, ground := Ground.data }, { on := 4, ground := Ground.data }], guard := none })) id (Prod.snd c))) (List.map (fun c => (Prod.fst c, V.ren (swU (Key.l 1) (x8 [] (Key.l 32003))) id (Prod.snd c))) (List.map (fun c => (Prod.fst c, V.ren (swU (Key.l 2) (x8 (if Key.l 1 = x8 [] (Key.l 32003) then [] else [] ++ [(Key.l 1, x8 [] (Key.l 32003))]) (Key.l 32001))) id (Prod.snd c))) (dE z7 (dm m3 0))))) = true then (k4 [dk d2 0, dk d2 1, dk d2 2, dk d2 3, dk d2 4, C.bool true, dk d4 1, C.slice (C.elems (dk d4 2))] [unE (List.map (fun c => (Prod.fst c, V.ren (dn (p8 { dst := some 49, op := Op.call { callee := Callee.value (Operand.func 8), args := #[Operand.tmp 44, Operand.tmp 46, Operand.tmp 48], argTypes := #[24, 28, 23] }, type := 31, pos := "law.go:46", after := #[{ on := 0, ground := Ground.data }, { on := 2, ground := Ground.data }, { on := 4, ground := Ground.data }], guard := none })) id (Prod.snd c))) (List.map (fun c => (Prod.fst c, V.ren (swU (Key.l 1) (x8 [] (Key.l 32003))) id (Prod.snd c))) (List.map (fun c => (Prod.fst c, V.ren (swU (Key.l 2) (x8 (if Key.l 1 = x8 [] (Key.l 32003) then [] else [] ++ [(Key.l 1, x8 [] (Key.l 32003))]) (Key.l 32001))) id (Prod.snd c))) (dE z7 (dm m3 0)))))]) else none) else (if List.length (List.map (fun c => (Prod.fst c, V.ren Key.g id (Prod.snd c))) (List.map (fun c => (Prod.fst c, V.ren (dn (p8 { dst := some 49, op := Op.call { callee := Callee.value (Operand.func 8), args := #[Operand.tmp 44, Operand.tmp 46, Operand.tmp 48], argTypes := #[24, 28, 23] }, type := 31, pos := "law.go:46", after := #[{ on := 0, ground := Ground.data }, { on := 2, ground := Ground.data }, { on := 4, ground := Ground.data }], guard := none })) id (Prod.snd c))) (List.map (fun c => (Prod.fst c, V.ren (swU (Key.l 1) (x8 [] (Key.l 32003))) id (Prod.snd c))) (List.map (fun c => (Prod.fst c, V.ren (swU (Key.l 2) (x8 (if Key.l 1 = x8 [] (Key.l 32003) then [] else [] ++ [(Key.l 1, x8 [] (Key.l 32003))]) (Key.l 32001))) id (Prod.snd c))) (dE z7 (dm m3 0)))))) ≤ 9223372036854775807 then (if X4 z7 (List.map (fun c => (Prod.fst c, V.ren (dn (p8 { dst := some 49, op := Op.call { callee := Callee.value (Operand.func 8), args := #[Operand.tmp 44, Operand.tmp 46, Operand.tmp 48], argTypes := #[24, 28, 23] }, type := 31, pos := "law.go:46", after := #[{ on := 0, ground := Ground.data }, { on := 2, ground := Ground.data }, { on := 4, ground := Ground.data }], guard := none })) id (Prod.snd c))) (List.map (fun c => (Prod.fst c, V.ren (swU (Key.l 1) (x8 [] (Key.l 32003))) id (Prod.snd c))) (List.map (fun c => (Prod.fst c, V.ren (swU (Key.l 2) (x8 (if Key.l 1 = x8 [] (Key.l 32003) then [] else [] ++ [(Key.l 1, x8 [] (Key.l 32003))]) (Key.l 32001))) id (Prod.snd c))) (dE z7 (dm m3 0))))) = true then (k4 [dk d2 0, dk d2 1, dk d2 2, dk d2 3, dk d2 4, C.bool !decide ((↑(List.length (List.map (fun c => (Prod.fst c, V.ren Key.g id (Prod.snd c))) (List.map (fun c => (Prod.fst c, V.ren (dn (p8 { dst := some 49, op := Op.call { callee := Callee.value (Operand.func 8), args := #[Operand.tmp 44, Operand.tmp 46, Operand.tmp 48], argTypes := #[24, 28, 23] }, type := 31, pos := "law.go:46", after := #[{ on := 0, ground := Ground.data }, { on := 2, ground := Ground.data }, { on := 4, ground := Ground.data }], guard := none })) id (Prod.snd c))) (List.map (fun c => (Prod.fst c, V.ren (swU (Key.l 1) (x8 [] (Key.l 32003))) id (Prod.snd c))) (List.map (fun c => (Prod.fst c, V.ren (swU (Key.l 2) (x8 (if Key.l 1 = x8 [] (Key.l 32003) then [] else [] ++ [(Key.l 1, x8 [] (Key.l 32003))]) (Key.l 32001))) id (Prod.snd c))) (dE z7 (dm m3 0))))))) : Int) = (↑(List.length (C.elems (dk d4 2))) : Int)), dk d4 1, C.slice (C.elems (dk d4 2))] [unE (List.map (fun c => (Prod.fst c, V.ren (dn (p8 { dst := some 49, op := Op.call { callee := Callee.value (Operand.func 8), args := #[Operand.tmp 44, Operand.tmp 46, Operand.tmp 48], argTypes := #[24, 28, 23] }, type := 31, pos := "law.go:46", after := #[{ on := 0, ground := Ground.data }, { on := 2, ground := Ground.data }, { on := 4, ground := Ground.data }], guard := none })) id (Prod.snd c))) (List.map (fun c => (Prod.fst c, V.ren (swU (Key.l 1) (x8 [] (Key.l 32003))) id (Prod.snd c))) (List.map (fun c => (Prod.fst c, V.ren (swU (Key.l 2) (x8 (if Key.l 1 = x8 [] (Key.l 32003) then [] else [] ++ [(Key.l 1, x8 [] (Key.l 32003))]) (Key.l 32001))) id (Prod.snd c))) (dE z7 (dm m3 0)))))]) else none) else none)))))) else none)))) else none) else (if X4 z7 (dE z7 (dm m2 0)) = true then (k2 [dk d2 0, dk d2 1, dk d2 5, C.slice (C.elems (dk d2 6))] [unE (dE z7 (dm m2 0))]) else none)))
noncomputable def q1S {R : Type} (N : Nat) (a0 a1 a2 : C) (k1 : KD R) : Option R := (bif decide (40 < (↑(List.length (C.elems a1)) : Int)) then (q1B N (fun d1 m1 => (k1 [C.bool (C.toBool (dk d1 0))] []))) else (q2U N (fun d1 m1 => (jn (fun d2 m2 => (jn (fun d3 m3 => (if X4 z7 (List.map (fun c => (Prod.fst c, V.ren (swU (Key.l 2) (x8 (if Key.l 1 = x8 [] (Key.l 32003) then [] else [] ++ [(Key.l 1, x8 [] (Key.l 32003))]) (Key.l 32001))) id (Prod.snd c))) (List.map (fun c => (Prod.fst c, V.ren (swU (Key.l 1) (x8 [] (Key.l 32003))) id (Prod.snd c))) (List.map (fun c => (Prod.fst c, V.ren Key.g id (Prod.snd c))) (dE z7 (dm m3 0))))) = true then (bif okH (unE (List.map (fun c => (Prod.fst c, V.ren (swU (Key.l 2) (x8 (if Key.l 1 = x8 [] (Key.l 32003) then [] else [] ++ [(Key.l 1, x8 [] (Key.l 32003))]) (Key.l 32001))) id (Prod.snd c))) (List.map (fun c => (Prod.fst c, V.ren (swU (Key.l 1) (x8 [] (Key.l 32003))) id (Prod.snd c))) (List.map (fun c => (Prod.fst c, V.ren Key.g id (Prod.snd c))) (dE z7 (dm m3 0)))))) then (F1 N (dk d3 2) (C.slice (C.elems (dk d3 3))) (fun d4 m4 => (bif !decide ((↑(List.length (q22 (unE (List.map (fun c => (Prod.fst c, V.ren (swU (Key.l 2) (x8 (if Key.l 1 = x8 [] (Key.l 32003) then [] else [] ++ [(Key.l 1, x8 [] (Key.l 32003))]) (Key.l 32001))) id (Prod.snd c))) (List.map (fun c => (Prod.fst c, V.ren (swU (Key.l 1) (x8 [] (Key.l 32003))) id (Prod.snd c))) (List.map (fun c => (Prod.fst c, V.ren Key.g id (Prod.snd c))) (dE z7 (dm m3 0)))))))) : Int) = (↑(List.length (C.elems (dk d4 0))) : Int)) then (k1 [C.bool false] []) else (jn (fun d5 m5 => (jn (fun d6 m6 => (if X4 z7 (List.map (fun c => (Prod.fst c, V.ren (swU (Key.l 2) (x8 (if Key.l 1 = x8 [] (Key.l 32003) then [] else [] ++ [(Key.l 1, x8 [] (Key.l 32003))]) (Key.l 32001))) id (Prod.snd c))) (List.map (fun c => (Prod.fst c, V.ren (swU (Key.l 1) (x8 [] (Key.l 32003))) id (Prod.snd c))) (List.map (fun c => (Prod.fst c, V.ren Key.g id (Prod.snd c))) (dE z7 (dm m6 0))))) = true then (q0q N (dk d6 1) (C.slice (C.elems (dk d6 2))) C.nil (unE (List.map (fun c => (Prod.fst c, V.ren (swU (Key.l 2) (x8 (if Key.l 1 = x8 [] (Key.l 32003) then [] else [] ++ [(Key.l 1, x8 [] (Key.l 32003))]) (Key.l 32001))) id (Prod.snd c))) (List.map (fun c => (Prod.fst c, V.ren (swU (Key.l 1) (x8 [] (Key.l 32003))) id (Prod.snd c))) (List.map (fun c => (Prod.fst c, V.ren Key.g id (Prod.snd c))) (dE z7 (dm m6 0)))))) (fun d7 m7 => (jn (fun d8 m8 => (jn (fun d9 m9 => (k1 [C.bool (C.toBool (dk d9 0))] [])) (fun k2 => (q1B N (fun d9 m9 => (bif C.toBool (dk d9 0) then (k2 [C.bool (decide ((↑(List.length (C.elems (dk d8 1))) : Int) = (↑(List.length (C.elems (dk d8 0))) : Int))), dk d8 2, C.slice (C.elems (dk d8 3))] []) else (k2 [C.bool false, dk d8 2, C.slice (C.elems (dk d8 3))] []))))))) (fun k2 => (bif Nat.beq (List.length (C.elems (dk d6 2))) (List.length (C.elems (dk d6 2))) then (if X4 z7 (dE z7 (dm m6 0)) = true then (k9 N (q0T N k1 k2) [dk d6 0, dk d6 1, C.slice (C.elems (dk d7 0)), dk d6 0, C.int (↑(List.length (C.elems (dk d6 0))) : Int), C.slice (C.elems (dk d6 2)), C.int 0, dk d6 3, C.slice (C.elems (dk d6 4))] [unE (dE z7 (dm m6 0))]) else none) else none))))) else none)) (fun k2 => (if X4 z7 (dE z7 (dm m5 0)) = true then (k9 N (q0S N k1 k2) [dk d5 0, dk d5 1, dk d5 0, C.int (↑(List.length (C.elems (dk d5 0))) : Int), C.slice [], C.int 0, dk d5 2, C.slice (C.elems (dk d5 3))] [unE (dE z7 (dm m5 0))]) else none)))) (fun k2 => (if X4 z7 (dE z7 (dm m3 0)) = true then (k9 N (q0R N k1 k2) [dk d3 0, dk d3 1, C.slice (q22 (unE (List.map (fun c => (Prod.fst c, V.ren (swU (Key.l 2) (x8 (if Key.l 1 = x8 [] (Key.l 32003) then [] else [] ++ [(Key.l 1, x8 [] (Key.l 32003))]) (Key.l 32001))) id (Prod.snd c))) (List.map (fun c => (Prod.fst c, V.ren (swU (Key.l 1) (x8 [] (Key.l 32003))) id (Prod.snd c))) (List.map (fun c => (Prod.fst c, V.ren Key.g id (Prod.snd c))) (dE z7 (dm m3 0))))))), dk d4 0, C.int (↑(List.length (q22 (unE (List.map (fun c => (Prod.fst c, V.ren (swU (Key.l 2) (x8 (if Key.l 1 = x8 [] (Key.l 32003) then [] else [] ++ [(Key.l 1, x8 [] (Key.l 32003))]) (Key.l 32001))) id (Prod.snd c))) (List.map (fun c => (Prod.fst c, V.ren (swU (Key.l 1) (x8 [] (Key.l 32003))) id (Prod.snd c))) (List.map (fun c => (Prod.fst c, V.ren Key.g id (Prod.snd c))) (dE z7 (dm m3 0)))))))) : Int), C.int 0, dk d3 2, C.slice (C.elems (dk d3 3))] [unE (dE z7 (dm m3 0))]) else none)))))) else none) else none)) (fun k2 => (if X4 z7 (dE z7 (dm m2 0)) = true then (k9 N (q0Q N k1 k2) [dk d2 0, dk d2 1, C.slice (C.elems (dk d2 3)), C.int (↑(List.length (C.elems (dk d2 3))) : Int), C.int 0, dk d2 2, C.slice (C.elems (dk d2 3))] [unE (dE z7 (dm m2 0))]) else none)))) (fun k2 => (k9 N (q0P N k1 k2) [a1, a2, a0, C.int (↑(List.length (C.elems a0)) : Int), C.int 0, dk d1 0, C.slice []] [unE []]))))))
noncomputable def q01 {R : Type} (N : Nat) : C → C → C → KD R → Option R := lid "" (q1S N)
theorem q6c {R : Type} (N : Nat) (a0 a1 a2 : C) (k : KD R) : q01 N a0 a1 a2 k = q1S N a0 a1 a2 k := by unfold q01; rw [Z9]
theorem z0I {R : Type} (N : Nat) (a0 a1 a2 : C) (K : V → List (Key × O) → Option R) : exF (X0 gl0) ((q6d N).ov R) F0 (fun f r => bif Nat.beq f 4 then (bif Nat.beq r 8 then [(10, 6)] else bif Nat.beq r 34 then [(22, 6)] else bif Nat.beq r 41 then [(26, 6)] else []) else bif Nat.beq f 9 then (bif Nat.beq r 0 then [(3, 5)] else []) else []) (fun f => bif Nat.beq f 4 then z1u else []) N 400 8 4 [.d (.slice 40 z7) a0, .d (.slice 64 Y0) a1, .d (.int .u64) a2] A0 K =
  q01 N a0 a1 a2 (fun d1 m1 => K (V.d Ty.bool (C.bool (C.toBool (dk d1 0)))) []) := by
 rw [q6c]
 exact (show _ = jn (fun d1 m1 => (K (V.d Ty.bool (C.bool (C.toBool (dk d1 0)))) [])) (q1S N a0 a1 a2) by kernel_rfl).trans (u9 _ _)
noncomputable def q2l (N : Nat) {R : Type} : OvG R := fun xs _ K => match xs with
 | [.d t0 a0, .d t1 a1, .d t2 a2] => if t0 = (.slice 40 z7) ∧ t1 = (.slice 64 Y0) ∧ t2 = (.int .u64) then q01 N a0 a1 a2 (fun d1 m1 => K (V.d Ty.bool (C.bool (C.toBool (dk d1 0)))) []) else none
 | _ => none
theorem z1t (N : Nat) {R : Type} : GOk (X0 gl0) 4 (q2l N (R := R)) := by
 intro xs A Kr r hr
 unfold q2l at hr
 split at hr
 ·simp only [Option.ite_none_right_eq_some] at hr
  obtain ⟨hty, hr⟩ := hr
  obtain ⟨rfl, rfl, rfl⟩ := hty
  rw [← z0I] at hr
  exact okA (q6d N) hr
 ·cases hr
end Go.Proofs.Yteaddgnjddjllaa
namespace Go.Proofs.Yteaddgnjddjllaa
open Go Go.E
set_option maxRecDepth 100000
set_option maxHeartbeats 4000000
set_option linter.unusedSimpArgs false
variable {R : Type} {N : Nat}
theorem q4B {F : KD R → List C → List Es → Option R} (n : Nat) (inv : Nat → List C → List Es → Prop) (r : Option R)
  (step : ∀ i st sm, i < n → inv i st sm → (∀ rec : KD R, (∀ st' sm', inv (i + 1) st' sm' → rec st' sm' = r) → F rec st sm = r))
  (stop : ∀ st sm, inv n st sm → ∀ rec : KD R, F rec st sm = r) : ∀ (m i N : Nat) (st : List C) (sm : List Es), i + m = n → m < N → inv i st sm → k9 N F st sm = r
 | 0, i, N, st, sm, hi, hN, h => by
  obtain ⟨N, rfl⟩ : ∃ a, N = a + 1 := ⟨N - 1, by omega⟩
  have e : i = n := by omega
  subst e
  rw [j6]; exact stop st sm h _
 | m + 1, i, N, st, sm, hi, hN, h => by
  obtain ⟨N, rfl⟩ : ∃ a, N = a + 1 := ⟨N - 1, by omega⟩
  rw [j6]
  exact step i st sm (by omega) h _ fun st' sm' h' => q4B n inv r step stop m (i + 1) N st' sm' (by omega) (by omega) h'
def Good (l : List Ent) : Prop := ∀ i, i < l.length → q0Z (l.getD i zE).1 l = some i
theorem y0v (y : H32) (e : Ent) : ∀ l : List Ent, q0Z y (l ++ [e]) = match q0Z y l with | some i => some i | none => if e.1 = y then some l.length else none
 | [] => by simp [q0Z]
 | a :: l => by
  have ih := y0v y e l
  rw [List.cons_append, z2V, z2V]
  by_cases h : a.1 = y
  ·simp [h]
  ·rw [if_neg h, if_neg h, ih]
   cases q0Z y l with
   | some i => rfl
   | none => simp only [Option.map_none]; split <;> simp
theorem y5y {l : List Ent} (h : Good l) (x : H32) (s : C) (t : Int) : Good (q4v l x s t).2 := by
 unfold q4v
 cases hp : q0Z x l with
 | some i => exact h
 | none =>
  intro i hi
  have hi' : i < l.length + 1 := by simpa using hi
  simp only
  rw [y0v]
  by_cases e : i = l.length
  ·subst e
   have hg : (l ++ [(x, s, t)]).getD l.length zE = (x, s, t) := by simp
   rw [hg, hp]
   simp
  ·have hg : (l ++ [(x, s, t)]).getD i zE = l.getD i zE := by
    rw [List.getD_eq_getElem?_getD, List.getElem?_append_left (by omega), ← List.getD_eq_getElem?_getD]
   rw [hg, h i (by omega)]
theorem y6m (l : List Ent) (x : H32) (s : C) (t : Int) : (q4v l x s t).2.length ≤ l.length + 1 := by
 unfold q4v; cases q0Z x l <;> simp
def x1l (o : C) : Prop := Sec (o.get 0) ∧ ∃ n : Int, o.get 1 = .int n
def y10 (c : C) : Prop := (c = .agg [c.get 0, c.get 1, c.get 2, c.get 3, c.get 4]) ∧ ∃ h : H32, c.get 3 = c6 h
theorem x0T (τ : Ty) (m : Es) : (dE τ m).length = m.length := by simp [dE]
theorem x0V (a1 a2 T : C) (hT : q6p T) (O : List C) (hO : ∀ o ∈ O, x1l o) (hOl : O.length ≤ 140737488355328) (hN : 200000000000000 < N) (hN2 : N < 4611686018427387904) (k1 k2 : KD R) (r : Option R)
  (hk : ∀ l : List Ent, Good l → l.length ≤ 30 → k2 [a1, a2, T, .slice (l.map H5)] [l.map Q8] = r) :
  k9 N (q0P N k1 k2) [a1, a2, .slice O, .int O.length, .int (0 : Nat), T, .slice []] [[]] = r := by
 refine q4B (F := q0P N k1 k2) O.length (fun i st sm => ∃ l : List Ent, st = [a1, a2, .slice O, .int O.length, .int (i : Nat), T, .slice (l.map H5)] ∧ sm = [l.map Q8] ∧ Good l ∧ l.length ≤ i ∧ l.length ≤ 30) r ?_ ?_ O.length 0 N _ _ (by omega) (by omega) ⟨[], rfl, rfl, fun i hi => by simp at hi, by simp, by simp⟩
 ·rintro i st sm hi ⟨l, rfl, rfl, hg, hl, hl30⟩ rec hrec
  have e1 : (i : Int) < (O.length : Int) := by omega
  have d0 : dm [l.map Q8] 0 = l.map Q8 := rfl
  unfold q0P
  by_cases z : 30 ≤ (i : Int)
  ·simp only [w6, u0, o8, j9, Y3, q07, q24, w7, w5, d0, e1, z, decide_true, cond_true, Int.natCast_nonneg, and_self, if_true, J3, q0t]
   exact hk l hg hl30
  ·obtain ⟨hs, n, hn⟩ := hO _ (q0U hi)
   obtain ⟨x, hx⟩ := y8R (q2Z (.int 6) [C.slice (cut (C.elems ((O.getD i .nil).get 0)) 0 32)])
   have hx : z6u ((O.getD i .nil).get 0) = c6 x := hx
   have t1 := fun (a b : C) (k : KD R) => y6n (N := N) _ hs x hx n a b l (by omega) hN2 k
   have t2 := fun (b : C) (k : KD R) => y6G (N := N) _ hs x hx n T hT l (by omega) (by omega) b k
   have d1 : dm [(q4v l x ((O.getD i .nil).get 0) n).2.map Q8] 0 = (q4v l x ((O.getD i .nil).get 0) n).2.map Q8 := rfl
   have hgl := y6m l x ((O.getD i .nil).get 0) n
   have hg2 := y5y hg x ((O.getD i .nil).get 0) n
   generalize q4v l x ((O.getD i .nil).get 0) n = p at *
   simp only [u9, w6, u0, o8, j9, Y3, q07, q24, q79, w7, w5, J8, d0, d1, e1, z, decide_true, decide_false, cond_true, cond_false, Int.natCast_nonneg, and_self, if_true, Int.toNat_natCast, J3, q0t, q5s, x0T, hn, t1, t2, List.length_map, Bool.not_true, c9 (show i < 4611686018427387904 by omega)]
   refine (if_pos (by omega)).trans ?_
   exact hrec _ _ ⟨p.2, rfl, rfl, hg2, by omega, by omega⟩
 ·rintro st sm ⟨l, rfl, rfl, hg, hl, hl30⟩ rec
  have d0 : dm [l.map Q8] 0 = l.map Q8 := rfl
  unfold q0P
  simp only [w6, u0, o8, j9, Y3, q07, q24, w7, w5, d0, Int.lt_irrefl, decide_false, cond_false, J3, q0t, if_true]
  exact hk l hg hl30
theorem x0Y (a1 a2 T : C) (l : List Ent) (hg : Good l) (hl : l.length ≤ 30) (hN : 5000 < N) (k1 k2 : KD R) (r : Option R) (hk : k2 [a1, a2, T, .slice (l.map H5)] [l.map Q8] = r) :
  k9 N (q0Q N k1 k2) [a1, a2, .slice (l.map H5), .int l.length, .int (0 : Nat), T, .slice (l.map H5)] [l.map Q8] = r := by
 refine q4B (F := q0Q N k1 k2) l.length (fun i st sm => st = [a1, a2, .slice (l.map H5), .int l.length, .int (i : Nat), T, .slice (l.map H5)] ∧ sm = [l.map Q8]) r ?_ ?_ l.length 0 N _ _ (by omega) (by omega) ⟨rfl, rfl⟩
 ·rintro i st sm hi ⟨rfl, rfl⟩ rec hrec
  have e1 : (i : Int) < (l.length : Int) := by omega
  have d0 : dm [l.map Q8] 0 = l.map Q8 := rfl
  have hp := hg i hi
  have g0 : C.get (H5 (l.getD i zE)) 0 = c6 (l.getD i zE).1 := rfl
  have g1 : C.get (H5 (l.getD i zE)) 1 = (l.getD i zE).2.1 := rfl
  have g2 : C.get (H5 (l.getD i zE)) 2 = .int (l.getD i zE).2.2 := rfl
  have hh : q5p (l.map Q8) (c6 (l.getD i zE).1) = true := by rw [q89, hp]; rfl
  have hm := z1D _ l i hp
  have q1 : C.get (.agg [(l.getD i zE).2.1, .int (l.getD i zE).2.2]) 1 = .int (l.getD i zE).2.2 := rfl
  have q0 : C.get (.agg [(l.getD i zE).2.1, .int (l.getD i zE).2.2]) 0 = (l.getD i zE).2.1 := rfl
  unfold q0Q
  simp only [u9, w6, u0, o8, j9, Y3, q07, q24, q79, w7, w5, J8, d0, e1, decide_true, decide_false, cond_true, cond_false, Int.natCast_nonneg, and_self, if_true, Int.toNat_natCast, J3, q0t, q9j, q5s, z0K, z7P, y2C, List.length_map, q6M hi, g0, g1, g2, hh, hm, q1, q0, z3I, Bool.not_true, c9 (show i < 4611686018427387904 by omega)]
  exact hrec _ _ ⟨rfl, rfl⟩
 ·rintro st sm ⟨rfl, rfl⟩ rec
  have d0 : dm [l.map Q8] 0 = l.map Q8 := rfl
  unfold q0Q
  simp only [w6, u0, o8, j9, Y3, q07, q24, w7, w5, d0, Int.lt_irrefl, decide_false, cond_false, J3, q0t, if_true]
  exact hk
theorem x00 (a1 a2 T : C) (H : List C) (hH : H.length ≤ 30) (l : List Ent) (hN : 5000 < N) (k1 k2 : KD R) (r : Option R) (hk : k2 [a1, a2, T, .slice (l.map H5)] [l.map Q8] = r) :
  k9 N (q0R N k1 k2) [a1, a2, .slice H, .slice H, .int H.length, .int (0 : Nat), T, .slice (l.map H5)] [l.map Q8] = r := by
 refine q4B (F := q0R N k1 k2) H.length (fun i st sm => st = [a1, a2, .slice H, .slice H, .int H.length, .int (i : Nat), T, .slice (l.map H5)] ∧ sm = [l.map Q8]) r ?_ ?_ H.length 0 N _ _ (by omega) (by omega) ⟨rfl, rfl⟩
 ·rintro i st sm hi ⟨rfl, rfl⟩ rec hrec
  have e1 : (i : Int) < (H.length : Int) := by omega
  have d0 : dm [l.map Q8] 0 = l.map Q8 := rfl
  unfold q0R
  simp only [w6, u0, o8, j9, Y3, q07, q24, q79, w7, w5, d0, e1, decide_true, cond_true, cond_false, Int.natCast_nonneg, and_self, if_true, Int.toNat_natCast, J3, q0t, z3I, Bool.not_true, c9 (show i < 4611686018427387904 by omega)]
  exact hrec _ _ ⟨rfl, rfl⟩
 ·rintro st sm ⟨rfl, rfl⟩ rec
  have d0 : dm [l.map Q8] 0 = l.map Q8 := rfl
  unfold q0R
  simp only [w6, u0, o8, j9, Y3, q07, q24, q79, w7, w5, d0, Int.lt_irrefl, decide_false, cond_false, J3, q0t, if_true]
  exact hk
end Go.Proofs.Yteaddgnjddjllaa
namespace Go.Proofs.Yteaddgnjddjllaa
open Go Go.E
set_option maxRecDepth 100000
set_option maxHeartbeats 4000000
set_option linter.unusedSimpArgs false
variable {R : Type} {N : Nat}
theorem y3x (T : C) (l : List Ent) (hl : l.length ≤ 30) (hN : 5000 < N) (k : KD R) : F1 N T (.slice (l.map H5)) k = k [.slice (q22 (l.map Q8))] [] := by
 have lenI : ∀ (m : List H32) (a : List H32), (m.foldl q6g a).length = a.length + m.length := by
  intro m
  induction m with
  | nil => intro a; rfl
  | cons x m ih => intro a; rw [List.foldl_cons, ih, y67, List.length_cons]; omega
 rw [q4X]
 unfold q09
 simp only [u9]
 have key := U9 (F := q1a N (.slice (l.map H5)) fun d1 m1 => k [dk d1 0] []) (fun i => [.slice ((q7N ((l.take i).map (·.1))).map c6), .int (i : Nat)]) (fun _ => []) l.length (k [.slice (q22 (l.map Q8))] []) ?_ ?_ (N := N) (by omega)
 ·exact key
 ·intro i hi rec
  have e1 : (i : Int) < (l.length : Int) := by omega
  obtain ⟨out, ho⟩ : ∃ out, q7N ((l.take i).map (·.1)) = out := ⟨_, rfl⟩
  have hol : out.length = i := by rw [← ho]; unfold q7N; rw [lenI]; simp; omega
  have hnext : q7N ((l.take (i + 1)).map (·.1)) = q6g out (l.getD i zE).1 := by
   unfold q7N at ho ⊢
   rw [List.take_add_one, List.getElem?_eq_getElem hi, List.map_append, List.foldl_append, ho]
   rw [List.getD_eq_getElem?_getD, List.getElem?_eq_getElem hi]; rfl
  rw [ho, hnext]
  have lp := fun K : KD R => y3j (N := N) l out i hi (by omega) (by omega) hN K out.length 0 N (by omega) (by omega) (fun q hq => by omega)
  obtain ⟨a, ha⟩ : ∃ a, (out.takeWhile fun y => Op.bytesLess y.1 (l.getD i zE).1.1).length = a := ⟨_, rfl⟩
  have hal : a ≤ out.length := by rw [← ha]; exact (List.takeWhile_prefix _).length_le
  have ht : out.takeWhile (fun y => Op.bytesLess y.1 (l.getD i zE).1.1) = out.take a := by
   have := List.prefix_iff_eq_take.1 (List.takeWhile_prefix (l := out) (fun y => Op.bytesLess y.1 (l.getD i zE).1.1))
   rw [ha] at this; exact this
  have hd : out.dropWhile (fun y => Op.bytesLess y.1 (l.getD i zE).1.1) = out.drop a := by
   have h1 := List.takeWhile_append_dropWhile (p := fun y => Op.bytesLess y.1 (l.getD i zE).1.1) (l := out)
   rw [ht] at h1
   have h2 := List.take_append_drop a out
   exact List.append_cancel_left (h1.trans h2.symm)
  have hins : (q6g out (l.getD i zE).1).map c6 = (out.map c6).take a ++ [c6 (l.getD i zE).1] ++ (out.map c6).drop a := by
   unfold q6g
   rw [ht, hd, List.map_append, List.map_cons, List.map_take, List.map_drop]
   simp
  have g0 : C.get (H5 (l.getD i zE)) 0 = c6 (l.getD i zE).1 := rfl
  have k1 : cut (out.map c6) 0 (a : Int) = (out.map c6).take a := by simp [cut]
  have k2 : cut (out.map c6) (a : Int) (out.length : Int) = (out.map c6).drop a := by
   simp only [cut, Int.toNat_natCast]; rw [List.take_of_length_le (by simp)]
  have l1 : ((out.map c6).take a).length = a := by simp; omega
  have l2 : ((out.map c6).drop a).length = out.length - a := by simp
  have c1 : Int.ofNat 0 ≤ 0 ∧ (0 : Int) ≤ (a : Int) ∧ (a : Int) ≤ (out.length : Int) := ⟨by decide, by omega, by omega⟩
  have c2 : (0 : Int) ≤ (a : Int) ∧ (a : Int) ≤ (out.length : Int) ∧ (out.length : Int) ≤ (out.length : Int) := by omega
  have g1 : (a + 1) * 32 ≤ 140737488355328 ∧ a + 1 ≤ 9223372036854775807 := by omega
  have g2 : (a + 1 + (out.length - a)) * 32 ≤ 140737488355328 ∧ a + 1 + (out.length - a) ≤ 9223372036854775807 := by omega
  unfold q1a
  simp only [w6, u0, w7, w5, e1, decide_true, cond_true, List.length_map, u9]
  refine (lp _).trans ?_
  rw [ha]
  simp only [w6, u0, o8, w7, w5, List.length_map, c1, c2, k1, k2, l1, l2, e1, decide_true, cond_true, Int.natCast_nonneg, and_self, if_true, Int.toNat_natCast, q6M hi, g0, g1, g2, Nat.beq_refl, List.length_append, List.length_cons, List.length_nil, Nat.zero_add, c9 (show i < 4611686018427387904 by omega)]
  rw [hins]
 ·intro rec
  have h1 := z9w l
  unfold q1a
  simp only [w6, u0, w7, w5, List.length_map, Int.lt_irrefl, decide_false, cond_false, List.take_length, h1]
theorem x2j (c : C) (h : c = .agg [c.get 0, c.get 1, c.get 2, c.get 3, c.get 4]) (k : KD R) : q4F N c k = k [c] [] := by
 rw [z4P]
 unfold q7e
 simp only [q33, q7u, q7t, y4S, y4R]
 rw [← h]
theorem x01 (L : List C) (hL : L.length ≤ 40) (hc : ∀ c ∈ L, y10 c) (a2 T : C) (l : List Ent) (hg : Good l) (hl : l.length ≤ 30) (hN : 5000 < N) (k1 k2 : KD R) (r : Option R) (hk : k2 [.slice L, a2, .slice L, T, .slice (l.map H5)] [l.map Q8] = r) :
  k9 N (q0S N k1 k2) [.slice L, a2, .slice L, .int L.length, .slice [], .int (0 : Nat), T, .slice (l.map H5)] [l.map Q8] = r := by
 refine q4B (F := q0S N k1 k2) L.length (fun i st sm => st = [.slice L, a2, .slice L, .int L.length, .slice (L.take i), .int (i : Nat), T, .slice (l.map H5)] ∧ sm = [l.map Q8]) r ?_ ?_ L.length 0 N _ _ (by omega) (by omega) ⟨by rw [List.take_zero], rfl⟩
 ·rintro i st sm hi ⟨rfl, rfl⟩ rec hrec
  have e1 : (i : Int) < (L.length : Int) := by omega
  have d0 : dm [l.map Q8] 0 = l.map Q8 := rfl
  obtain ⟨he, h, h3⟩ := hc _ (q0U hi)
  have tid := fun k : KD R => x2j (N := N) _ he k
  have hf := fun (a c : C) (k : KD R) => find_eq (N := N) h l (by omega) (by omega) a c k
  have hlt : (L.take i).length = i := by rw [List.length_take]; omega
  have g1 : (i + 1) * 64 ≤ 140737488355328 ∧ i + 1 ≤ 9223372036854775807 := by omega
  have ht := z2C (l := L) hi
  unfold q0S
  simp only [u9, w6, u0, o8, j9, Y3, q07, q24, q79, z5H, w7, w5, J8, d0, e1, decide_true, cond_true, Int.natCast_nonneg, and_self, if_true, Int.toNat_natCast, J3, q0t, q5s, y8g, tid, h3, hf, hlt, g1, q89, Nat.beq_refl, List.length_append, List.length_cons, List.length_nil, Nat.zero_add, List.length_map, c9 (show i < 4611686018427387904 by omega)]
  unfold z6L
  cases hp : q0Z h l with
  | none =>
   have h0 : ¬ (0 : Int) ≤ -1 := by decide
   simp only [h0, decide_false, cond_false, w6, u0, o8, j9, Y3, q07, q24, q79, z5H, w7, w5, J8, d0, Option.isSome_none, Bool.false_and, beq_self_eq_true, Bool.not_true, J3, q0t, if_true, Nat.beq_refl, cond_true, List.length_append, List.length_cons, List.length_nil, Nat.zero_add, hlt, c9 (show i < 4611686018427387904 by omega)]
   exact hrec _ _ ⟨by rw [ht], rfl⟩
  | some j =>
   have hj := z7E hp
   have h0 : (0 : Int) ≤ (j : Int) := by omega
   have h1 : (j : Int) < (l.length : Int) := by omega
   have hm := z1D h l j hp
   have q2 : C.get (H5 (l.getD j zE)) 2 = .int (l.getD j zE).2.2 := rfl
   have q1 : C.get (.agg [(l.getD j zE).2.1, .int (l.getD j zE).2.2]) 1 = .int (l.getD j zE).2.2 := rfl
   simp only [h0, h1, decide_true, cond_true, cond_false, and_self, if_true, w6, u0, o8, j9, Y3, q07, q24, q79, z5H, w7, w5, J8, d0, Int.toNat_natCast, q6M hj, q2, q1, hm, Option.isSome_some, Bool.true_and, beq_self_eq_true, Bool.not_true, J3, q0t, Nat.beq_refl, List.length_append, List.length_cons, List.length_nil, Nat.zero_add, List.length_map, hlt, c9 (show i < 4611686018427387904 by omega)]
   exact hrec _ _ ⟨by rw [ht], rfl⟩
 ·rintro st sm ⟨rfl, rfl⟩ rec
  have d0 : dm [l.map Q8] 0 = l.map Q8 := rfl
  unfold q0S
  simp only [w6, u0, o8, j9, Y3, q07, q24, q79, w7, w5, d0, Int.lt_irrefl, decide_false, cond_false, J3, q0t, if_true, Nat.beq_refl, cond_true, List.take_length]
  exact hk
theorem x02 (L : List C) (hL : L.length ≤ 40) (hc : ∀ c ∈ L, y10 c) (hgt : Int) (T : C) (l : List Ent) (hg : Good l) (hl : l.length ≤ 30) (hN : 5000 < N) (k1 k2 : KD R) (r : Option R) (hk : k2 [.slice L, .slice (L.map fun c => .int (ofP (l.map Q8) c hgt)), T, .slice (l.map H5)] [] = r) :
  k9 N (q0T N k1 k2) [.slice L, .int hgt, .slice (L.map fun c => .int (ofP (l.map Q8) c hgt)), .slice L, .int L.length, .slice L, .int (0 : Nat), T, .slice (l.map H5)] [l.map Q8] = r := by
 refine q4B (F := q0T N k1 k2) L.length (fun i st sm => st = [.slice L, .int hgt, .slice (L.map fun c => .int (ofP (l.map Q8) c hgt)), .slice L, .int L.length, .slice L, .int (i : Nat), T, .slice (l.map H5)] ∧ sm = [l.map Q8]) r ?_ ?_ L.length 0 N _ _ (by omega) (by omega) ⟨rfl, rfl⟩
 ·rintro i st sm hi ⟨rfl, rfl⟩ rec hrec
  have e1 : (i : Int) < (L.length : Int) := by omega
  have e2 : ¬ (L.length : Int) ≤ (i : Int) := by omega
  have d0 : dm [l.map Q8] 0 = l.map Q8 := rfl
  obtain ⟨_, h, h3⟩ := hc _ (q0U hi)
  have r1 := fun (b : C) (k : KD R) => y4W (N := N) _ b h h3 hgt l (by omega) hN b k
  have r2 := fun (b x : C) (k : KD R) => y4W (N := N) (L.getD i .nil) x h h3 hgt l (by omega) hN b k
  have gv : (L.map fun c => C.int (ofP (l.map Q8) c hgt)).getD i .nil = .int (ofP (l.map Q8) (L.getD i .nil) hgt) := by
   rw [List.getD_eq_getElem?_getD, List.getElem?_map, List.getD_eq_getElem?_getD, List.getElem?_eq_getElem hi]; rfl
  unfold q0T
  simp only [u9, w6, u0, o8, j9, Y3, q07, q24, q79, z5H, x2D, w7, w5, J8, d0, e1, e2, decide_true, decide_false, cond_true, cond_false, Int.natCast_nonneg, and_self, if_true, Int.toNat_natCast, J3, q0t, q5s, of_eq, r1, gv, Bool.not_true, Nat.beq_refl, List.length_map, c9 (show i < 4611686018427387904 by omega)]
  exact hrec _ _ ⟨rfl, rfl⟩
 ·rintro st sm ⟨rfl, rfl⟩ rec
  unfold q0T
  simp only [w6, u0, o8, j9, Y3, q07, q24, q79, z5H, w7, w5, Int.lt_irrefl, decide_false, cond_false]
  exact hk
theorem z8g (O L : List C) (hO : ∀ o ∈ O, x1l o) (hOl : O.length ≤ 140737488355328) (hc : ∀ c ∈ L, y10 c) (hgt : Int) (hN : 200000000000000 < N) (hN2 : N < 4611686018427387904) (k : KD R) :
  q01 N (.slice O) (.slice L) (.int hgt) k = k [.bool true] [] := by
 have aw := fun k : KD R => y4u (N := N) (by omega) hN2 k
 rw [q6c]
 unfold q1S
 by_cases g1 : 40 < (L.length : Int)
 ·simp only [u9, w5, g1, decide_true, cond_true, aw, w6, J8]
 obtain ⟨T, hT, hmk⟩ := y6V (R := R) (N := N) k
 simp only [u9, w5, g1, decide_false, cond_false, hmk, w6, u0, o8, j9, Y3, y2G]
 refine x0V (.slice L) (.int hgt) T hT O hO hOl hN hN2 _ _ _ fun l hg hl => ?_
 have d0 : dm [l.map Q8] 0 = l.map Q8 := rfl
 simp only [w6, u0, o8, j9, w5, d0, J3, q0t, if_true, List.length_map]
 refine x0Y (.slice L) (.int hgt) T l hg hl (by omega) _ _ _ ?_
 have hq : okH (l.map Q8) = true := Nat.ble_eq_true_of_le (by rw [List.length_map]; omega)
 have rh := fun (k : KD R) => y3x (N := N) T l hl (by omega) k
 have hhl : (q22 (l.map Q8)).length ≤ 30 := by unfold q22; rw [List.length_mergeSort]; simpa using hl
 simp only [w6, u0, o8, j9, w5, d0, J3, q0t, q5s, if_true, hq, cond_true, rh, decide_true, Bool.not_true, cond_false]
 refine x00 (.slice L) (.int hgt) T (q22 (l.map Q8)) hhl l (by omega) _ _ _ ?_
 simp only [w6, u0, o8, j9, w5, d0, J3, q0t, if_true]
 refine x01 L (by omega) hc (.int hgt) T l hg hl (by omega) _ _ _ ?_
 have al := fun (b : C) (k : KD R) => all_eq (N := N) hgt L (l.map Q8) (by omega) (by omega) b k
 simp only [w6, u0, o8, j9, Y3, w5, d0, J3, q0t, q5s, if_true, al, Nat.beq_refl, cond_true]
 refine x02 L (by omega) hc hgt T l hg hl (by omega) _ _ _ ?_
 simp only [w6, u0, o8, j9, w5, aw, J8, cond_true, List.length_map, decide_true]
theorem x04 {c : C} (h : C.wf (.arr 32 (.int .u8)) c) : ∃ x : H32, c = c6 x := by
 simp only [C.wf] at h
 obtain ⟨h1, h2, h3⟩ := h
 have m1 : IntKind.u8.min = 0 := by decide
 have m2 : IntKind.u8.max = 255 := by decide
 refine ⟨⟨c.elems.map fun b => UInt8.ofNat b.toInt.toNat, by simpa using h2⟩, ?_⟩
 unfold c6
 rw [List.map_map]
 conv => lhs; rw [h1]
 congr 1
 refine ((List.map_congr_left fun b hb => ?_).trans (List.map_id _)).symm
 obtain ⟨e1, e2, e3⟩ := h3 b hb
 simp only [Function.comp, id]
 rw [e1]
 simp only [w7]
 congr 1
 have : (UInt8.ofNat b.toInt.toNat).toNat = b.toInt.toNat := by simp; omega
 rw [this]; omega
theorem x0F {c : C} (h : C.wf (.arr 32 (.int .u8)) c) : Sec c := by
 simp only [C.wf] at h
 obtain ⟨_, h2, h3⟩ := h
 have m1 : IntKind.u8.min = 0 := by decide
 have m2 : IntKind.u8.max = 255 := by decide
 refine ⟨h2, fun b hb => ?_⟩
 obtain ⟨e1, e2, e3⟩ := h3 b hb
 exact ⟨e1, by omega, by omega⟩
theorem z5Z (A : Key → Option O) (a l h : C) : Y6 (X0 gl0) 4 [.d (.slice 40 (.struct 33 [0, 32] [.arr 32 (.int .u8), .int .u64])) a, .d (.slice 64 Y0) l, .d (.int .u64) h] A (.d .bool (.bool true)) [] := by
 refine y5Q (ts := [.slice 40 (.struct 33 [0, 32] [.arr 32 (.int .u8), .int .u64]), .slice 64 Y0, .int .u64]) (cs := [a, l, h]) fun W => ?_
 have h0 := W 0 _ _ rfl rfl
 have h1 := W 1 _ _ rfl rfl
 have h2 := W 2 _ _ rfl rfl
 have e0 : a = .slice a.elems := by simp only [C.wf] at h0; exact h0.1
 have l0 : a.elems.length * 40 ≤ 140737488355328 := by simp only [C.wf] at h0; exact h0.2.1
 have e1 : l = .slice l.elems := by simp only [C.wf] at h1; exact h1.1
 have w0 : ∀ o ∈ a.elems, C.wf (.struct 33 [0, 32] [.arr 32 (.int .u8), .int .u64]) o := by simp only [C.wf] at h0 ⊢; exact h0.2.2.2
 have w1 : ∀ c ∈ l.elems, C.wf Y0 c := by simp only [C.wf] at h1; exact h1.2.2.2
 have e2 : h = .int h.toInt := by simp only [C.wf] at h2; exact h2.1
 refine x0M (z1t 200000000000001) ?_
 show q2l 200000000000001 [.d (.slice 40 (.struct 33 [0, 32] [.arr 32 (.int .u8), .int .u64])) a, .d (.slice 64 Y0) l, .d (.int .u64) h] A kR = _
 simp only [q2l, and_self, if_true]
 rw [e0, e1, e2, z8g a.elems l.elems (fun o ho => ?_) (by omega) (fun c hc => ?_) h.toInt (by omega) (by omega)]
 ·rfl
 ·have hw := w0 o ho
  have f0 := C.z48 hw (i := 0) rfl
  have f1 := C.z48 hw (i := 1) rfl
  exact ⟨x0F f0, ⟨_, by simp only [C.wf] at f1; exact f1.1⟩⟩
 ·have hw := w1 c hc
  exact ⟨(C.y91 hw).symm, x04 (C.z48 hw (i := 3) rfl)⟩
end Go.Proofs.Yteaddgnjddjllaa
