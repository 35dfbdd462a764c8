/-
 What the functions on the way compute, part 2.
 Conditions: none.
-/
import Derived.Test.YtdoajkacibicoaaDoorKa
set_option linter.all false
namespace Go.Proofs.YtdoajkacibicoaaDoor
open Go Go.E
set_option maxRecDepth 100000
set_option maxHeartbeats 4000000
set_option linter.unusedSimpArgs false
variable {R : Type} {N : Nat}
def q0P (o : Nat) : List UInt8 := ((Z5.getD o .nil).get 0).toStr
theorem q6M {o : Nat} (h : o < 18) : o = 0 ∨ o = 1 ∨ o = 2 ∨ o = 3 ∨ o = 4 ∨ o = 5 ∨ o = 6 ∨ o = 7 ∨ o = 8 ∨ o = 9 ∨ o = 10 ∨ o = 11 ∨ o = 12 ∨ o = 13 ∨ o = 14 ∨ o = 15 ∨ o = 16 ∨ o = 17 := by omega
def z4q (B : Nat) (r : List UInt8) : Option Nat := match Lib.parseUintB B r with
 | .ok u => if H5 u = r then some u else none
 | _ => none
theorem z26 (M : Nat) (hM : M ≤ 18446744073709551615) : ∀ (l : List UInt8) (acc u : Nat), acc ≤ M → (Lib.parseUintM M acc l = .ok u ↔ Lib.parseUint10 acc l = .ok u ∧ u ≤ M)
 | [], acc, u, ha => by
  simp only [Lib.parseUintM, Lib.parseUint10]
  constructor
  ·intro h; cases h; exact ⟨rfl, ha⟩
  ·intro h; exact h.1
 | c :: r, acc, u, ha => by
  simp only [Lib.parseUintM, Lib.parseUint10]
  by_cases hd : 48 ≤ c.toNat ∧ c.toNat ≤ 57
  ·rw [if_pos hd, if_pos hd]
   by_cases h1 : 1844674407370955162 ≤ acc
   ·rw [if_pos h1, if_pos h1]; simp
   ·rw [if_neg h1, if_neg h1]
    by_cases h2 : M < acc * 10 + (c.toNat - 48)
    ·rw [if_pos h2]
     constructor
     ·intro h; cases h
     ·rintro ⟨h, hu⟩
      exfalso
      split at h
      ·cases h
      ·have := grows r _ u h; omega
    ·rw [if_neg h2, if_neg (by omega)]
     exact z26 M hM r _ u (by omega)
  ·rw [if_neg hd, if_neg hd]; simp
where
 grows : ∀ (l : List UInt8) (acc u : Nat), Lib.parseUint10 acc l = .ok u → acc ≤ u
  | [], acc, u, h => by simp only [Lib.parseUint10] at h; cases h; exact Nat.le_refl _
  | c :: r, acc, u, h => by
   simp only [Lib.parseUint10] at h
   split at h
   ·split at h
    ·cases h
    ·split at h
     ·cases h
     ·have := grows r _ u h; omega
   ·cases h
theorem z5h : ∀ (m j : Nat) (n : Int), (Y8 (j + m) n).drop j = Y8 m n
 | 0, j, n => by
  have := q1g (j + 0) n
  rw [List.drop_eq_nil_of_le (by omega)]; rfl
 | m + 1, j, n => by
  have h := q1g (j + m) (n / 256)
  show (Y8 (j + m) (n / 256) ++ [C.int (n % 256)]).drop j = Y8 m (n / 256) ++ [C.int (n % 256)]
  rw [List.drop_append_of_le_length (by omega), z5h m j (n / 256)]
def q9W (f : Bool) (rest : List UInt8) (o : Nat) : List C × Int :=
 if f = decide (0 < y5 (o : Int)) then (bif f then (match z4q (8 * y5 (o : Int)) rest with
  | some u => (C.int (o : Int) :: Y8 (y5 (o : Int)) (u : Int), 0)
  | none => ([], 10)) else ([.int (o : Int)], 0)) else ([], 10)
def q8z (nm : List UInt8) (f : Bool) (rest : List UInt8) (o : Nat) : Unit ⊕ (List C × Int) := if q0P o = nm then .inr (q9W f rest o) else .inl ()
def q8A (nm : List UInt8) (f : Bool) (rest : List UInt8) : List C × Int := match q1f (fun o (_ : Unit) (_ : Nat) => q8z nm f rest o) 0 () (List.range 18) with
 | .inl _ => ([], 40)
 | .inr r => r
theorem q3U {o : Nat} (h : o < 18) : y5 (o : Int) = 0 ∨ y5 (o : Int) = 1 ∨ y5 (o : Int) = 2 ∨ y5 (o : Int) = 8 := by
 unfold y5; (repeat' split) <;> omega
theorem z1K (nm rest : List UInt8) (f : Bool) (hN : 140737488355329 < N) (k : KD R) :
  U4 N (q03 N k (fun _ _ => k [.slice [], .int 40] [])) [.str nm, .str rest, .bool f, .agg Z5, .int 0] [] = k [.slice (q8A nm f rest).1, .int (q8A nm f rest).2] [] := by
 have key := z5l (ε := List C × Int) (N := N) (F := q03 N k (fun _ _ => k [.slice [], .int 40] [])) (fun i (_ : Unit) => [.str nm, .str rest, .bool f, .agg Z5, .int (i : Int)]) (fun _ _ => []) (List.range 18)
   (fun o _ _ => q8z nm f rest o) (fun _ => k [.slice [], .int 40] []) (fun r => k [.slice r.1, .int r.2] []) (fun _ _ => True) (s0 := ()) trivial
   (fun o _ c hc _ => by
    have ho : o < 18 := by have := (List.getElem?_eq_some_iff.1 hc).1; simpa using this
    refine ⟨fun rec => ?_, fun _ _ => trivial⟩
    have h1 : (o : Int) < 18 := by omega
    have hget : C.get (.agg Z5) o = Z5.getD o .nil := rfl
    have hw : IntKind.wrap IntKind.u8 (o : Int) = (o : Int) := by rw [wrap_u8]; omega
    unfold q03
    simp only [Y2, go_sem, s8, q4Y, b8, Y0, h1, decide_true, cond_true, Int.natCast_nonneg, and_self, if_true, Int.toNat_natCast, q6W (show o < 4611686018427387904 by omega), hget, q8Q o ho, hw]
    unfold q8z
    by_cases hn : q0P o = nm
    ·have hb : (C.toStr (C.get (Z5.getD o .nil) 0) == nm) = true := by rw [beq_iff_eq]; exact hn
     rw [hb, if_pos hn]
     simp only [Bool.not_true, cond_false]
     unfold q9W
     cases f with
     | false =>
      by_cases hm : (0 : Int) < (y5 (o : Int) : Int)
      ·have hm' : 0 < y5 (o : Int) := by omega
       simp only [hm, hm', decide_true]
       rfl
      ·have hm' : ¬ 0 < y5 (o : Int) := by omega
       simp only [hm, hm', decide_false]
       rfl
     | true =>
      by_cases hm : (0 : Int) < (y5 (o : Int) : Int)
      ·have hm' : 0 < y5 (o : Int) := by omega
       simp only [hm, hm', decide_true, if_true, cond_true, Bool.not_true, beq_self_eq_true, cond_false]
       have hmc := q3U ho
       generalize y5 (o : Int) = m at hm hm' hmc
       have hwz : IntKind.i64.wrap (8 * (m : Int)) = ((8 * m : Nat) : Int) := by rw [wrap_i64 (by omega) (by omega)]; omega
       have hw8 : IntKind.i64.wrap (8 - (m : Int)) = ((8 - m : Nat) : Int) := by rw [wrap_i64 (by omega) (by omega)]; omega
       simp only [hwz, hw8, Int.toNat_natCast]
       refine (if_pos (by omega)).trans ?_
       unfold q2V q4N z4q
       cases hp : Lib.parseUintB (8 * m) rest with
       | ok u =>
        simp only [C.isNil, Bool.not_true, cond_false, Int.toNat_natCast]
        by_cases hd : H5 u = rest
        ·have hd' : (H5 u == rest) = true := by rw [beq_iff_eq]; exact hd
         rw [hd', if_pos hd, Bool.not_true, cond_false]
         rw [z7f [] [C.int (u : Int)] (fun c hc => by rw [List.mem_singleton.1 hc]; exact Int.natCast_nonneg u) (by simp) (by simp; omega)]
         have hE : ([] : List C) ++ q3S 8 [C.int (u : Int)] = Y8 8 (u : Int) := by simp [q3S, s8]
         have hL : (Y8 8 (u : Int)).length = 8 := q1g 8 _
         have hD : List.drop (8 - m) (List.take 8 (Y8 8 (u : Int))) = Y8 m (u : Int) := by
          rw [List.take_of_length_le (by omega)]
          have := z5h m (8 - m) (u : Int)
          rw [show 8 - m + m = 8 by omega] at this
          exact this
         have hDl : (Y8 m (u : Int)).length = m := q1g m _
         simp only [go_sem, b8, hE, hL, hD, hDl]
         refine (if_pos (by omega)).trans ?_
         refine (if_pos (by omega)).trans ?_
         have hbq : (0 + 1 + m).beq (m + 1) = true := by rw [Nat.beq_eq]; omega
         rw [hbq]
         rfl
        ·have hd' : (H5 u == rest) = false := by rw [beq_eq_false_iff_ne]; exact hd
         rw [hd', if_neg hd]
         rfl
       | range => rfl
       | _ => rfl
      ·have hm' : ¬ 0 < y5 (o : Int) := by omega
       simp only [hm, hm', decide_false]
       rfl
    ·have hb : (C.toStr (C.get (Z5.getD o .nil) 0) == nm) = false := by rw [beq_eq_false_iff_ne]; exact hn
     rw [hb, if_neg hn]
     rfl)
   (fun _ _ rec => by
    rw [show (List.range 18).length = 18 from List.length_range]
    unfold q03
    have h1 : ¬ ((18 : Int) < 18) := by decide
    simp only [go_sem, s8, h1, decide_false, cond_false]) (by rw [List.length_range]; omega)
 have key : U4 N (q03 N k (fun _ _ => k [.slice [], .int 40] [])) [.str nm, .str rest, .bool f, .agg Z5, .int 0] [] = _ := key
 rw [key]
 unfold q8A
 cases q1f (fun o (_ : Unit) (_ : Nat) => q8z nm f rest o) 0 () (List.range 18) <;> rfl
end Go.Proofs.YtdoajkacibicoaaDoor
namespace Go.Proofs.YtdoajkacibicoaaDoor
open Go Go.E
set_option maxRecDepth 100000
set_option maxHeartbeats 4000000
set_option linter.unusedSimpArgs false
variable {R : Type} {N : Nat}
def q1F (s : List UInt8) : List C × Int := q8A (s.take (Z1 s)) (decide (Z1 s < s.length)) (s.drop (Z1 s + 1))
theorem y3w (s : List UInt8) (hl : s.length ≤ 140737488355328) (hN : 140737488355329 < N) (k : KD R) : q1w N (.str s) k = k [.slice (q1F s).1, .int (q1F s).2] [] := by
 rw [q9i]
 unfold q1X q1F
 rw [y6M s hl]
 by_cases h : Z1 s < s.length
 ·rw [if_pos h, decide_eq_true h]
  simp only [Y2, go_sem, Y0]
  exact z1K _ _ _ hN k
 ·have hle := z1m s
  have e : Z1 s = s.length := by omega
  rw [if_neg h, decide_eq_false h, e, List.take_length, List.drop_eq_nil_of_le (by omega)]
  simp only [Y2, go_sem, Y0]
  exact z1K _ _ _ hN k
theorem z9H {B : Nat} (hB : B = 8 ∨ B = 16 ∨ B = 64) (r : List UInt8) : z4q B r = (match Lib.parseUint10 0 r with
  | .ok u => if r ≠ [] ∧ u ≤ 2 ^ B - 1 ∧ H5 u = r then some u else none
  | _ => none) := by
 have hM : 2 ^ B - 1 ≤ 18446744073709551615 := by rcases hB with rfl | rfl | rfl <;> decide
 unfold z4q Lib.parseUintB
 by_cases hr : r = []
 ·subst hr; rfl
 ·rw [if_neg hr]
  have key := fun u => z26 (2 ^ B - 1) hM r 0 u (Nat.zero_le _)
  cases h1 : Lib.parseUint10 0 r with
  | ok u =>
   by_cases hu : u ≤ 2 ^ B - 1
   ·rw [(key u).2 ⟨h1, hu⟩]
    by_cases hd : H5 u = r
    ·show (if H5 u = r then some u else none) = (if r ≠ [] ∧ u ≤ 2 ^ B - 1 ∧ H5 u = r then some u else none)
     rw [if_pos hd, if_pos ⟨hr, hu, hd⟩]
    ·show (if H5 u = r then some u else none) = (if r ≠ [] ∧ u ≤ 2 ^ B - 1 ∧ H5 u = r then some u else none)
     rw [if_neg hd, if_neg (fun h => hd h.2.2)]
   ·show _ = (if r ≠ [] ∧ u ≤ 2 ^ B - 1 ∧ H5 u = r then some u else none)
    rw [if_neg (show ¬ (r ≠ [] ∧ u ≤ 2 ^ B - 1 ∧ H5 u = r) from fun h => hu h.2.1)]
    cases h2 : Lib.parseUintM (2 ^ B - 1) 0 r with
    | ok v => have := (key v).1 h2; rw [h1] at this; obtain ⟨h3, h4⟩ := this; cases h3; omega
    | range => rfl
    | _ => rfl
  | range =>
   cases h2 : Lib.parseUintM (2 ^ B - 1) 0 r with
   | ok v => have := (key v).1 h2; rw [h1] at this; cases this.1
   | range => rfl
   | _ => rfl
  | _ =>
   cases h2 : Lib.parseUintM (2 ^ B - 1) 0 r with
   | ok v => have := (key v).1 h2; rw [h1] at this; cases this.1
   | range => rfl
   | _ => rfl
end Go.Proofs.YtdoajkacibicoaaDoor
namespace Go.Proofs.YtdoajkacibicoaaDoor
open Go Go.E
set_option maxRecDepth 100000
set_option maxHeartbeats 4000000
set_option linter.unusedVariables false
noncomputable def z8C : Hints := [([1, 0, 1, 1, 1], ⟨[], [(5, .sl 16 .str 5005)], [], [], [], []⟩),
  ([4, 1, 0, 1, 1, 1], ⟨[0], [(5, .sl 16 .str 5005), (6, .d (.int .i64))], [], [], [], []⟩),
  ([1, 0, 1, 1, 4, 1, 5, 4, 1, 0, 1, 1, 1], ⟨[0, 9], [(5, .sl 16 .str 5005), (11, .d .str)], [], [], [], []⟩),
  ([9], ⟨[], [(2, .d .str), (3, .d (.int .i64))], [], [], [], []⟩)]
noncomputable def z0I (N : Nat) : OvS (X0 gl0) where
 g R := [(10, q2O N), (12, q37 N), (23, z0q N), (14, q8G N)]
 ok := fun R => List.forall_mem_cons.2 ⟨q5P N, List.forall_mem_cons.2 ⟨q9k N, List.forall_mem_cons.2 ⟨z4A N, List.forall_mem_cons.2 ⟨z9a N, fun _ h => nomatch h⟩⟩⟩⟩
noncomputable def q39 {R : Type} (N : Nat) (k2 : KD R) : KD R → List C → List Es → Option R := (fun k3 d1 m1 => (bif decide (C.toInt (dk d1 2) < (↑(List.length (C.elems (dk d1 0))) : Int)) then (if List.length (C.elems (dk d1 0)) ≤ 256 ∧ 0 ≤ C.toInt (dk d1 2) ∧ C.toInt (dk d1 2) ≤ 100000 then (if (0 ≤ if o6 (C.elems (dk d1 0)) (Int.toNat (C.toInt (dk d1 2))) = 0 then bN (C.elems (dk d1 0)) (Int.toNat (C.toInt (dk d1 2))) else 0) ∧ (if o6 (C.elems (dk d1 0)) (Int.toNat (C.toInt (dk d1 2))) = 0 then bN (C.elems (dk d1 0)) (Int.toNat (C.toInt (dk d1 2))) else 0) < 18 then (if (0 ≤ if o6 (C.elems (dk d1 0)) (Int.toNat (C.toInt (dk d1 2))) = 0 then bN (C.elems (dk d1 0)) (Int.toNat (C.toInt (dk d1 2))) else 0) ∧ (if o6 (C.elems (dk d1 0)) (Int.toNat (C.toInt (dk d1 2))) = 0 then bN (C.elems (dk d1 0)) (Int.toNat (C.toInt (dk d1 2))) else 0) < 18 then (jn (fun d2 m2 => (bif Nat.beq (List.length (C.elems (dk d2 2))) (List.length (C.elems (dk d2 2))) then (if (List.length (C.elems (dk d2 2)) + 1) * 16 ≤ 140737488355328 ∧ List.length (C.elems (dk d2 2)) + 1 ≤ 9223372036854775807 then (bif Nat.beq (List.length (C.elems (dk d2 2)) + 1) (List.length (C.elems (dk d2 2) ++ [dk d2 3])) then (k3 [dk d2 0, C.slice (C.elems (dk d2 2) ++ [dk d2 3]), dk d2 1] []) else none) else none) else none)) (fun k4 => (bif decide (0 < C.toInt (C.get (C.get (C.agg Z5) (Int.toNat (if o6 (C.elems (dk d1 0)) (Int.toNat (C.toInt (dk d1 2))) = 0 then bN (C.elems (dk d1 0)) (Int.toNat (C.toInt (dk d1 2))) else 0))) 1)) then (if 1 + List.length (H5 (Int.toNat (if o6 (C.elems (dk d1 0)) (Int.toNat (C.toInt (dk d1 2))) = 0 then b6 (C.elems (dk d1 0)) (Int.toNat (C.toInt (dk d1 2)) + 1) (y5 (bN (C.elems (dk d1 0)) (Int.toNat (C.toInt (dk d1 2))))) else 0))) ≤ 140737488355328 then (if List.length (C.toStr (C.get (C.get (C.agg Z5) (Int.toNat (if o6 (C.elems (dk d1 0)) (Int.toNat (C.toInt (dk d1 2))) = 0 then bN (C.elems (dk d1 0)) (Int.toNat (C.toInt (dk d1 2))) else 0))) 0)) + List.length ([UInt8.ofNat 32] ++ H5 (Int.toNat (if o6 (C.elems (dk d1 0)) (Int.toNat (C.toInt (dk d1 2))) = 0 then b6 (C.elems (dk d1 0)) (Int.toNat (C.toInt (dk d1 2)) + 1) (y5 (bN (C.elems (dk d1 0)) (Int.toNat (C.toInt (dk d1 2))))) else 0))) ≤ 140737488355328 then (bif Nat.beq (List.length (C.elems (dk d1 1))) (List.length (C.elems (dk d1 1))) then (k4 [dk d1 0, C.int (if o6 (C.elems (dk d1 0)) (Int.toNat (C.toInt (dk d1 2))) = 0 then (↑(Int.toNat (C.toInt (dk d1 2)) + 1 + y5 (bN (C.elems (dk d1 0)) (Int.toNat (C.toInt (dk d1 2))))) : Int) else 0), C.slice (C.elems (dk d1 1)), C.str (C.toStr (C.get (C.get (C.agg Z5) (Int.toNat (if o6 (C.elems (dk d1 0)) (Int.toNat (C.toInt (dk d1 2))) = 0 then bN (C.elems (dk d1 0)) (Int.toNat (C.toInt (dk d1 2))) else 0))) 0) ++ ([UInt8.ofNat 32] ++ H5 (Int.toNat (if o6 (C.elems (dk d1 0)) (Int.toNat (C.toInt (dk d1 2))) = 0 then b6 (C.elems (dk d1 0)) (Int.toNat (C.toInt (dk d1 2)) + 1) (y5 (bN (C.elems (dk d1 0)) (Int.toNat (C.toInt (dk d1 2))))) else 0))))] []) else none) else none) else none) else (bif Nat.beq (List.length (C.elems (dk d1 1))) (List.length (C.elems (dk d1 1))) then (k4 [dk d1 0, C.int (if o6 (C.elems (dk d1 0)) (Int.toNat (C.toInt (dk d1 2))) = 0 then (↑(Int.toNat (C.toInt (dk d1 2)) + 1 + y5 (bN (C.elems (dk d1 0)) (Int.toNat (C.toInt (dk d1 2))))) : Int) else 0), C.slice (C.elems (dk d1 1)), C.get (C.get (C.agg Z5) (Int.toNat (if o6 (C.elems (dk d1 0)) (Int.toNat (C.toInt (dk d1 2))) = 0 then bN (C.elems (dk d1 0)) (Int.toNat (C.toInt (dk d1 2))) else 0))) 0] []) else none)))) else none) else none) else none) else (bif Nat.beq (List.length (C.elems (dk d1 1))) (List.length (C.elems (dk d1 1))) then (k2 [C.slice (C.elems (dk d1 1))] []) else none)))
noncomputable def q38 {R : Type} (N : Nat) (a0 : C) (k1 : KD R) : Option R := (bif !decide (W1 (C.elems a0) = 0) then (k1 [C.str [], C.int (W1 (C.elems a0))] []) else (jn (fun d1 m1 => (if List.length (J6 [UInt8.ofNat 10] (List.map (fun x => match x with | C.str l => l | x => []) (C.elems (dk d1 0)))) ≤ 140737488355328 then (k1 [C.str (J6 [UInt8.ofNat 10] (List.map (fun x => match x with | C.str l => l | x => []) (C.elems (dk d1 0)))), C.int 0] []) else none)) (fun k2 => (U4 N (q39 N k2) [a0, C.slice [], C.int 0] []))))
noncomputable def F8 {R : Type} (N : Nat) : C → KD R → Option R := lid "" (q38 N)
theorem z0H {R : Type} (N : Nat) (a0 : C) (k : KD R) : F8 N a0 k = q38 N a0 k := by unfold F8; rw [W7]
theorem z6n {R : Type} (N : Nat) (a0 : C) (K : V → List (Key × O) → Option R) : exF (X0 gl0) ((z0I N).ov R) q0X noX (fun f => bif Nat.beq f 5 then z8C else []) N 400 8 5 [.d (.slice 1 (.int .u8)) a0] A0 K =
  F8 N a0 (fun d1 m1 => K (V.tup [V.d Ty.str (dk d1 0), V.d (Ty.int IntKind.i64) (dk d1 1)]) []) := by
 rw [z0H]
 exact (show _ = jn (fun d1 m1 => (K (V.tup [V.d Ty.str (dk d1 0), V.d (Ty.int IntKind.i64) (dk d1 1)]) [])) (q38 N a0) by kernel_rfl).trans (Y2 _ _)
noncomputable def q7D (N : Nat) {R : Type} : OvG R := fun xs _ K => match xs with
 | [.d t0 a0] => if t0 = (.slice 1 (.int .u8)) then F8 N a0 (fun d1 m1 => K (V.tup [V.d Ty.str (dk d1 0), V.d (Ty.int IntKind.i64) (dk d1 1)]) []) else none
 | _ => none
theorem z8B (N : Nat) {R : Type} : GOk (X0 gl0) 5 (q7D N (R := R)) := by
 intro xs A Kr r hr
 unfold q7D at hr
 split at hr
 ·simp only [Option.ite_none_right_eq_some] at hr
  obtain ⟨hty, hr⟩ := hr
  subst hty
  rw [← z6n] at hr
  exact okA (z0I N) hr
 ·cases hr
end Go.Proofs.YtdoajkacibicoaaDoor
namespace Go.Proofs.YtdoajkacibicoaaDoor
open Go Go.E
set_option maxRecDepth 100000
set_option maxHeartbeats 4000000
set_option linter.unusedSimpArgs false
variable {R : Type} {N : Nat}
theorem y2t {o : Nat} (h : o < 18) : (Z5.getD o .nil).get 0 = .str (q0P o) := by
 rcases q6M h with rfl | rfl | rfl | rfl | rfl | rfl | rfl | rfl | rfl | rfl | rfl | rfl | rfl | rfl | rfl | rfl | rfl | rfl <;> rfl
theorem y3G {o : Nat} (h : o < 18) : (q0P o).length ≤ 10 := by
 rcases q6M h with rfl | rfl | rfl | rfl | rfl | rfl | rfl | rfl | rfl | rfl | rfl | rfl | rfl | rfl | rfl | rfl | rfl | rfl <;> decide
theorem y5Q (n : Nat) (h : n < 18446744073709551616) : (H5 n).length ≤ 20 := by rw [q8f n h]; exact z0z n h
def q0S (p : List C) (i : Nat) : List UInt8 := q0P (bN p i).toNat ++ (if 0 < y5 (bN p i) then [UInt8.ofNat 32] ++ H5 (b6 p (i + 1) (y5 (bN p i))).toNat else [])
def Q0 (p : List C) : Nat → Nat → List (List UInt8)
 | 0, _ => []
 | f + 1, i => if p.length ≤ i then [] else q0S p i :: Q0 p f (i + 1 + y5 (bN p i))
structure At (p : List C) (i : Nat) : Prop where
 err : o6 p i = 0
 nxt : i + 1 + y5 (bN p i) ≤ p.length
 op : ∃ o : Nat, o < 18 ∧ bN p i = (o : Int)
 arg : 0 ≤ b6 p (i + 1) (y5 (bN p i)) ∧ b6 p (i + 1) (y5 (bN p i)) ≤ 18446744073709551615
def z0O (p : List C) (i : Nat) : Prop := i ≤ p.length ∧ ∃ bs, (q06 p (p.length - i) i bs).1 = 0
theorem z0O.at_ {p : List C} (hp : C.wf (.slice 1 (.int .u8)) (.slice p)) {i : Nat} (h : z0O p i) (hi : i < p.length) : At p i ∧ z0O p (i + 1 + y5 (bN p i)) := by
 obtain ⟨hle, bs, hs⟩ := h
 have hst := z2M (bs := bs) hi rfl
 have he : o6 p i = 0 := by
  by_cases he : o6 p i = 0
  ·exact he
  ·have := hst.1 he; rw [this] at hs; exact absurd hs he
 obtain ⟨h1, h2⟩ := hst.2 he
 have hb := q7k hp hi
 have h18 : ¬ 18 ≤ bN p i := by
  intro h
  unfold o6 at he
  rw [if_neg (by omega), if_pos h] at he
  cases he
 have harg := z4S hp (i := i + 1) (k := y5 (bN p i)) (by omega) (q8B _)
 refine ⟨⟨he, h1, ⟨(bN p i).toNat, by omega, by omega⟩, harg.1, harg.2.1⟩, h1, bs ++ [i], ?_⟩
 rw [h2]; exact hs
theorem z5u {p : List C} {i : Nat} (h : At p i) : (q0S p i).length ≤ 31 := by
 obtain ⟨o, ho, hb⟩ := h.op
 have h1 := y3G ho
 have h2 := y5Q (b6 p (i + 1) (y5 (bN p i))).toNat (by have := h.arg; omega)
 unfold q0S
 rw [hb, Int.toNat_natCast] at *
 split <;> simp only [List.length_append, List.length_cons, List.length_nil] <;> omega
theorem z3V {p : List C} (hp : C.wf (.slice 1 (.int .u8)) (.slice p)) (hl : p.length ≤ 256) (N0 : Nat) (k2 : KD R) : ∀ (f i : Nat) (out : List C) (M : Nat), p.length - i ≤ f → z0O p i → out.length + f ≤ 1000 →
  U4 (M + f + 1) (q39 N0 k2) [.slice p, .slice out, .int (i : Int)] [] = k2 [.slice (out ++ (Q0 p f i).map C.str)] []
 | f, i, out, M, hf, hok, ho => by
  rw [q1b]
  by_cases hi : i < p.length
  ·cases f with
   | zero => omega
   | succ f =>
    obtain ⟨hat, hok'⟩ := hok.at_ hp hi
    have hlt := z5u hat
    obtain ⟨o, ho18, hb⟩ := hat.op
    have h1 : (i : Int) < (p.length : Int) := by omega
    have he := hat.err
    have hg : p.length ≤ 256 ∧ (0 : Int) ≤ (i : Int) ∧ (i : Int) ≤ 100000 := by omega
    have ho1 : (0 : Int) ≤ (o : Int) ∧ (o : Int) < 18 := by omega
    have hget : C.get (.agg Z5) o = Z5.getD o .nil := rfl
    have hbq : ∀ x : C, (out.length + 1).beq (out ++ [x]).length = true := fun x => by simp
    have hg2 : (out.length + 1) * 16 ≤ 140737488355328 ∧ out.length + 1 ≤ 9223372036854775807 := by omega
    have ih := z3V hp hl N0 k2 f (i + 1 + y5 (bN p i)) (out ++ [.str (q0S p i)]) M (by omega) hok' (by simp only [List.length_append, List.length_cons, List.length_nil]; omega)
    have e1 : Q0 p (f + 1) i = q0S p i :: Q0 p f (i + 1 + y5 (bN p i)) := by rw [Q0, if_neg (by omega)]
    rw [e1]
    rw [show out ++ (q0S p i :: Q0 p f (i + 1 + y5 (bN p i))).map C.str = (out ++ [C.str (q0S p i)]) ++ (Q0 p f (i + 1 + y5 (bN p i))).map C.str by simp]
    rw [← ih]
    unfold q0S at hlt ⊢
    have hm := q3U ho18
    have hmb : y5 (bN p i) = y5 (o : Int) := by rw [hb]
    unfold q39
    simp only [Y2, q2i, q5O, q8W, s8, b8, q4Y, h1, decide_true, cond_true, hg, and_self, if_true, Int.toNat_natCast, he, hb, ho1, hget, y2t ho18, q8Q o ho18, Nat.beq_refl] at hlt ⊢
    by_cases hmm : 0 < y5 (o : Int)
    ·have hmm' : (0 : Int) < (y5 (o : Int) : Int) := by omega
     simp only [hmm, hmm', decide_true, cond_true, if_true, List.length_append, List.length_cons, List.length_nil] at hlt ⊢
     refine (if_pos (by omega)).trans ?_
     refine (if_pos (by omega)).trans ?_
     simp only [q2i, q5O, q8W, z8o, b8, Nat.beq_refl, cond_true]
     refine (if_pos hg2).trans ?_
     rfl
    ·have hmm' : ¬ (0 : Int) < (y5 (o : Int) : Int) := by omega
     simp only [hmm, hmm', decide_false, cond_false, if_false, List.append_nil, q2i, q5O, q8W, z8o, b8, Nat.beq_refl, cond_true]
     refine (if_pos hg2).trans ?_
     simp only [hbq, cond_true]
     rfl
  ·have e : i = p.length := by have := hok.1; omega
   subst e
   have e1 : Q0 p f p.length = [] := by cases f with
    | zero => rfl
    | succ f => rw [Q0, if_pos (Nat.le_refl _)]
   rw [e1]
   unfold q39
   simp only [q2i, q5O, q8W, s8, b8, Int.lt_irrefl, decide_false, cond_false, Nat.beq_refl, cond_true, List.map_nil, List.append_nil]
end Go.Proofs.YtdoajkacibicoaaDoor
namespace Go.Proofs.YtdoajkacibicoaaDoor
open Go Go.E
set_option maxRecDepth 100000
set_option maxHeartbeats 4000000
set_option linter.unusedSimpArgs false
variable {R : Type} {N : Nat}
theorem q56 (sep x : List UInt8) : ∀ l : List (List UInt8), J6 sep (x :: l) = x ++ (l.map fun y => sep ++ y).flatten
 | [] => by simp [J6]
 | y :: l => by
  have ih := q56 sep y l
  show x ++ sep ++ J6 sep (y :: l) = _
  rw [ih]; simp
end Go.Proofs.YtdoajkacibicoaaDoor
namespace Go.Proofs.YtdoajkacibicoaaDoor
open Go Go.E
set_option maxRecDepth 100000
set_option maxHeartbeats 4000000
set_option linter.unusedSimpArgs false
variable {R : Type} {N : Nat}
end Go.Proofs.YtdoajkacibicoaaDoor
namespace Go.Proofs.YtdoajkacibicoaaDoor
open Go Go.E
set_option maxRecDepth 100000
set_option maxHeartbeats 4000000
set_option linter.unusedVariables false
noncomputable def z6p : Hints := [([1, 0, 1, 1, 1, 1], ⟨[], [(4, .sl 1 (.int .u8) 5004)], [], [], [], []⟩),
  ([4, 1, 0, 1, 1, 1, 1], ⟨[18, 19], [(4, .sl 1 (.int .u8) 5004), (20, .d (.int .i64))], [], [], [], []⟩),
  ([9], ⟨[], [(2, .sl 1 (.int .u8) 5002), (3, .d (.int .i64))], [], [], [], []⟩)]
noncomputable def q9m (N : Nat) : OvS (X0 gl0) where
 g R := [(10, q2O N), (19, q4Q N), (20, q6Q N)]
 ok := fun R => List.forall_mem_cons.2 ⟨q5P N, List.forall_mem_cons.2 ⟨z0f N, List.forall_mem_cons.2 ⟨z6l N, fun _ h => nomatch h⟩⟩⟩
noncomputable def q04 {R : Type} (N : Nat) (k1 : KD R) (k2 : KD R) : KD R → List C → List Es → Option R := (fun k3 d1 m1 => (bif decide (C.toInt (dk d1 3) < C.toInt (dk d1 1)) then (if 0 ≤ C.toInt (dk d1 3) ∧ C.toInt (dk d1 3) < (↑(List.length (C.elems (dk d1 0))) : Int) then (q1w N (List.getD (C.elems (dk d1 0)) (Int.toNat (C.toInt (dk d1 3))) C.nil) (fun d2 m2 => (bif !decide (C.toInt (dk d2 1) = 0) then (k1 [C.slice [], dk d2 1] []) else (bif Nat.beq (List.length (C.elems (dk d1 2))) (List.length (C.elems (dk d1 2))) then (if (List.length (C.elems (dk d1 2)) + List.length (C.elems (dk d2 0))) * 1 ≤ 140737488355328 ∧ List.length (C.elems (dk d1 2)) + List.length (C.elems (dk d2 0)) ≤ 9223372036854775807 then (bif Nat.beq (List.length (C.elems (dk d1 2)) + List.length (C.elems (dk d2 0))) (List.length (C.elems (dk d1 2) ++ C.elems (dk d2 0))) then (k3 [dk d1 0, dk d1 1, C.slice (C.elems (dk d1 2) ++ C.elems (dk d2 0)), C.int (IntKind.wrap IntKind.i64 (C.toInt (dk d1 3) + 1))] []) else none) else none) else none)))) else none) else (bif Nat.beq (List.length (C.elems (dk d1 2))) (List.length (C.elems (dk d1 2))) then (k2 [C.slice (C.elems (dk d1 2))] []) else none)))
noncomputable def q1Y {R : Type} (N : Nat) (a0 : C) (k1 : KD R) : Option R := (bif decide (4096 < (↑(List.length (C.toStr a0)) : Int)) then (k1 [C.slice [], C.int 8] []) else (bif C.toStr a0 == [] then (k1 [C.slice [], C.int 0] []) else (if 1 = 1 ∧ List.length (C.toStr a0) < 4294967281 then (jn (fun d1 m1 => (bif !decide (W1 (C.elems (dk d1 0)) = 0) then (k1 [C.slice [], C.int (W1 (C.elems (dk d1 0)))] []) else (bif Nat.beq (List.length (C.elems (dk d1 0))) (List.length (C.elems (dk d1 0))) then (k1 [C.slice (C.elems (dk d1 0)), C.int 0] []) else none))) (fun k2 => (U4 N (q04 N k1 k2) [C.slice (List.map C.str (j5 (UInt8.ofNat 10) (C.toStr a0))), C.int (↑(List.length (List.map C.str (j5 (UInt8.ofNat 10) (C.toStr a0)))) : Int), C.slice [], C.int 0] []))) else none)))
noncomputable def J8 {R : Type} (N : Nat) : C → KD R → Option R := lid "" (q1Y N)
theorem q9l {R : Type} (N : Nat) (a0 : C) (k : KD R) : J8 N a0 k = q1Y N a0 k := by unfold J8; rw [W7]
theorem z4P {R : Type} (N : Nat) (a0 : C) (K : V → List (Key × O) → Option R) : exF (X0 gl0) ((q9m N).ov R) q0X noX (fun f => bif Nat.beq f 7 then z6p else []) N 400 8 7 [.d .str a0] A0 K =
  J8 N a0 (fun d1 m1 => K (V.tup [V.ts 1 (Ty.int IntKind.u8) (C.elems (dk d1 0)), V.d (Ty.int IntKind.i64) (dk d1 1)]) []) := by
 rw [q9l]
 exact (show _ = jn (fun d1 m1 => (bif Nat.beq (List.length (C.elems (dk d1 0))) (List.length (C.elems (dk d1 0))) then
  (K (V.tup [V.ts 1 (Ty.int IntKind.u8) (C.elems (dk d1 0)), V.d (Ty.int IntKind.i64) (dk d1 1)]) [])
 else
  none)) (q1Y N a0) by kernel_rfl).trans ((Y2 _ _).trans (congrArg (q1Y N a0) (funext fun _ => funext fun _ => by simp only [Nat.beq_refl, cond_true])))
noncomputable def q6R (N : Nat) {R : Type} : OvG R := fun xs _ K => match xs with
 | [.d t0 a0] => if t0 = .str then J8 N a0 (fun d1 m1 => K (V.tup [V.ts 1 (Ty.int IntKind.u8) (C.elems (dk d1 0)), V.d (Ty.int IntKind.i64) (dk d1 1)]) []) else none
 | _ => none
theorem z6o (N : Nat) {R : Type} : GOk (X0 gl0) 7 (q6R N (R := R)) := by
 intro xs A Kr r hr
 unfold q6R at hr
 split at hr
 ·simp only [Option.ite_none_right_eq_some] at hr
  obtain ⟨hty, hr⟩ := hr
  subst hty
  rw [← z4P] at hr
  exact okA (q9m N) hr
 ·cases hr
end Go.Proofs.YtdoajkacibicoaaDoor
namespace Go.Proofs.YtdoajkacibicoaaDoor
open Go Go.E
set_option maxRecDepth 100000
set_option maxHeartbeats 4000000
set_option linter.unusedSimpArgs false
variable {R : Type} {N : Nat}
theorem y3x (f : Bool) (rest : List UInt8) (o : Nat) : (q9W f rest o).1.length ≤ 9 := by
 unfold q9W
 have := q8B (o : Int)
 split
 ·cases f with
  | true =>
   simp only [cond_true]
   split
   ·rw [List.length_cons, q1g]; omega
   ·simp
  | false => simp
 ·simp
theorem y3y (nm : List UInt8) (f : Bool) (rest : List UInt8) : (q8A nm f rest).1.length ≤ 9 := by
 have key : ∀ (l : List Nat) (i : Nat), match q1f (fun o (_ : Unit) (_ : Nat) => q8z nm f rest o) i () l with | .inl _ => True | .inr r => r.1.length ≤ 9 := by
  intro l
  induction l with
  | nil => intro i; trivial
  | cons _ l ih =>
   intro i
   simp only [q1f]
   unfold q8z
   by_cases h : q0P i = nm
   ·rw [if_pos h]; exact y3x _ _ _
   ·rw [if_neg h]; exact ih (i + 1)
 have := key (List.range 18) 0
 unfold q8A
 revert this
 cases q1f (fun o (_ : Unit) (_ : Nat) => q8z nm f rest o) 0 () (List.range 18) with
 | inl _ => intro _; simp
 | inr r => intro h; exact h
theorem z7i (s : List UInt8) : (q1F s).1.length ≤ 9 := y3y _ _ _
def q5H (out : List C) (s : List UInt8) : List C ⊕ Int := if (q1F s).2 = 0 then .inl (out ++ (q1F s).1) else .inr (q1F s).2
def q8F (ls : List (List UInt8)) : List C ⊕ Int := q1f (fun _ out s => q5H out s) 0 [] ls
theorem y3M {n : Nat} {out out' : List C} {s : List UInt8} (ho : out.length ≤ 9 * n) (h : q5H out s = .inl out') : out'.length ≤ 9 * (n + 1) := by
 unfold q5H at h
 split at h
 ·cases h; have := z7i s; rw [List.length_append]; omega
 ·cases h
theorem y6H (ls : List (List UInt8)) (hl : ls.length ≤ 65537) (hw : ∀ w ∈ ls, w.length ≤ 65536) (hN : 140737488355329 < N) (k1 k2 : KD R) :
  U4 N (q04 N k1 k2) [.slice (ls.map C.str), .int (ls.length : Int), .slice [], .int 0] [] = (match q8F ls with | .inl out => k2 [.slice out] [] | .inr e => k1 [.slice [], .int e] []) := by
 have key := z5l (ε := Int) (N := N) (F := q04 N k1 k2) (fun i (out : List C) => [.slice (ls.map C.str), .int (ls.length : Int), .slice out, .int (i : Int)]) (fun _ _ => []) ls
   (fun _ out s => q5H out s) (fun out => k2 [.slice out] []) (fun e => k1 [.slice [], .int e] []) (fun i out => out.length ≤ 9 * i) (s0 := []) (Nat.le_refl _)
   (fun i out s hc ho => by
    have hi := (List.getElem?_eq_some_iff.1 hc).1
    have hs := hw s (List.mem_of_getElem? hc)
    refine ⟨fun rec => ?_, fun out' h => y3M ho h⟩
    have h1 : (i : Int) < (ls.length : Int) := by omega
    have hol := z7i s
    have g1 : (ls.map C.str).getD i .nil = .str s := by rw [List.getD_eq_getElem?_getD, List.getElem?_map, hc]; rfl
    have hb : (out.length + (q1F s).1.length).beq (out ++ (q1F s).1).length = true := by rw [List.length_append]; exact Nat.beq_refl _
    unfold q04
    simp only [go_sem, s8, b8, q4Y, Y0, List.length_map, h1, decide_true, cond_true, Int.natCast_nonneg, and_self, if_true, Int.toNat_natCast, g1, Nat.beq_refl]
    rw [y3w s (by omega) hN]
    simp only [go_sem, s8, b8]
    unfold q5H
    by_cases h0 : (q1F s).2 = 0
    ·rw [if_pos h0]
     simp only [h0, decide_true, Bool.not_true, cond_false, hb, cond_true, q6W (show i < 4611686018427387904 by omega)]
     exact if_pos (by omega)
    ·rw [if_neg h0]
     simp only [h0, decide_false, Bool.not_false, cond_true])
   (fun out ho rec => by
    unfold q04
    simp only [go_sem, s8, b8, q4Y, Y0, Int.lt_irrefl, decide_false, cond_false, Nat.beq_refl, cond_true]) (by omega)
 have key : U4 N (q04 N k1 k2) [.slice (ls.map C.str), .int (ls.length : Int), .slice [], .int 0] [] = _ := key
 rw [key]
 show y37 _ _ (q8F ls) = _
 cases q8F ls <;> rfl
theorem z5a (b : UInt8) : ∀ s, ∃ x l, j5 b s = x :: l
 | [] => ⟨_, _, rfl⟩
 | c :: s => by
  obtain ⟨x, l, h⟩ := z5a b s
  unfold j5
  split
  ·exact ⟨_, _, rfl⟩
  ·rw [h]; exact ⟨_, _, rfl⟩
end Go.Proofs.YtdoajkacibicoaaDoor
namespace Go.Proofs.YtdoajkacibicoaaDoor
open Go Go.E
set_option maxRecDepth 100000
set_option maxHeartbeats 4000000
set_option linter.unusedSimpArgs false
variable {R : Type} {N : Nat}
theorem y4Z (s : List UInt8) (hl : s.length ≤ 65536) (b : UInt8) : (j5 b s).length ≤ 65537 ∧ ∀ w ∈ j5 b s, w.length ≤ 65536 := by
 have h1 := q8n b s
 exact ⟨by omega, fun w hw => Nat.le_trans (q8m b s w hw) hl⟩
def q7s (t : List UInt8) : List C × Int :=
 if 4096 < t.length then ([], 8) else if t = [] then ([], 0) else match q8F (j5 (UInt8.ofNat 10) t) with
  | .inl out => if W1 out = 0 then (out, 0) else ([], W1 out)
  | .inr e => ([], e)
theorem y2T (t : List UInt8) (hN : 140737488355329 < N) (k : KD R) : J8 N (.str t) k = k [.slice (q7s t).1, .int (q7s t).2] [] := by
 rw [q9l]
 unfold q1Y q7s
 simp only [Y2, q4Y]
 by_cases h0 : 4096 < t.length
 ·have h0' : (4096 : Int) < (t.length : Int) := by omega
  simp only [h0, h0', decide_true, cond_true, if_true]
 ·have h0' : ¬ (4096 : Int) < (t.length : Int) := by omega
  simp only [h0, h0', decide_false, cond_false, if_false]
  by_cases h1 : t = []
  ·subst h1; rfl
  ·have h1' : (t == []) = false := by simpa using h1
   simp only [h1, h1', cond_false, if_false]
   refine (if_pos ⟨trivial, by omega⟩).trans ?_
   obtain ⟨w1, w3⟩ := y4Z t (by omega) (UInt8.ofNat 10)
   rw [List.length_map]
   refine (y6H _ w1 w3 hN _ _).trans ?_
   cases q8F (j5 (UInt8.ofNat 10) t) with
   | inl out =>
    simp only [q2i, b8, Nat.beq_refl, cond_true]
    by_cases hc : W1 out = 0
    ·simp only [hc, decide_true, Bool.not_true, cond_false, if_true]
    ·simp only [hc, decide_false, Bool.not_false, cond_true, if_false]
   | inr e => rfl
end Go.Proofs.YtdoajkacibicoaaDoor
namespace Go.Proofs.YtdoajkacibicoaaDoor
open Go Go.E
set_option maxRecDepth 100000
set_option maxHeartbeats 4000000
set_option linter.unusedVariables false
def q2L : List Sh := [.as (.ptr (.g (.l 1)) [] j4), .d (.int .i64)]
def q5u : List (Key × OSh) := [(.l 1, .box (.agg j4 [.vec (.g (.l 2)) 8 (.int .u64), .d (.int .i64)])), (.l 2, .box (.arr (.int .u64)))]
noncomputable def z0E : Hints := [([1], ⟨[0], [], [.g (.l 1), .g (.l 2)], [], [], [(.int .u64)]⟩),
  ([9], ⟨[], [], [.g (.l 1), .g (.l 2)], [], [], [(.int .u64)]⟩)]
noncomputable def q5t (N : Nat) : OvS (X0 gl0) where
 g R := []
 ok := fun R => fun _ h => nomatch h
noncomputable def q1c {R : Type} (N : Nat) (a0 b0 b1 b2 : C) (k1 : KD R) : Option R := (jn (fun d1 m1 => (if List.length (C.elems (dk d1 3)) = List.length (C.elems (dk d1 3)) then (k1 [C.int (↑(Int.toNat (C.toInt (dk d1 0))) : Int), dk d1 1, C.int (↑(Int.toNat (C.toInt (dk d1 2))) : Int), dk d1 3] []) else none)) (fun k2 => (bif decide (C.toInt b1 = 0) then (if List.length (C.elems b2) = List.length (C.elems b2) then (k2 [C.int (↑(Int.toNat (C.toInt b0)) : Int), a0, C.int (↑(List.length (C.elems b2)) : Int), b2] []) else none) else (if List.length (C.elems b2) = List.length (C.elems b2) then (k2 [C.int (↑(Int.toNat (C.toInt b0)) : Int), b1, C.int (↑(List.length (C.elems b2)) : Int), b2] []) else none))))
noncomputable def c7 {R : Type} (N : Nat) : C → C → C → C → KD R → Option R := lid "" (q1c N)
theorem q5s {R : Type} (N : Nat) (a0 b0 b1 b2 : C) (k : KD R) : c7 N a0 b0 b1 b2 k = q1c N a0 b0 b1 b2 k := by unfold c7; rw [W7]
theorem q9s {R : Type} (N : Nat) (a0 b0 b1 b2 : C) (K : V → List (Key × O) → Option R) : exF (X0 gl0) ((q5t N).ov R) q0X noX (fun f => bif Nat.beq f 47 then z0E else []) N 400 8 47 (Sh.X7 q2L 0 [a0, b0, b1, b2]) (z6 (w7 q5u (Sh.q0x q2L) 0 [a0, b0, b1, b2] [])) K =
  c7 N a0 b0 b1 b2 (fun d1 m1 => K (V.tup []) [(Key.g (Key.l 1),
  O.box
   (V.agg j4
    [V.sr (Key.l 1000000000074) [] 0 (Int.toNat (C.toInt (dk d1 0))) none 8 (Ty.int IntKind.u64),
     V.d (Ty.int IntKind.i64) (dk d1 1)])),
 (Key.g (Key.l 2), O.dead (Ty.arr (Int.toNat (C.toInt (dk d1 2))) (Ty.int IntKind.u64))),
 (Key.l 1000000000074, O.box (V.d (Ty.arr (List.length (C.elems (dk d1 3))) (Ty.int IntKind.u64)) (dk d1 3)))]) := by
 rw [q5s]
 exact (show _ = jn (fun d1 m1 => (K (V.tup []) [(Key.g (Key.l 1),
  O.box
   (V.agg j4
    [V.sr (Key.l 1000000000074) [] 0 (Int.toNat (C.toInt (dk d1 0))) none 8 (Ty.int IntKind.u64),
     V.d (Ty.int IntKind.i64) (dk d1 1)])),
 (Key.g (Key.l 2), O.dead (Ty.arr (Int.toNat (C.toInt (dk d1 2))) (Ty.int IntKind.u64))),
 (Key.l 1000000000074, O.box (V.d (Ty.arr (List.length (C.elems (dk d1 3))) (Ty.int IntKind.u64)) (dk d1 3)))])) (q1c N a0 b0 b1 b2) by kernel_rfl).trans (Y2 _ _)
noncomputable def q0t (N : Nat) {R : Type} : OvG R := q8w q2L q5u fun ds ms K => c7 N (dk ds 0) (dk ds 1) (dk ds 2) (dk ds 3) (fun d1 m1 => K (V.tup []) [(Key.g (Key.l 1),
  O.box
   (V.agg j4
    [V.sr (Key.l 1000000000074) [] 0 (Int.toNat (C.toInt (dk d1 0))) none 8 (Ty.int IntKind.u64),
     V.d (Ty.int IntKind.i64) (dk d1 1)])),
 (Key.g (Key.l 2), O.dead (Ty.arr (Int.toNat (C.toInt (dk d1 2))) (Ty.int IntKind.u64))),
 (Key.l 1000000000074, O.box (V.d (Ty.arr (List.length (C.elems (dk d1 3))) (Ty.int IntKind.u64)) (dk d1 3)))])
theorem q2K (N : Nat) {R : Type} : GOk (X0 gl0) 47 (q0t N (R := R)) := by
 unfold q0t
 refine q4q fun ds ms K r hr => ?_
 rw [← q9s] at hr
 exact okB (q5t N) hr
def q27 : List Sh := [.as (.ptr (.g (.l 1)) [] j4)]
def q5Y : List (Key × OSh) := [(.l 1, .box (.agg j4 [.vec (.g (.l 2)) 8 (.int .u64), .d (.int .i64)])), (.l 2, .box (.arr (.int .u64)))]
noncomputable def z1t : Hints := [([9], ⟨[], [(2, .d (.int .u64))], [.g (.l 1), .g (.l 2)], [], [], [(.int .u64)]⟩)]
noncomputable def q5X (N : Nat) : OvS (X0 gl0) where
 g R := [(47, q0t N)]
 ok := fun R => List.forall_mem_cons.2 ⟨q2K N, fun _ h => nomatch h⟩
noncomputable def q0s {R : Type} (N : Nat) (b0 b1 b2 : C) (k1 : KD R) : Option R := (bif decide ((↑(Int.toNat (C.toInt b0)) : Int) = 0) then (if List.length (C.elems b2) = List.length (C.elems b2) then (c7 N (C.int 12) (C.int (↑(Int.toNat (C.toInt b0)) : Int)) b1 b2 (fun d1 m1 => (if List.length (C.elems (dk d1 3)) = List.length (C.elems (dk d1 3)) then (k1 [C.int 0, C.int (↑(Int.toNat (C.toInt (dk d1 0))) : Int), dk d1 1, C.int (↑(Int.toNat (C.toInt (dk d1 2))) : Int), dk d1 3] []) else none))) else none) else (if 0 ≤ IntKind.wrap IntKind.i64 ((↑(Int.toNat (C.toInt b0)) : Int) - 1) ∧ IntKind.wrap IntKind.i64 ((↑(Int.toNat (C.toInt b0)) : Int) - 1) < (↑(Int.toNat (C.toInt b0)) : Int) then (if Int.ofNat 0 ≤ 0 ∧ 0 ≤ IntKind.wrap IntKind.i64 ((↑(Int.toNat (C.toInt b0)) : Int) - 1) ∧ IntKind.wrap IntKind.i64 ((↑(Int.toNat (C.toInt b0)) : Int) - 1) ≤ (↑(Int.toNat (C.toInt b0)) : Int) then (if List.length (C.elems b2) = List.length (C.elems b2) then (k1 [C.get b2 (0 + Int.toNat (IntKind.wrap IntKind.i64 ((↑(Int.toNat (C.toInt b0)) : Int) - 1))), C.int (↑(Int.toNat (IntKind.wrap IntKind.i64 ((↑(Int.toNat (C.toInt b0)) : Int) - 1) - 0)) : Int), b1, C.int (↑(List.length (C.elems b2)) : Int), b2] []) else none) else none) else none))
noncomputable def x8 {R : Type} (N : Nat) : C → C → C → KD R → Option R := lid "" (q0s N)
theorem q26 {R : Type} (N : Nat) (b0 b1 b2 : C) (k : KD R) : x8 N b0 b1 b2 k = q0s N b0 b1 b2 k := by unfold x8; rw [W7]
theorem z0D {R : Type} (N : Nat) (b0 b1 b2 : C) (K : V → List (Key × O) → Option R) : exF (X0 gl0) ((q5X N).ov R) q0X noX (fun f => bif Nat.beq f 32 then z1t else []) N 400 8 32 (Sh.X7 q27 0 [b0, b1, b2]) (z6 (w7 q5Y (Sh.q0x q27) 0 [b0, b1, b2] [])) K =
  x8 N b0 b1 b2 (fun d1 m1 => K (V.d (Ty.int IntKind.u64) (dk d1 0)) [(Key.g (Key.l 1),
  O.box
   (V.agg j4
    [V.sr (Key.l 1000000000074) [] 0 (Int.toNat (C.toInt (dk d1 1))) none 8 (Ty.int IntKind.u64),
     V.d (Ty.int IntKind.i64) (dk d1 2)])),
 (Key.g (Key.l 2), O.dead (Ty.arr (Int.toNat (C.toInt (dk d1 3))) (Ty.int IntKind.u64))),
 (Key.l 1000000000074, O.box (V.d (Ty.arr (List.length (C.elems (dk d1 4))) (Ty.int IntKind.u64)) (dk d1 4)))]) := by
 rw [q26]
 exact (show _ = jn (fun d1 m1 => (K (V.d (Ty.int IntKind.u64) (dk d1 0)) [(Key.g (Key.l 1),
  O.box
   (V.agg j4
    [V.sr (Key.l 1000000000074) [] 0 (Int.toNat (C.toInt (dk d1 1))) none 8 (Ty.int IntKind.u64),
     V.d (Ty.int IntKind.i64) (dk d1 2)])),
 (Key.g (Key.l 2), O.dead (Ty.arr (Int.toNat (C.toInt (dk d1 3))) (Ty.int IntKind.u64))),
 (Key.l 1000000000074, O.box (V.d (Ty.arr (List.length (C.elems (dk d1 4))) (Ty.int IntKind.u64)) (dk d1 4)))])) (q0s N b0 b1 b2) by kernel_rfl).trans (Y2 _ _)
noncomputable def q1M (N : Nat) {R : Type} : OvG R := q8w q27 q5Y fun ds ms K => x8 N (dk ds 0) (dk ds 1) (dk ds 2) (fun d1 m1 => K (V.d (Ty.int IntKind.u64) (dk d1 0)) [(Key.g (Key.l 1),
  O.box
   (V.agg j4
    [V.sr (Key.l 1000000000074) [] 0 (Int.toNat (C.toInt (dk d1 1))) none 8 (Ty.int IntKind.u64),
     V.d (Ty.int IntKind.i64) (dk d1 2)])),
 (Key.g (Key.l 2), O.dead (Ty.arr (Int.toNat (C.toInt (dk d1 3))) (Ty.int IntKind.u64))),
 (Key.l 1000000000074, O.box (V.d (Ty.arr (List.length (C.elems (dk d1 4))) (Ty.int IntKind.u64)) (dk d1 4)))])
theorem q5Z (N : Nat) {R : Type} : GOk (X0 gl0) 32 (q1M N (R := R)) := by
 unfold q1M
 refine q4q fun ds ms K r hr => ?_
 rw [← z0D] at hr
 exact okB (q5X N) hr
def q2J : List Sh := [.as (.ptr (.g (.l 1)) [] j4), .d (.slice 8 (.int .u64))]
def q5q : List (Key × OSh) := [(.l 1, .box (.agg j4 [.vec (.g (.l 2)) 8 (.int .u64), .d (.int .i64)])), (.l 2, .box (.arr (.int .u64)))]
noncomputable def z0C : Hints := [([1], ⟨[0], [], [.g (.l 1), .g (.l 2)], [], [], [(.int .u64)]⟩),
  ([4, 1], ⟨[0, 6, 7], [(8, .d (.int .i64))], [.g (.l 1), .g (.l 2)], [], [], [(.int .u64)]⟩),
  ([9], ⟨[], [], [.g (.l 1), .g (.l 2)], [], [], [(.int .u64)]⟩)]
noncomputable def q5p (N : Nat) : OvS (X0 gl0) where
 g R := [(47, q0t N)]
 ok := fun R => List.forall_mem_cons.2 ⟨q2K N, fun _ h => nomatch h⟩
noncomputable def q2I {R : Type} (N : Nat) (k1 : KD R) (k2 : KD R) : KD R → List C → List Es → Option R := (fun k3 d1 m1 => (bif decide (C.toInt (dk d1 2) < C.toInt (dk d1 1)) then (if 0 ≤ C.toInt (dk d1 2) ∧ C.toInt (dk d1 2) < (↑(List.length (C.elems (dk d1 0))) : Int) then (bif decide (32 ≤ (↑(Int.toNat (C.toInt (dk d1 3))) : Int)) then (if List.length (C.elems (dk d1 6)) = List.length (C.elems (dk d1 6)) then (c7 N (C.int 4) (C.int (↑(Int.toNat (C.toInt (dk d1 3))) : Int)) (dk d1 4) (dk d1 6) (fun d2 m2 => (if List.length (C.elems (dk d2 3)) = List.length (C.elems (dk d2 3)) then (k1 [C.int (↑(Int.toNat (C.toInt (dk d2 0))) : Int), dk d2 1, C.int (↑(Int.toNat (C.toInt (dk d1 5))) : Int), dk d2 3] []) else none))) else none) else (if false = false ∧ (Int.toNat (C.toInt (dk d1 3)) + 1) * 8 ≤ 140737488355328 ∧ Int.toNat (C.toInt (dk d1 3)) + 1 ≤ 9223372036854775807 then (if Int.toNat (C.toInt (dk d1 3)) + 1 = List.length (List.take (Int.toNat (C.toInt (dk d1 3))) (C.elems (dk d1 6)) ++ [List.getD (C.elems (dk d1 0)) (Int.toNat (C.toInt (dk d1 2))) C.nil]) then (k3 [dk d1 0, dk d1 1, C.int (IntKind.wrap IntKind.i64 (C.toInt (dk d1 2) + 1)), C.int (↑(Int.toNat (C.toInt (dk d1 3)) + 1) : Int), dk d1 4, C.int (↑(Int.toNat (C.toInt (dk d1 5))) : Int), C.agg (List.take (Int.toNat (C.toInt (dk d1 3))) (C.elems (dk d1 6)) ++ [List.getD (C.elems (dk d1 0)) (Int.toNat (C.toInt (dk d1 2))) C.nil])] []) else none) else none)) else none) else (if List.length (C.elems (dk d1 6)) = List.length (C.elems (dk d1 6)) then (k2 [C.int (↑(Int.toNat (C.toInt (dk d1 3))) : Int), dk d1 4, C.int (↑(Int.toNat (C.toInt (dk d1 5))) : Int), dk d1 6] []) else none)))
noncomputable def q0b {R : Type} (N : Nat) (a0 b0 b1 b2 : C) (k1 : KD R) : Option R := (jn (fun d1 m1 => (if List.length (C.elems (dk d1 3)) = List.length (C.elems (dk d1 3)) then (k1 [C.int (↑(Int.toNat (C.toInt (dk d1 0))) : Int), dk d1 1, C.int (↑(Int.toNat (C.toInt (dk d1 2))) : Int), dk d1 3] []) else none)) (fun k2 => (if List.length (C.elems b2) = List.length (C.elems b2) then (U4 N (q2I N k1 k2) [a0, C.int (↑(List.length (C.elems a0)) : Int), C.int 0, C.int (↑(Int.toNat (C.toInt b0)) : Int), b1, C.int (↑(List.length (C.elems b2)) : Int), b2] []) else none)))
noncomputable def r8 {R : Type} (N : Nat) : C → C → C → C → KD R → Option R := lid "" (q0b N)
theorem q2H {R : Type} (N : Nat) (a0 b0 b1 b2 : C) (k : KD R) : r8 N a0 b0 b1 b2 k = q0b N a0 b0 b1 b2 k := by unfold r8; rw [W7]
theorem q9r {R : Type} (N : Nat) (a0 b0 b1 b2 : C) (K : V → List (Key × O) → Option R) : exF (X0 gl0) ((q5p N).ov R) q0X noX (fun f => bif Nat.beq f 48 then z0C else []) N 400 8 48 (Sh.X7 q2J 0 [a0, b0, b1, b2]) (z6 (w7 q5q (Sh.q0x q2J) 0 [a0, b0, b1, b2] [])) K =
  r8 N a0 b0 b1 b2 (fun d1 m1 => K (V.tup []) [(Key.g (Key.l 1),
  O.box
   (V.agg j4
    [V.sr (Key.l 1000000000074) [] 0 (Int.toNat (C.toInt (dk d1 0))) none 8 (Ty.int IntKind.u64),
     V.d (Ty.int IntKind.i64) (dk d1 1)])),
 (Key.g (Key.l 2), O.dead (Ty.arr (Int.toNat (C.toInt (dk d1 2))) (Ty.int IntKind.u64))),
 (Key.l 1000000000074, O.box (V.d (Ty.arr (List.length (C.elems (dk d1 3))) (Ty.int IntKind.u64)) (dk d1 3)))]) := by
 rw [q2H]
 exact (show _ = jn (fun d1 m1 => (K (V.tup []) [(Key.g (Key.l 1),
  O.box
   (V.agg j4
    [V.sr (Key.l 1000000000074) [] 0 (Int.toNat (C.toInt (dk d1 0))) none 8 (Ty.int IntKind.u64),
     V.d (Ty.int IntKind.i64) (dk d1 1)])),
 (Key.g (Key.l 2), O.dead (Ty.arr (Int.toNat (C.toInt (dk d1 2))) (Ty.int IntKind.u64))),
 (Key.l 1000000000074, O.box (V.d (Ty.arr (List.length (C.elems (dk d1 3))) (Ty.int IntKind.u64)) (dk d1 3)))])) (q0b N a0 b0 b1 b2) by kernel_rfl).trans (Y2 _ _)
noncomputable def q1q (N : Nat) {R : Type} : OvG R := q8w q2J q5q fun ds ms K => r8 N (dk ds 0) (dk ds 1) (dk ds 2) (dk ds 3) (fun d1 m1 => K (V.tup []) [(Key.g (Key.l 1),
  O.box
   (V.agg j4
    [V.sr (Key.l 1000000000074) [] 0 (Int.toNat (C.toInt (dk d1 0))) none 8 (Ty.int IntKind.u64),
     V.d (Ty.int IntKind.i64) (dk d1 1)])),
 (Key.g (Key.l 2), O.dead (Ty.arr (Int.toNat (C.toInt (dk d1 2))) (Ty.int IntKind.u64))),
 (Key.l 1000000000074, O.box (V.d (Ty.arr (List.length (C.elems (dk d1 3))) (Ty.int IntKind.u64)) (dk d1 3)))])
theorem q5r (N : Nat) {R : Type} : GOk (X0 gl0) 48 (q1q N (R := R)) := by
 unfold q1q
 refine q4q fun ds ms K r hr => ?_
 rw [← q9r] at hr
 exact okB (q5p N) hr
noncomputable def z7G : Hints := [([9], ⟨[], [(4, .d (.int .u64)), (5, .d (.int .i64))], [], [], [], []⟩)]
noncomputable def q97 (N : Nat) : OvS (X0 gl0) where
 g R := []
 ok := fun R => fun _ h => nomatch h
noncomputable def q3X {R : Type} (N : Nat) (a0 a1 : C) (k1 : KD R) : Option R := (bif !decide ((C.toInt a0 + C.toInt a1) / 18446744073709551616 = 0) then (k1 [C.int 0, C.int 11] []) else (k1 [C.int ((C.toInt a0 + C.toInt a1) % 18446744073709551616), C.int 0] []))
noncomputable def q2a {R : Type} (N : Nat) : C → C → KD R → Option R := lid "" (q3X N)
theorem q96 {R : Type} (N : Nat) (a0 a1 : C) (k : KD R) : q2a N a0 a1 k = q3X N a0 a1 k := by unfold q2a; rw [W7]
theorem z6d {R : Type} (N : Nat) (a0 a1 : C) (K : V → List (Key × O) → Option R) : exF (X0 gl0) ((q97 N).ov R) q0X noX (fun f => bif Nat.beq f 50 then z7G else []) N 400 8 50 [.d (.int .u64) a0, .d (.int .u64) a1] A0 K =
  q2a N a0 a1 (fun d1 m1 => K (V.tup [V.d (Ty.int IntKind.u64) (dk d1 0), V.d (Ty.int IntKind.i64) (dk d1 1)]) []) := by
 rw [q96]
 exact (show _ = jn (fun d1 m1 => (K (V.tup [V.d (Ty.int IntKind.u64) (dk d1 0), V.d (Ty.int IntKind.i64) (dk d1 1)]) [])) (q3X N a0 a1) by kernel_rfl).trans (Y2 _ _)
noncomputable def q7v (N : Nat) {R : Type} : OvG R := fun xs _ K => match xs with
 | [.d t0 a0, .d t1 a1] => if t0 = (.int .u64) ∧ t1 = (.int .u64) then q2a N a0 a1 (fun d1 m1 => K (V.tup [V.d (Ty.int IntKind.u64) (dk d1 0), V.d (Ty.int IntKind.i64) (dk d1 1)]) []) else none
 | _ => none
theorem z7F (N : Nat) {R : Type} : GOk (X0 gl0) 50 (q7v N (R := R)) := by
 intro xs A Kr r hr
 unfold q7v at hr
 split at hr
 ·simp only [Option.ite_none_right_eq_some] at hr
  obtain ⟨hty, hr⟩ := hr
  obtain ⟨rfl, rfl⟩ := hty
  rw [← z6d] at hr
  exact okA (q97 N) hr
 ·cases hr
noncomputable def z7C : Hints := [([9], ⟨[], [(4, .d (.int .u64)), (5, .d (.int .i64))], [], [], [], []⟩)]
noncomputable def q93 (N : Nat) : OvS (X0 gl0) where
 g R := []
 ok := fun R => fun _ h => nomatch h
noncomputable def q3V {R : Type} (N : Nat) (a0 a1 : C) (k1 : KD R) : Option R := (bif decide (C.toInt a0 < C.toInt a1) then (k1 [C.int 0, C.int 12] []) else (k1 [C.int (IntKind.wrap IntKind.u64 (C.toInt a0 - C.toInt a1)), C.int 0] []))
noncomputable def q18 {R : Type} (N : Nat) : C → C → KD R → Option R := lid "" (q3V N)
theorem q92 {R : Type} (N : Nat) (a0 a1 : C) (k : KD R) : q18 N a0 a1 k = q3V N a0 a1 k := by unfold q18; rw [W7]
theorem z6b {R : Type} (N : Nat) (a0 a1 : C) (K : V → List (Key × O) → Option R) : exF (X0 gl0) ((q93 N).ov R) q0X noX (fun f => bif Nat.beq f 51 then z7C else []) N 400 8 51 [.d (.int .u64) a0, .d (.int .u64) a1] A0 K =
  q18 N a0 a1 (fun d1 m1 => K (V.tup [V.d (Ty.int IntKind.u64) (dk d1 0), V.d (Ty.int IntKind.i64) (dk d1 1)]) []) := by
 rw [q92]
 exact (show _ = jn (fun d1 m1 => (K (V.tup [V.d (Ty.int IntKind.u64) (dk d1 0), V.d (Ty.int IntKind.i64) (dk d1 1)]) [])) (q3V N a0 a1) by kernel_rfl).trans (Y2 _ _)
noncomputable def q7t (N : Nat) {R : Type} : OvG R := fun xs _ K => match xs with
 | [.d t0 a0, .d t1 a1] => if t0 = (.int .u64) ∧ t1 = (.int .u64) then q18 N a0 a1 (fun d1 m1 => K (V.tup [V.d (Ty.int IntKind.u64) (dk d1 0), V.d (Ty.int IntKind.i64) (dk d1 1)]) []) else none
 | _ => none
theorem z7B (N : Nat) {R : Type} : GOk (X0 gl0) 51 (q7t N (R := R)) := by
 intro xs A Kr r hr
 unfold q7t at hr
 split at hr
 ·simp only [Option.ite_none_right_eq_some] at hr
  obtain ⟨hty, hr⟩ := hr
  obtain ⟨rfl, rfl⟩ := hty
  rw [← z6b] at hr
  exact okA (q93 N) hr
 ·cases hr
noncomputable def z0b : Hints := [([9], ⟨[], [(4, .d (.int .u64)), (5, .d (.int .u64))], [], [], [], []⟩)]
noncomputable def q5f (N : Nat) : OvS (X0 gl0) where
 g R := []
 ok := fun R => fun _ h => nomatch h
noncomputable def q2y {R : Type} (N : Nat) (a0 a1 : C) (k1 : KD R) : Option R := (k1 [C.int (IntKind.wrap IntKind.u64 (IntKind.wrap IntKind.u64 (IntKind.wrap IntKind.u64 (Int.fdiv (C.toInt a0) (2 ^ min (Int.toNat 32) 64) * Int.fdiv (C.toInt a1) (2 ^ min (Int.toNat 32) 64)) + Int.fdiv (IntKind.wrap IntKind.u64 (IntKind.wrap IntKind.u64 (Int.fdiv (C.toInt a0) (2 ^ min (Int.toNat 32) 64) * q0y BinOp.and IntKind.u64 (C.toInt a1) 4294967295) + Int.fdiv (IntKind.wrap IntKind.u64 (q0y BinOp.and IntKind.u64 (C.toInt a0) 4294967295 * q0y BinOp.and IntKind.u64 (C.toInt a1) 4294967295)) (2 ^ min (Int.toNat 32) 64))) (2 ^ min (Int.toNat 32) 64)) + Int.fdiv (IntKind.wrap IntKind.u64 (q0y BinOp.and IntKind.u64 (IntKind.wrap IntKind.u64 (IntKind.wrap IntKind.u64 (Int.fdiv (C.toInt a0) (2 ^ min (Int.toNat 32) 64) * q0y BinOp.and IntKind.u64 (C.toInt a1) 4294967295) + Int.fdiv (IntKind.wrap IntKind.u64 (q0y BinOp.and IntKind.u64 (C.toInt a0) 4294967295 * q0y BinOp.and IntKind.u64 (C.toInt a1) 4294967295)) (2 ^ min (Int.toNat 32) 64))) 4294967295 + IntKind.wrap IntKind.u64 (q0y BinOp.and IntKind.u64 (C.toInt a0) 4294967295 * Int.fdiv (C.toInt a1) (2 ^ min (Int.toNat 32) 64)))) (2 ^ min (Int.toNat 32) 64))), C.int (IntKind.wrap IntKind.u64 (C.toInt a0 * C.toInt a1))] [])
noncomputable def H2 {R : Type} (N : Nat) : C → C → KD R → Option R := lid "" (q2y N)
theorem q5e {R : Type} (N : Nat) (a0 a1 : C) (k : KD R) : H2 N a0 a1 k = q2y N a0 a1 k := by unfold H2; rw [W7]
theorem q9q {R : Type} (N : Nat) (a0 a1 : C) (K : V → List (Key × O) → Option R) : exF (X0 gl0) ((q5f N).ov R) q0X noX (fun f => bif Nat.beq f 72 then z0b else []) N 400 8 72 [.d (.int .u64) a0, .d (.int .u64) a1] A0 K =
  H2 N a0 a1 (fun d1 m1 => K (V.tup [V.d (Ty.int IntKind.u64) (dk d1 0), V.d (Ty.int IntKind.u64) (dk d1 1)]) []) := by
 rw [q5e]
 exact (show _ = jn (fun d1 m1 => (K (V.tup [V.d (Ty.int IntKind.u64) (dk d1 0), V.d (Ty.int IntKind.u64) (dk d1 1)]) [])) (q2y N a0 a1) by kernel_rfl).trans (Y2 _ _)
noncomputable def q24 (N : Nat) {R : Type} : OvG R := fun xs _ K => match xs with
 | [.d t0 a0, .d t1 a1] => if t0 = (.int .u64) ∧ t1 = (.int .u64) then H2 N a0 a1 (fun d1 m1 => K (V.tup [V.d (Ty.int IntKind.u64) (dk d1 0), V.d (Ty.int IntKind.u64) (dk d1 1)]) []) else none
 | _ => none
theorem z0a (N : Nat) {R : Type} : GOk (X0 gl0) 72 (q24 N (R := R)) := by
 intro xs A Kr r hr
 unfold q24 at hr
 split at hr
 ·simp only [Option.ite_none_right_eq_some] at hr
  obtain ⟨hty, hr⟩ := hr
  obtain ⟨rfl, rfl⟩ := hty
  rw [← q9q] at hr
  exact okA (q5f N) hr
 ·cases hr
noncomputable def z7E : Hints := [([9], ⟨[], [(4, .d (.int .u64)), (5, .d (.int .i64))], [], [], [], []⟩)]
noncomputable def q95 (N : Nat) : OvS (X0 gl0) where
 g R := [(72, q24 N)]
 ok := fun R => List.forall_mem_cons.2 ⟨z0a N, fun _ h => nomatch h⟩
noncomputable def q3W {R : Type} (N : Nat) (a0 a1 : C) (k1 : KD R) : Option R := (H2 N a0 a1 (fun d1 m1 => (bif !decide (C.toInt (dk d1 0) = 0) then (k1 [C.int 0, C.int 11] []) else (k1 [dk d1 1, C.int 0] []))))
noncomputable def q19 {R : Type} (N : Nat) : C → C → KD R → Option R := lid "" (q3W N)
theorem q94 {R : Type} (N : Nat) (a0 a1 : C) (k : KD R) : q19 N a0 a1 k = q3W N a0 a1 k := by unfold q19; rw [W7]
theorem z6c {R : Type} (N : Nat) (a0 a1 : C) (K : V → List (Key × O) → Option R) : exF (X0 gl0) ((q95 N).ov R) q0X noX (fun f => bif Nat.beq f 52 then z7E else []) N 400 8 52 [.d (.int .u64) a0, .d (.int .u64) a1] A0 K =
  q19 N a0 a1 (fun d1 m1 => K (V.tup [V.d (Ty.int IntKind.u64) (dk d1 0), V.d (Ty.int IntKind.i64) (dk d1 1)]) []) := by
 rw [q94]
 exact (show _ = jn (fun d1 m1 => (K (V.tup [V.d (Ty.int IntKind.u64) (dk d1 0), V.d (Ty.int IntKind.i64) (dk d1 1)]) [])) (q3W N a0 a1) by kernel_rfl).trans (Y2 _ _)
noncomputable def q7u (N : Nat) {R : Type} : OvG R := fun xs _ K => match xs with
 | [.d t0 a0, .d t1 a1] => if t0 = (.int .u64) ∧ t1 = (.int .u64) then q19 N a0 a1 (fun d1 m1 => K (V.tup [V.d (Ty.int IntKind.u64) (dk d1 0), V.d (Ty.int IntKind.i64) (dk d1 1)]) []) else none
 | _ => none
theorem z7D (N : Nat) {R : Type} : GOk (X0 gl0) 52 (q7u N (R := R)) := by
 intro xs A Kr r hr
 unfold q7u at hr
 split at hr
 ·simp only [Option.ite_none_right_eq_some] at hr
  obtain ⟨hty, hr⟩ := hr
  obtain ⟨rfl, rfl⟩ := hty
  rw [← z6c] at hr
  exact okA (q95 N) hr
 ·cases hr
def q2M : List Sh := [.as (.ptr (.g (.l 1)) [] j4), .d .bool]
def q5x : List (Key × OSh) := [(.l 1, .box (.agg j4 [.vec (.g (.l 2)) 8 (.int .u64), .d (.int .i64)])), (.l 2, .box (.arr (.int .u64)))]
noncomputable def z0G : Hints := [([9], ⟨[], [], [.g (.l 1), .g (.l 2)], [], [], [(.int .u64)]⟩)]
noncomputable def q5w (N : Nat) : OvS (X0 gl0) where
 g R := [(48, q1q N)]
 ok := fun R => List.forall_mem_cons.2 ⟨q5r N, fun _ h => nomatch h⟩
noncomputable def q1d {R : Type} (N : Nat) (a0 b0 b1 b2 : C) (k1 : KD R) : Option R := (bif C.toBool a0 then (if List.length (C.elems b2) = List.length (C.elems b2) then (r8 N (C.slice [C.int 1]) (C.int (↑(Int.toNat (C.toInt b0)) : Int)) b1 b2 (fun d1 m1 => (if List.length (C.elems (dk d1 3)) = List.length (C.elems (dk d1 3)) then (k1 [C.int (↑(Int.toNat (C.toInt (dk d1 0))) : Int), dk d1 1, C.int (↑(Int.toNat (C.toInt (dk d1 2))) : Int), dk d1 3] []) else none))) else none) else (if List.length (C.elems b2) = List.length (C.elems b2) then (r8 N (C.slice [C.int 0]) (C.int (↑(Int.toNat (C.toInt b0)) : Int)) b1 b2 (fun d1 m1 => (if List.length (C.elems (dk d1 3)) = List.length (C.elems (dk d1 3)) then (k1 [C.int (↑(Int.toNat (C.toInt (dk d1 0))) : Int), dk d1 1, C.int (↑(Int.toNat (C.toInt (dk d1 2))) : Int), dk d1 3] []) else none))) else none))
noncomputable def j8 {R : Type} (N : Nat) : C → C → C → C → KD R → Option R := lid "" (q1d N)
theorem q5v {R : Type} (N : Nat) (a0 b0 b1 b2 : C) (k : KD R) : j8 N a0 b0 b1 b2 k = q1d N a0 b0 b1 b2 k := by unfold j8; rw [W7]
theorem q9t {R : Type} (N : Nat) (a0 b0 b1 b2 : C) (K : V → List (Key × O) → Option R) : exF (X0 gl0) ((q5w N).ov R) q0X noX (fun f => bif Nat.beq f 53 then z0G else []) N 400 8 53 (Sh.X7 q2M 0 [a0, b0, b1, b2]) (z6 (w7 q5x (Sh.q0x q2M) 0 [a0, b0, b1, b2] [])) K =
  j8 N a0 b0 b1 b2 (fun d1 m1 => K (V.tup []) [(Key.g (Key.l 1),
  O.box
   (V.agg j4
    [V.sr (Key.l 1000000000074) [] 0 (Int.toNat (C.toInt (dk d1 0))) none 8 (Ty.int IntKind.u64),
     V.d (Ty.int IntKind.i64) (dk d1 1)])),
 (Key.g (Key.l 2), O.dead (Ty.arr (Int.toNat (C.toInt (dk d1 2))) (Ty.int IntKind.u64))),
 (Key.l 1000000000074, O.box (V.d (Ty.arr (List.length (C.elems (dk d1 3))) (Ty.int IntKind.u64)) (dk d1 3)))]) := by
 rw [q5v]
 exact (show _ = jn (fun d1 m1 => (K (V.tup []) [(Key.g (Key.l 1),
  O.box
   (V.agg j4
    [V.sr (Key.l 1000000000074) [] 0 (Int.toNat (C.toInt (dk d1 0))) none 8 (Ty.int IntKind.u64),
     V.d (Ty.int IntKind.i64) (dk d1 1)])),
 (Key.g (Key.l 2), O.dead (Ty.arr (Int.toNat (C.toInt (dk d1 2))) (Ty.int IntKind.u64))),
 (Key.l 1000000000074, O.box (V.d (Ty.arr (List.length (C.elems (dk d1 3))) (Ty.int IntKind.u64)) (dk d1 3)))])) (q1d N a0 b0 b1 b2) by kernel_rfl).trans (Y2 _ _)
noncomputable def q28 (N : Nat) {R : Type} : OvG R := q8w q2M q5x fun ds ms K => j8 N (dk ds 0) (dk ds 1) (dk ds 2) (dk ds 3) (fun d1 m1 => K (V.tup []) [(Key.g (Key.l 1),
  O.box
   (V.agg j4
    [V.sr (Key.l 1000000000074) [] 0 (Int.toNat (C.toInt (dk d1 0))) none 8 (Ty.int IntKind.u64),
     V.d (Ty.int IntKind.i64) (dk d1 1)])),
 (Key.g (Key.l 2), O.dead (Ty.arr (Int.toNat (C.toInt (dk d1 2))) (Ty.int IntKind.u64))),
 (Key.l 1000000000074, O.box (V.d (Ty.arr (List.length (C.elems (dk d1 3))) (Ty.int IntKind.u64)) (dk d1 3)))])
theorem z0F (N : Nat) {R : Type} : GOk (X0 gl0) 53 (q28 N (R := R)) := by
 unfold q28
 refine q4q fun ds ms K r hr => ?_
 rw [← q9t] at hr
 exact okB (q5w N) hr
def q2j : List Sh := [.d J3, .as (.ptr (.g (.l 1)) [] j4), .d (.int .i64), .d (.int .u64)]
def q4j : List (Key × OSh) := [(.l 1, .box (.agg j4 [.vec (.g (.l 2)) 8 (.int .u64), .d (.int .i64)])), (.l 2, .box (.arr (.int .u64)))]
noncomputable def q9v : Hints := [([1, 2, 1, 3, 1, 3, 1, 3, 1, 3, 1, 3, 1, 3, 1, 3, 1, 3, 1, 4, 1, 1], ⟨[1], [], [.g (.l 1), .g (.l 2)], [], [], [(.int .u64)]⟩),
  ([1, 2, 1, 3, 1, 3, 1, 3, 1, 3, 1, 3, 1, 3, 1, 3, 1, 3, 1, 3, 1, 4, 1, 1], ⟨[1], [], [.g (.l 1), .g (.l 2)], [], [], [(.int .u64)]⟩),
  ([9], ⟨[], [], [.g (.l 1), .g (.l 2)], [], [], [(.int .u64)]⟩)]
noncomputable def q4i (N : Nat) : OvS (X0 gl0) where
 g R := [(32, q1M N), (47, q0t N), (48, q1q N), (50, q7v N), (51, q7t N), (52, q7u N), (53, q28 N)]
 ok := fun R => List.forall_mem_cons.2 ⟨q5Z N, List.forall_mem_cons.2 ⟨q2K N, List.forall_mem_cons.2 ⟨q5r N, List.forall_mem_cons.2 ⟨z7F N, List.forall_mem_cons.2 ⟨z7B N, List.forall_mem_cons.2 ⟨z7D N, List.forall_mem_cons.2 ⟨z0F N, fun _ h => nomatch h⟩⟩⟩⟩⟩⟩⟩
noncomputable def y9 {R : Type} (N : Nat) (a0 a1 a2 b0 b1 b2 : C) (k1 : KD R) : Option R := (bif decide (C.toInt a1 = 1) then (if List.length (C.elems b2) = List.length (C.elems b2) then (r8 N (C.slice [a2]) (C.int (↑(Int.toNat (C.toInt b0)) : Int)) b1 b2 (fun d1 m1 => (if List.length (C.elems (dk d1 3)) = List.length (C.elems (dk d1 3)) then (k1 [C.int (↑(Int.toNat (C.toInt (dk d1 0))) : Int), dk d1 1, C.int (↑(Int.toNat (C.toInt (dk d1 2))) : Int), dk d1 3] []) else none))) else none) else (bif decide (C.toInt a1 = 2) then (bif decide (IntKind.wrap IntKind.u64 (↑(List.length (C.elems (C.get a0 0))) : Int) ≤ C.toInt a2) then (if List.length (C.elems b2) = List.length (C.elems b2) then (c7 N (C.int 1) (C.int (↑(Int.toNat (C.toInt b0)) : Int)) b1 b2 (fun d1 m1 => (if List.length (C.elems (dk d1 3)) = List.length (C.elems (dk d1 3)) then (k1 [C.int (↑(Int.toNat (C.toInt (dk d1 0))) : Int), dk d1 1, C.int (↑(Int.toNat (C.toInt (dk d1 2))) : Int), dk d1 3] []) else none))) else none) else (if 0 ≤ C.toInt a2 ∧ C.toInt a2 < (↑(List.length (C.elems (C.get a0 0))) : Int) then (if List.length (C.elems b2) = List.length (C.elems b2) then (r8 N (C.slice [List.getD (C.elems (C.get a0 0)) (Int.toNat (C.toInt a2)) C.nil]) (C.int (↑(Int.toNat (C.toInt b0)) : Int)) b1 b2 (fun d1 m1 => (if List.length (C.elems (dk d1 3)) = List.length (C.elems (dk d1 3)) then (k1 [C.int (↑(Int.toNat (C.toInt (dk d1 0))) : Int), dk d1 1, C.int (↑(Int.toNat (C.toInt (dk d1 2))) : Int), dk d1 3] []) else none))) else none) else none)) else (bif decide (C.toInt a1 = 3) then (jn (fun d1 m1 => (if List.length (C.elems (dk d1 3)) = List.length (C.elems (dk d1 3)) then (k1 [C.int (↑(Int.toNat (C.toInt (dk d1 0))) : Int), dk d1 1, C.int (↑(Int.toNat (C.toInt (dk d1 2))) : Int), dk d1 3] []) else none)) (fun k2 => (if List.length (C.elems b2) = List.length (C.elems b2) then (x8 N (C.int (↑(Int.toNat (C.toInt b0)) : Int)) b1 b2 (fun d1 m1 => (if List.length (C.elems (dk d1 4)) = List.length (C.elems (dk d1 4)) then (x8 N (C.int (↑(Int.toNat (C.toInt (dk d1 1))) : Int)) (dk d1 2) (dk d1 4) (fun d2 m2 => (bif !decide (C.toInt (dk d2 2) = 0) then (if List.length (C.elems (dk d2 4)) = List.length (C.elems (dk d2 4)) then (k2 [C.int (↑(Int.toNat (C.toInt (dk d2 1))) : Int), dk d2 2, C.int (↑(Int.toNat (C.toInt (dk d1 3))) : Int), dk d2 4] []) else none) else (q2a N (dk d2 0) (dk d1 0) (fun d3 m3 => (bif !decide (C.toInt (dk d3 1) = 0) then (if List.length (C.elems (dk d2 4)) = List.length (C.elems (dk d2 4)) then (c7 N (dk d3 1) (C.int (↑(Int.toNat (C.toInt (dk d2 1))) : Int)) (dk d2 2) (dk d2 4) (fun d4 m4 => (if List.length (C.elems (dk d4 3)) = List.length (C.elems (dk d4 3)) then (k2 [C.int (↑(Int.toNat (C.toInt (dk d4 0))) : Int), dk d4 1, C.int (↑(Int.toNat (C.toInt (dk d1 3))) : Int), dk d4 3] []) else none))) else none) else (if List.length (C.elems (dk d2 4)) = List.length (C.elems (dk d2 4)) then (r8 N (C.slice [dk d3 0]) (C.int (↑(Int.toNat (C.toInt (dk d2 1))) : Int)) (dk d2 2) (dk d2 4) (fun d4 m4 => (if List.length (C.elems (dk d4 3)) = List.length (C.elems (dk d4 3)) then (k2 [C.int (↑(Int.toNat (C.toInt (dk d4 0))) : Int), dk d4 1, C.int (↑(Int.toNat (C.toInt (dk d1 3))) : Int), dk d4 3] []) else none))) else none))))))) else none))) else none))) else (bif decide (C.toInt a1 = 4) then (jn (fun d1 m1 => (if List.length (C.elems (dk d1 3)) = List.length (C.elems (dk d1 3)) then (k1 [C.int (↑(Int.toNat (C.toInt (dk d1 0))) : Int), dk d1 1, C.int (↑(Int.toNat (C.toInt (dk d1 2))) : Int), dk d1 3] []) else none)) (fun k2 => (if List.length (C.elems b2) = List.length (C.elems b2) then (x8 N (C.int (↑(Int.toNat (C.toInt b0)) : Int)) b1 b2 (fun d1 m1 => (if List.length (C.elems (dk d1 4)) = List.length (C.elems (dk d1 4)) then (x8 N (C.int (↑(Int.toNat (C.toInt (dk d1 1))) : Int)) (dk d1 2) (dk d1 4) (fun d2 m2 => (bif !decide (C.toInt (dk d2 2) = 0) then (if List.length (C.elems (dk d2 4)) = List.length (C.elems (dk d2 4)) then (k2 [C.int (↑(Int.toNat (C.toInt (dk d2 1))) : Int), dk d2 2, C.int (↑(Int.toNat (C.toInt (dk d1 3))) : Int), dk d2 4] []) else none) else (q18 N (dk d2 0) (dk d1 0) (fun d3 m3 => (bif !decide (C.toInt (dk d3 1) = 0) then (if List.length (C.elems (dk d2 4)) = List.length (C.elems (dk d2 4)) then (c7 N (dk d3 1) (C.int (↑(Int.toNat (C.toInt (dk d2 1))) : Int)) (dk d2 2) (dk d2 4) (fun d4 m4 => (if List.length (C.elems (dk d4 3)) = List.length (C.elems (dk d4 3)) then (k2 [C.int (↑(Int.toNat (C.toInt (dk d4 0))) : Int), dk d4 1, C.int (↑(Int.toNat (C.toInt (dk d1 3))) : Int), dk d4 3] []) else none))) else none) else (if List.length (C.elems (dk d2 4)) = List.length (C.elems (dk d2 4)) then (r8 N (C.slice [dk d3 0]) (C.int (↑(Int.toNat (C.toInt (dk d2 1))) : Int)) (dk d2 2) (dk d2 4) (fun d4 m4 => (if List.length (C.elems (dk d4 3)) = List.length (C.elems (dk d4 3)) then (k2 [C.int (↑(Int.toNat (C.toInt (dk d4 0))) : Int), dk d4 1, C.int (↑(Int.toNat (C.toInt (dk d1 3))) : Int), dk d4 3] []) else none))) else none))))))) else none))) else none))) else (bif decide (C.toInt a1 = 5) then (jn (fun d1 m1 => (if List.length (C.elems (dk d1 3)) = List.length (C.elems (dk d1 3)) then (k1 [C.int (↑(Int.toNat (C.toInt (dk d1 0))) : Int), dk d1 1, C.int (↑(Int.toNat (C.toInt (dk d1 2))) : Int), dk d1 3] []) else none)) (fun k2 => (if List.length (C.elems b2) = List.length (C.elems b2) then (x8 N (C.int (↑(Int.toNat (C.toInt b0)) : Int)) b1 b2 (fun d1 m1 => (if List.length (C.elems (dk d1 4)) = List.length (C.elems (dk d1 4)) then (x8 N (C.int (↑(Int.toNat (C.toInt (dk d1 1))) : Int)) (dk d1 2) (dk d1 4) (fun d2 m2 => (bif !decide (C.toInt (dk d2 2) = 0) then (if List.length (C.elems (dk d2 4)) = List.length (C.elems (dk d2 4)) then (k2 [C.int (↑(Int.toNat (C.toInt (dk d2 1))) : Int), dk d2 2, C.int (↑(Int.toNat (C.toInt (dk d1 3))) : Int), dk d2 4] []) else none) else (q19 N (dk d2 0) (dk d1 0) (fun d3 m3 => (bif !decide (C.toInt (dk d3 1) = 0) then (if List.length (C.elems (dk d2 4)) = List.length (C.elems (dk d2 4)) then (c7 N (dk d3 1) (C.int (↑(Int.toNat (C.toInt (dk d2 1))) : Int)) (dk d2 2) (dk d2 4) (fun d4 m4 => (if List.length (C.elems (dk d4 3)) = List.length (C.elems (dk d4 3)) then (k2 [C.int (↑(Int.toNat (C.toInt (dk d4 0))) : Int), dk d4 1, C.int (↑(Int.toNat (C.toInt (dk d1 3))) : Int), dk d4 3] []) else none))) else none) else (if List.length (C.elems (dk d2 4)) = List.length (C.elems (dk d2 4)) then (r8 N (C.slice [dk d3 0]) (C.int (↑(Int.toNat (C.toInt (dk d2 1))) : Int)) (dk d2 2) (dk d2 4) (fun d4 m4 => (if List.length (C.elems (dk d4 3)) = List.length (C.elems (dk d4 3)) then (k2 [C.int (↑(Int.toNat (C.toInt (dk d4 0))) : Int), dk d4 1, C.int (↑(Int.toNat (C.toInt (dk d1 3))) : Int), dk d4 3] []) else none))) else none))))))) else none))) else none))) else (bif decide (C.toInt a1 = 6) then (if List.length (C.elems b2) = List.length (C.elems b2) then (x8 N (C.int (↑(Int.toNat (C.toInt b0)) : Int)) b1 b2 (fun d1 m1 => (if List.length (C.elems (dk d1 4)) = List.length (C.elems (dk d1 4)) then (x8 N (C.int (↑(Int.toNat (C.toInt (dk d1 1))) : Int)) (dk d1 2) (dk d1 4) (fun d2 m2 => (if List.length (C.elems (dk d2 4)) = List.length (C.elems (dk d2 4)) then (j8 N (C.bool (decide (C.toInt (dk d2 0) < C.toInt (dk d1 0)))) (C.int (↑(Int.toNat (C.toInt (dk d2 1))) : Int)) (dk d2 2) (dk d2 4) (fun d3 m3 => (if List.length (C.elems (dk d3 3)) = List.length (C.elems (dk d3 3)) then (k1 [C.int (↑(Int.toNat (C.toInt (dk d3 0))) : Int), dk d3 1, C.int (↑(Int.toNat (C.toInt (dk d1 3))) : Int), dk d3 3] []) else none))) else none))) else none))) else none) else (bif decide (C.toInt a1 = 7) then (if List.length (C.elems b2) = List.length (C.elems b2) then (x8 N (C.int (↑(Int.toNat (C.toInt b0)) : Int)) b1 b2 (fun d1 m1 => (if List.length (C.elems (dk d1 4)) = List.length (C.elems (dk d1 4)) then (x8 N (C.int (↑(Int.toNat (C.toInt (dk d1 1))) : Int)) (dk d1 2) (dk d1 4) (fun d2 m2 => (if List.length (C.elems (dk d2 4)) = List.length (C.elems (dk d2 4)) then (j8 N (C.bool (decide (C.toInt (dk d2 0) = C.toInt (dk d1 0)))) (C.int (↑(Int.toNat (C.toInt (dk d2 1))) : Int)) (dk d2 2) (dk d2 4) (fun d3 m3 => (if List.length (C.elems (dk d3 3)) = List.length (C.elems (dk d3 3)) then (k1 [C.int (↑(Int.toNat (C.toInt (dk d3 0))) : Int), dk d3 1, C.int (↑(Int.toNat (C.toInt (dk d1 3))) : Int), dk d3 3] []) else none))) else none))) else none))) else none) else (bif decide (C.toInt a1 = 8) then (if List.length (C.elems b2) = List.length (C.elems b2) then (x8 N (C.int (↑(Int.toNat (C.toInt b0)) : Int)) b1 b2 (fun d1 m1 => (if List.length (C.elems (dk d1 4)) = List.length (C.elems (dk d1 4)) then (j8 N (C.bool (decide (C.toInt (dk d1 0) = 0))) (C.int (↑(Int.toNat (C.toInt (dk d1 1))) : Int)) (dk d1 2) (dk d1 4) (fun d2 m2 => (if List.length (C.elems (dk d2 3)) = List.length (C.elems (dk d2 3)) then (k1 [C.int (↑(Int.toNat (C.toInt (dk d2 0))) : Int), dk d2 1, C.int (↑(Int.toNat (C.toInt (dk d1 3))) : Int), dk d2 3] []) else none))) else none))) else none) else (bif decide (C.toInt a1 = 9) then (if List.length (C.elems b2) = List.length (C.elems b2) then (x8 N (C.int (↑(Int.toNat (C.toInt b0)) : Int)) b1 b2 (fun d1 m1 => (if List.length (C.elems (dk d1 4)) = List.length (C.elems (dk d1 4)) then (x8 N (C.int (↑(Int.toNat (C.toInt (dk d1 1))) : Int)) (dk d1 2) (dk d1 4) (fun d2 m2 => (jn (fun d3 m3 => (if List.length (C.elems (dk d3 2)) = List.length (C.elems (dk d3 2)) then (k1 [C.int (↑(Int.toNat (C.toInt (dk d3 0))) : Int), dk d3 1, C.int (↑(Int.toNat (C.toInt (dk d3 3))) : Int), dk d3 2] []) else none)) (fun k2 => (bif !decide (C.toInt (dk d2 0) = 0) then (if List.length (C.elems (dk d2 4)) = List.length (C.elems (dk d2 4)) then (j8 N (C.bool !decide (C.toInt (dk d1 0) = 0)) (C.int (↑(Int.toNat (C.toInt (dk d2 1))) : Int)) (dk d2 2) (dk d2 4) (fun d3 m3 => (if List.length (C.elems (dk d3 3)) = List.length (C.elems (dk d3 3)) then (k2 [C.int (↑(Int.toNat (C.toInt (dk d3 0))) : Int), dk d3 1, dk d3 3, C.int (↑(Int.toNat (C.toInt (dk d1 3))) : Int), C.int (↑(Int.toNat (C.toInt (dk d1 3))) : Int)] []) else none))) else none) else (if List.length (C.elems (dk d2 4)) = List.length (C.elems (dk d2 4)) then (j8 N (C.bool false) (C.int (↑(Int.toNat (C.toInt (dk d2 1))) : Int)) (dk d2 2) (dk d2 4) (fun d3 m3 => (if List.length (C.elems (dk d3 3)) = List.length (C.elems (dk d3 3)) then (k2 [C.int (↑(Int.toNat (C.toInt (dk d3 0))) : Int), dk d3 1, dk d3 3, C.int (↑(Int.toNat (C.toInt (dk d1 3))) : Int), C.int (↑(Int.toNat (C.toInt (dk d1 3))) : Int)] []) else none))) else none)))))) else none))) else none) else (bif decide (C.toInt a1 = 10) then (if List.length (C.elems b2) = List.length (C.elems b2) then (x8 N (C.int (↑(Int.toNat (C.toInt b0)) : Int)) b1 b2 (fun d1 m1 => (if List.length (C.elems (dk d1 4)) = List.length (C.elems (dk d1 4)) then (x8 N (C.int (↑(Int.toNat (C.toInt (dk d1 1))) : Int)) (dk d1 2) (dk d1 4) (fun d2 m2 => (jn (fun d3 m3 => (if List.length (C.elems (dk d3 2)) = List.length (C.elems (dk d3 2)) then (k1 [C.int (↑(Int.toNat (C.toInt (dk d3 0))) : Int), dk d3 1, C.int (↑(Int.toNat (C.toInt (dk d3 3))) : Int), dk d3 2] []) else none)) (fun k2 => (bif !decide (C.toInt (dk d2 0) = 0) then (if List.length (C.elems (dk d2 4)) = List.length (C.elems (dk d2 4)) then (j8 N (C.bool true) (C.int (↑(Int.toNat (C.toInt (dk d2 1))) : Int)) (dk d2 2) (dk d2 4) (fun d3 m3 => (if List.length (C.elems (dk d3 3)) = List.length (C.elems (dk d3 3)) then (k2 [C.int (↑(Int.toNat (C.toInt (dk d3 0))) : Int), dk d3 1, dk d3 3, C.int (↑(Int.toNat (C.toInt (dk d1 3))) : Int), C.int (↑(Int.toNat (C.toInt (dk d1 3))) : Int)] []) else none))) else none) else (if List.length (C.elems (dk d2 4)) = List.length (C.elems (dk d2 4)) then (j8 N (C.bool !decide (C.toInt (dk d1 0) = 0)) (C.int (↑(Int.toNat (C.toInt (dk d2 1))) : Int)) (dk d2 2) (dk d2 4) (fun d3 m3 => (if List.length (C.elems (dk d3 3)) = List.length (C.elems (dk d3 3)) then (k2 [C.int (↑(Int.toNat (C.toInt (dk d3 0))) : Int), dk d3 1, dk d3 3, C.int (↑(Int.toNat (C.toInt (dk d1 3))) : Int), C.int (↑(Int.toNat (C.toInt (dk d1 3))) : Int)] []) else none))) else none)))))) else none))) else none) else (bif decide (C.toInt a1 = 13) then (if List.length (C.elems b2) = List.length (C.elems b2) then (x8 N (C.int (↑(Int.toNat (C.toInt b0)) : Int)) b1 b2 (fun d1 m1 => (if List.length (C.elems (dk d1 4)) = List.length (C.elems (dk d1 4)) then (r8 N (C.slice [dk d1 0, dk d1 0]) (C.int (↑(Int.toNat (C.toInt (dk d1 1))) : Int)) (dk d1 2) (dk d1 4) (fun d2 m2 => (if List.length (C.elems (dk d2 3)) = List.length (C.elems (dk d2 3)) then (k1 [C.int (↑(Int.toNat (C.toInt (dk d2 0))) : Int), dk d2 1, C.int (↑(Int.toNat (C.toInt (dk d1 3))) : Int), dk d2 3] []) else none))) else none))) else none) else (bif decide (C.toInt a1 = 14) then (if List.length (C.elems b2) = List.length (C.elems b2) then (x8 N (C.int (↑(Int.toNat (C.toInt b0)) : Int)) b1 b2 (fun d1 m1 => (if List.length (C.elems (dk d1 4)) = List.length (C.elems (dk d1 4)) then (x8 N (C.int (↑(Int.toNat (C.toInt (dk d1 1))) : Int)) (dk d1 2) (dk d1 4) (fun d2 m2 => (if List.length (C.elems (dk d2 4)) = List.length (C.elems (dk d2 4)) then (r8 N (C.slice [dk d1 0, dk d2 0]) (C.int (↑(Int.toNat (C.toInt (dk d2 1))) : Int)) (dk d2 2) (dk d2 4) (fun d3 m3 => (if List.length (C.elems (dk d3 3)) = List.length (C.elems (dk d3 3)) then (k1 [C.int (↑(Int.toNat (C.toInt (dk d3 0))) : Int), dk d3 1, C.int (↑(Int.toNat (C.toInt (dk d1 3))) : Int), dk d3 3] []) else none))) else none))) else none))) else none) else (bif decide (C.toInt a1 = 15) then (if List.length (C.elems b2) = List.length (C.elems b2) then (x8 N (C.int (↑(Int.toNat (C.toInt b0)) : Int)) b1 b2 (fun d1 m1 => (if List.length (C.elems (dk d1 4)) = List.length (C.elems (dk d1 4)) then (k1 [C.int (↑(Int.toNat (C.toInt (dk d1 1))) : Int), dk d1 2, C.int (↑(Int.toNat (C.toInt (dk d1 3))) : Int), dk d1 4] []) else none))) else none) else (bif decide (C.toInt a1 = 16) then (bif decide (IntKind.wrap IntKind.u64 (↑(List.length (C.elems (C.get a0 1))) : Int) ≤ C.toInt a2) then (if List.length (C.elems b2) = List.length (C.elems b2) then (c7 N (C.int 1) (C.int (↑(Int.toNat (C.toInt b0)) : Int)) b1 b2 (fun d1 m1 => (if List.length (C.elems (dk d1 3)) = List.length (C.elems (dk d1 3)) then (k1 [C.int (↑(Int.toNat (C.toInt (dk d1 0))) : Int), dk d1 1, C.int (↑(Int.toNat (C.toInt (dk d1 2))) : Int), dk d1 3] []) else none))) else none) else (if 0 ≤ C.toInt a2 ∧ C.toInt a2 < (↑(List.length (C.elems (C.get a0 1))) : Int) then (if List.length (C.elems b2) = List.length (C.elems b2) then (j8 N (List.getD (C.elems (C.get a0 1)) (Int.toNat (C.toInt a2)) C.nil) (C.int (↑(Int.toNat (C.toInt b0)) : Int)) b1 b2 (fun d1 m1 => (if List.length (C.elems (dk d1 3)) = List.length (C.elems (dk d1 3)) then (k1 [C.int (↑(Int.toNat (C.toInt (dk d1 0))) : Int), dk d1 1, C.int (↑(Int.toNat (C.toInt (dk d1 2))) : Int), dk d1 3] []) else none))) else none) else none)) else (bif decide (C.toInt a1 = 17) then (if List.length (C.elems b2) = List.length (C.elems b2) then (r8 N (C.slice [C.get a0 2]) (C.int (↑(Int.toNat (C.toInt b0)) : Int)) b1 b2 (fun d1 m1 => (if List.length (C.elems (dk d1 3)) = List.length (C.elems (dk d1 3)) then (k1 [C.int (↑(Int.toNat (C.toInt (dk d1 0))) : Int), dk d1 1, C.int (↑(Int.toNat (C.toInt (dk d1 2))) : Int), dk d1 3] []) else none))) else none) else (if List.length (C.elems b2) = List.length (C.elems b2) then (k1 [C.int (↑(Int.toNat (C.toInt b0)) : Int), b1, C.int (↑(List.length (C.elems b2)) : Int), b2] []) else none))))))))))))))))
noncomputable def Y6 {R : Type} (N : Nat) : C → C → C → C → C → C → KD R → Option R := lid "" (y9 N)
theorem q4h {R : Type} (N : Nat) (a0 a1 a2 b0 b1 b2 : C) (k : KD R) : Y6 N a0 a1 a2 b0 b1 b2 k = y9 N a0 a1 a2 b0 b1 b2 k := by unfold Y6; rw [W7]
theorem q8Y {R : Type} (N : Nat) (a0 a1 a2 b0 b1 b2 : C) (K : V → List (Key × O) → Option R) : exF (X0 gl0) ((q4i N).ov R) q0X (fun f r => bif Nat.beq f 33 then (bif Nat.beq r 0 then [(4, 5)] else []) else []) (fun f => bif Nat.beq f 33 then q9v else bif Nat.beq f 49 then [([9], ⟨[0], [], [], [], [], [(.int .u64)]⟩)] else []) N 400 8 33 (Sh.X7 q2j 0 [a0, a1, a2, b0, b1, b2]) (z6 (w7 q4j (Sh.q0x q2j) 0 [a0, a1, a2, b0, b1, b2] [])) K =
  Y6 N a0 a1 a2 b0 b1 b2 (fun d1 m1 => K (V.tup []) [(Key.g (Key.l 1),
  O.box
   (V.agg j4
    [V.sr (Key.l 1000000000074) [] 0 (Int.toNat (C.toInt (dk d1 0))) none 8 (Ty.int IntKind.u64),
     V.d (Ty.int IntKind.i64) (dk d1 1)])),
 (Key.g (Key.l 2), O.dead (Ty.arr (Int.toNat (C.toInt (dk d1 2))) (Ty.int IntKind.u64))),
 (Key.l 1000000000074, O.box (V.d (Ty.arr (List.length (C.elems (dk d1 3))) (Ty.int IntKind.u64)) (dk d1 3)))]) := by
 rw [q4h]
 exact (show _ = jn (fun d1 m1 => (K (V.tup []) [(Key.g (Key.l 1),
  O.box
   (V.agg j4
    [V.sr (Key.l 1000000000074) [] 0 (Int.toNat (C.toInt (dk d1 0))) none 8 (Ty.int IntKind.u64),
     V.d (Ty.int IntKind.i64) (dk d1 1)])),
 (Key.g (Key.l 2), O.dead (Ty.arr (Int.toNat (C.toInt (dk d1 2))) (Ty.int IntKind.u64))),
 (Key.l 1000000000074, O.box (V.d (Ty.arr (List.length (C.elems (dk d1 3))) (Ty.int IntKind.u64)) (dk d1 3)))])) (y9 N a0 a1 a2 b0 b1 b2) by kernel_rfl).trans (Y2 _ _)
noncomputable def q2N (N : Nat) {R : Type} : OvG R := q8w q2j q4j fun ds ms K => Y6 N (dk ds 0) (dk ds 1) (dk ds 2) (dk ds 3) (dk ds 4) (dk ds 5) (fun d1 m1 => K (V.tup []) [(Key.g (Key.l 1),
  O.box
   (V.agg j4
    [V.sr (Key.l 1000000000074) [] 0 (Int.toNat (C.toInt (dk d1 0))) none 8 (Ty.int IntKind.u64),
     V.d (Ty.int IntKind.i64) (dk d1 1)])),
 (Key.g (Key.l 2), O.dead (Ty.arr (Int.toNat (C.toInt (dk d1 2))) (Ty.int IntKind.u64))),
 (Key.l 1000000000074, O.box (V.d (Ty.arr (List.length (C.elems (dk d1 3))) (Ty.int IntKind.u64)) (dk d1 3)))])
theorem q9u (N : Nat) {R : Type} : GOk (X0 gl0) 33 (q2N N (R := R)) := by
 unfold q2N
 refine q4q fun ds ms K r hr => ?_
 rw [← q8Y] at hr
 exact okB (q4i N) hr
noncomputable def z9q : Hints := [([1], ⟨[0, 2, 4, 9], [(10, .d (.int .i64)), (11, .d (.int .i64))], [], [], [], [(.int .u64)]⟩),
  ([0, 0, 6, 1], ⟨[0, 2, 4], [(27, .d .bool)], [], [], [], [(.int .u64)]⟩),
  ([1, 3, 1, 4, 1, 0, 1, 1, 1, 1, 1, 7, 1], ⟨[0, 2, 4, 9, 11], [(10, .d (.int .i64))], [], [], [], [(.int .u64)]⟩),
  ([9], ⟨[], [(6, .d (.int .u64)), (7, .d (.int .i64)), (8, .d (.int .i64))], [], [], [], [(.int .u64)]⟩)]
noncomputable def z1V (N : Nat) : OvS (X0 gl0) where
 g R := [(12, q37 N), (32, q1M N), (33, q2N N)]
 ok := fun R => List.forall_mem_cons.2 ⟨q9k N, List.forall_mem_cons.2 ⟨q5Z N, List.forall_mem_cons.2 ⟨q9u N, fun _ h => nomatch h⟩⟩⟩
noncomputable def q7F {R : Type} (N : Nat) (k1 : KD R) : KD R → List C → List Es → Option R := (fun k2 d2 m2 => (if List.length (C.elems (dk d2 0)) ≤ 256 ∧ 0 ≤ C.toInt (dk d2 3) ∧ C.toInt (dk d2 3) ≤ 100000 then (bif !decide (o6 (C.elems (dk d2 0)) (Int.toNat (C.toInt (dk d2 3))) = 0) then (k1 [C.int 0, dk d2 4, C.int (o6 (C.elems (dk d2 0)) (Int.toNat (C.toInt (dk d2 3))))] []) else (if (0 ≤ if o6 (C.elems (dk d2 0)) (Int.toNat (C.toInt (dk d2 3))) = 0 then bN (C.elems (dk d2 0)) (Int.toNat (C.toInt (dk d2 3))) else 0) ∧ (if o6 (C.elems (dk d2 0)) (Int.toNat (C.toInt (dk d2 3))) = 0 then bN (C.elems (dk d2 0)) (Int.toNat (C.toInt (dk d2 3))) else 0) < 18 then (bif decide (IntKind.wrap IntKind.i64 (C.toInt (dk d2 1) - C.toInt (dk d2 4)) < C.toInt (C.get (C.get (C.agg Z5) (Int.toNat (if o6 (C.elems (dk d2 0)) (Int.toNat (C.toInt (dk d2 3))) = 0 then bN (C.elems (dk d2 0)) (Int.toNat (C.toInt (dk d2 3))) else 0))) 2)) then (k1 [C.int 0, dk d2 4, C.int 24] []) else (if (0 ≤ if o6 (C.elems (dk d2 0)) (Int.toNat (C.toInt (dk d2 3))) = 0 then bN (C.elems (dk d2 0)) (Int.toNat (C.toInt (dk d2 3))) else 0) ∧ (if o6 (C.elems (dk d2 0)) (Int.toNat (C.toInt (dk d2 3))) = 0 then bN (C.elems (dk d2 0)) (Int.toNat (C.toInt (dk d2 3))) else 0) < 18 then (bif decide ((if o6 (C.elems (dk d2 0)) (Int.toNat (C.toInt (dk d2 3))) = 0 then bN (C.elems (dk d2 0)) (Int.toNat (C.toInt (dk d2 3))) else 0) = 0) then (if List.length (C.elems (dk d2 7)) = List.length (C.elems (dk d2 7)) then (x8 N (C.int (↑(Int.toNat (C.toInt (dk d2 5))) : Int)) (dk d2 6) (dk d2 7) (fun d3 m3 => (k1 [dk d3 0, C.int (IntKind.wrap IntKind.i64 (C.toInt (dk d2 4) + C.toInt (C.get (C.get (C.agg Z5) (Int.toNat (if o6 (C.elems (dk d2 0)) (Int.toNat (C.toInt (dk d2 3))) = 0 then bN (C.elems (dk d2 0)) (Int.toNat (C.toInt (dk d2 3))) else 0))) 2))), dk d3 2] []))) else none) else (jn (fun d3 m3 => (bif !decide (C.toInt (dk d3 6) = 0) then (k1 [C.int 0, dk d3 3, dk d3 6] []) else (if List.length (C.elems (dk d3 7)) = List.length (C.elems (dk d3 7)) then (k2 [dk d3 0, dk d3 1, dk d3 2, dk d3 4, dk d3 3, C.int (↑(Int.toNat (C.toInt (dk d3 5))) : Int), dk d3 6, dk d3 7] []) else none))) (fun k3 => (bif decide ((if o6 (C.elems (dk d2 0)) (Int.toNat (C.toInt (dk d2 3))) = 0 then bN (C.elems (dk d2 0)) (Int.toNat (C.toInt (dk d2 3))) else 0) = 11) then (if List.length (C.elems (dk d2 7)) = List.length (C.elems (dk d2 7)) then (k3 [dk d2 0, dk d2 1, dk d2 2, C.int (IntKind.wrap IntKind.i64 (C.toInt (dk d2 4) + C.toInt (C.get (C.get (C.agg Z5) (Int.toNat (if o6 (C.elems (dk d2 0)) (Int.toNat (C.toInt (dk d2 3))) = 0 then bN (C.elems (dk d2 0)) (Int.toNat (C.toInt (dk d2 3))) else 0))) 2))), C.int (IntKind.wrap IntKind.i64 (if o6 (C.elems (dk d2 0)) (Int.toNat (C.toInt (dk d2 3))) = 0 then b6 (C.elems (dk d2 0)) (Int.toNat (C.toInt (dk d2 3)) + 1) (y5 (bN (C.elems (dk d2 0)) (Int.toNat (C.toInt (dk d2 3))))) else 0)), C.int (↑(Int.toNat (C.toInt (dk d2 5))) : Int), dk d2 6, dk d2 7] []) else none) else (bif decide ((if o6 (C.elems (dk d2 0)) (Int.toNat (C.toInt (dk d2 3))) = 0 then bN (C.elems (dk d2 0)) (Int.toNat (C.toInt (dk d2 3))) else 0) = 12) then (if List.length (C.elems (dk d2 7)) = List.length (C.elems (dk d2 7)) then (x8 N (C.int (↑(Int.toNat (C.toInt (dk d2 5))) : Int)) (dk d2 6) (dk d2 7) (fun d3 m3 => (bif !decide (C.toInt (dk d3 0) = 0) then (if List.length (C.elems (dk d3 4)) = List.length (C.elems (dk d3 4)) then (k3 [dk d2 0, dk d2 1, dk d2 2, C.int (IntKind.wrap IntKind.i64 (C.toInt (dk d2 4) + C.toInt (C.get (C.get (C.agg Z5) (Int.toNat (if o6 (C.elems (dk d2 0)) (Int.toNat (C.toInt (dk d2 3))) = 0 then bN (C.elems (dk d2 0)) (Int.toNat (C.toInt (dk d2 3))) else 0))) 2))), C.int (IntKind.wrap IntKind.i64 (if o6 (C.elems (dk d2 0)) (Int.toNat (C.toInt (dk d2 3))) = 0 then b6 (C.elems (dk d2 0)) (Int.toNat (C.toInt (dk d2 3)) + 1) (y5 (bN (C.elems (dk d2 0)) (Int.toNat (C.toInt (dk d2 3))))) else 0)), C.int (↑(Int.toNat (C.toInt (dk d3 1))) : Int), dk d3 2, dk d3 4] []) else none) else (if List.length (C.elems (dk d3 4)) = List.length (C.elems (dk d3 4)) then (k3 [dk d2 0, dk d2 1, dk d2 2, C.int (IntKind.wrap IntKind.i64 (C.toInt (dk d2 4) + C.toInt (C.get (C.get (C.agg Z5) (Int.toNat (if o6 (C.elems (dk d2 0)) (Int.toNat (C.toInt (dk d2 3))) = 0 then bN (C.elems (dk d2 0)) (Int.toNat (C.toInt (dk d2 3))) else 0))) 2))), C.int (if o6 (C.elems (dk d2 0)) (Int.toNat (C.toInt (dk d2 3))) = 0 then (↑(Int.toNat (C.toInt (dk d2 3)) + 1 + y5 (bN (C.elems (dk d2 0)) (Int.toNat (C.toInt (dk d2 3))))) : Int) else 0), C.int (↑(Int.toNat (C.toInt (dk d3 1))) : Int), dk d3 2, dk d3 4] []) else none)))) else none) else (if List.length (C.elems (dk d2 7)) = List.length (C.elems (dk d2 7)) then (Y6 N (dk d2 2) (C.int (if o6 (C.elems (dk d2 0)) (Int.toNat (C.toInt (dk d2 3))) = 0 then bN (C.elems (dk d2 0)) (Int.toNat (C.toInt (dk d2 3))) else 0)) (C.int (if o6 (C.elems (dk d2 0)) (Int.toNat (C.toInt (dk d2 3))) = 0 then b6 (C.elems (dk d2 0)) (Int.toNat (C.toInt (dk d2 3)) + 1) (y5 (bN (C.elems (dk d2 0)) (Int.toNat (C.toInt (dk d2 3))))) else 0)) (C.int (↑(Int.toNat (C.toInt (dk d2 5))) : Int)) (dk d2 6) (dk d2 7) (fun d3 m3 => (if List.length (C.elems (dk d3 3)) = List.length (C.elems (dk d3 3)) then (k3 [dk d2 0, dk d2 1, dk d2 2, C.int (IntKind.wrap IntKind.i64 (C.toInt (dk d2 4) + C.toInt (C.get (C.get (C.agg Z5) (Int.toNat (if o6 (C.elems (dk d2 0)) (Int.toNat (C.toInt (dk d2 3))) = 0 then bN (C.elems (dk d2 0)) (Int.toNat (C.toInt (dk d2 3))) else 0))) 2))), C.int (if o6 (C.elems (dk d2 0)) (Int.toNat (C.toInt (dk d2 3))) = 0 then (↑(Int.toNat (C.toInt (dk d2 3)) + 1 + y5 (bN (C.elems (dk d2 0)) (Int.toNat (C.toInt (dk d2 3))))) : Int) else 0), C.int (↑(Int.toNat (C.toInt (dk d3 0))) : Int), dk d3 1, dk d3 3] []) else none))) else none)))))) else none)) else none)) else none))
noncomputable def q3e {R : Type} (N : Nat) (a0 a1 a2 : C) (k1 : KD R) : Option R := (jn (fun d1 m1 => (bif C.toBool (dk d1 3) then (k1 [C.int 0, C.int 0, C.int 1] []) else (U4 N (q7F N k1) [dk d1 0, dk d1 1, dk d1 2, C.int 0, C.int 0, C.int 0, Y1 (Ty.int IntKind.i64), C.agg []] []))) (fun k2 => (bif decide (256 < (↑(List.length (C.elems a0)) : Int)) then (k2 [a0, a2, a1, C.bool true] []) else (bif decide (C.toInt a2 < 0) then (k2 [a0, a2, a1, C.bool true] []) else (k2 [a0, a2, a1, C.bool (decide (4096 < C.toInt a2))] [])))))
noncomputable def q1e {R : Type} (N : Nat) : C → C → C → KD R → Option R := lid "" (q3e N)
theorem q7E {R : Type} (N : Nat) (a0 a1 a2 : C) (k : KD R) : q1e N a0 a1 a2 k = q3e N a0 a1 a2 k := by unfold q1e; rw [W7]
theorem z8D {R : Type} (N : Nat) (a0 a1 a2 : C) (K : V → List (Key × O) → Option R) : exF (X0 gl0) ((z1V N).ov R) q0X (fun f r => bif Nat.beq f 22 then (bif Nat.beq r 0 then [(4, 5)] else []) else []) (fun f => bif Nat.beq f 22 then z9q else []) N 400 8 22 [.d (.slice 1 (.int .u8)) a0, .d J3 a1, .d (.int .i64) a2] A0 K =
  q1e N a0 a1 a2 (fun d1 m1 => K (V.tup [V.d (Ty.int IntKind.u64) (dk d1 0), V.d (Ty.int IntKind.i64) (dk d1 1), V.d (Ty.int IntKind.i64) (dk d1 2)]) []) := by
 rw [q7E]
 exact (show _ = jn (fun d1 m1 => (K (V.tup [V.d (Ty.int IntKind.u64) (dk d1 0), V.d (Ty.int IntKind.i64) (dk d1 1), V.d (Ty.int IntKind.i64) (dk d1 2)]) [])) (q3e N a0 a1 a2) by kernel_rfl).trans (Y2 _ _)
noncomputable def q8Z (N : Nat) {R : Type} : OvG R := fun xs _ K => match xs with
 | [.d t0 a0, .d t1 a1, .d t2 a2] => if t0 = (.slice 1 (.int .u8)) ∧ t1 = J3 ∧ t2 = (.int .i64) then q1e N a0 a1 a2 (fun d1 m1 => K (V.tup [V.d (Ty.int IntKind.u64) (dk d1 0), V.d (Ty.int IntKind.i64) (dk d1 1), V.d (Ty.int IntKind.i64) (dk d1 2)]) []) else none
 | _ => none
theorem z9p (N : Nat) {R : Type} : GOk (X0 gl0) 22 (q8Z N (R := R)) := by
 intro xs A Kr r hr
 unfold q8Z at hr
 split at hr
 ·simp only [Option.ite_none_right_eq_some] at hr
  obtain ⟨hty, hr⟩ := hr
  obtain ⟨rfl, rfl, rfl⟩ := hty
  rw [← z8D] at hr
  exact okA (z1V N) hr
 ·cases hr
end Go.Proofs.YtdoajkacibicoaaDoor
namespace Go.Proofs.YtdoajkacibicoaaDoor
open Go Go.E
set_option maxRecDepth 100000
set_option maxHeartbeats 4000000
set_option linter.unusedSimpArgs false
variable {R : Type} {N : Nat}
def z4V (a b : Int) : Int × Int := if (a + b) / 18446744073709551616 = 0 then ((a + b) % 18446744073709551616, 0) else (0, 11)
def z4f (a b : Int) : Int × Int := if a < b then (0, 12) else (IntKind.u64.wrap (a - b), 0)
theorem add_eq (a b : C) (k : KD R) : q2a N a b k = k [.int (z4V a.toInt b.toInt).1, .int (z4V a.toInt b.toInt).2] [] := by
 rw [q96]
 unfold q3X z4V
 by_cases h : (a.toInt + b.toInt) / 18446744073709551616 = 0 <;> simp [h]
theorem sub_eq (a b : C) (k : KD R) : q18 N a b k = k [.int (z4f a.toInt b.toInt).1, .int (z4f a.toInt b.toInt).2] [] := by
 rw [q92]
 unfold q3V z4f
 by_cases h : a.toInt < b.toInt <;> simp [h]
end Go.Proofs.YtdoajkacibicoaaDoor
namespace Go.Proofs.YtdoajkacibicoaaDoor
open Go Go.E
set_option maxRecDepth 100000
set_option maxHeartbeats 4000000
set_option linter.unusedSimpArgs false
variable {R : Type} {N : Nat}
structure St where
 s : List Int
 e : Int
def q3Q (b : Bool) : Int := if b = true then 1 else 0
def St.fail (x : St) (c : Int) : St := ⟨x.s, if x.e = 0 then c else x.e⟩
def St.pop (x : St) : Int × St := match x.s with
 | [] => (0, x.fail 12)
 | a :: r => (a, ⟨r, x.e⟩)
def St.push (x : St) (a : Int) : St := if 32 ≤ x.s.length then x.fail 4 else ⟨a :: x.s, x.e⟩
def St.q3k (x : St) (a b : Int) : St := if 32 ≤ x.s.length then x.fail 4 else (x.push a).push b
structure OkA (x : St) (arr : C) : Prop where
 le : x.s.length ≤ 32
 is : arr.elems.take x.s.length = x.s.reverse.map C.int
def St.q2U (x : St) (arr : C) (a : Int) : C := if 32 ≤ x.s.length then arr else .agg (arr.elems.take x.s.length ++ [.int a])
def St.q7V (x : St) (arr : C) (a b : Int) : C := if 32 ≤ x.s.length then arr else (x.push a).q2U (x.q2U arr a) b
section
variable {x : St} {arr : C}
theorem OkA.fail (h : OkA x arr) (c : Int) : OkA (x.fail c) arr := ⟨h.le, h.is⟩
theorem OkA.pop (h : OkA x arr) : OkA x.pop.2 arr := by
 obtain ⟨s, e⟩ := x
 cases s with
 | nil => exact ⟨h.le, h.is⟩
 | cons a r =>
  have h1 : r.length + 1 ≤ 32 := h.le
  have h2 : arr.elems.take (r.length + 1) = (a :: r).reverse.map C.int := h.is
  refine ⟨show r.length ≤ 32 by omega, show arr.elems.take r.length = r.reverse.map C.int from ?_⟩
  have h3 := congrArg (List.take r.length) h2
  rw [List.take_take, Nat.min_eq_left (Nat.le_succ _), List.reverse_cons, List.map_append, List.take_append_of_le_length (by rw [List.length_map, List.length_reverse]; exact Nat.le_refl _), List.take_of_length_le (l := List.map C.int r.reverse) (by simp)] at h3
  exact h3
theorem OkA.len (h : OkA x arr) : x.s.length ≤ arr.elems.length := by
 have := congrArg List.length h.is
 simp at this
 omega
theorem OkA.top {a : Int} {r : List Int} {e : Int} (h : OkA ⟨a :: r, e⟩ arr) : arr.get r.length = .int a := by
 have h2 : arr.elems.take (r.length + 1) = (a :: r).reverse.map C.int := h.is
 have h3 := congrArg (fun l => l[r.length]?) h2
 simp only [List.getElem?_take, Nat.lt_succ_self, if_true, List.reverse_cons, List.map_append] at h3
 rw [List.getElem?_append_right (by simp)] at h3
 have h4 : arr.elems[r.length]? = some (.int a) := by simpa using h3
 cases arr <;> simp only [C.elems, List.getElem?_nil, reduceCtorEq] at h4 <;> simp [C.get, h4]
theorem OkA.push (h : OkA x arr) (a : Int) : OkA (x.push a) (x.q2U arr a) := by
 unfold St.push St.q2U
 by_cases h1 : 32 ≤ x.s.length
 ·simp only [h1, if_true]; exact h.fail 4
 ·simp only [h1, if_false]
  refine ⟨show x.s.length + 1 ≤ 32 by omega, ?_⟩
  show List.take (x.s.length + 1) (arr.elems.take x.s.length ++ [C.int a]) = (a :: x.s).reverse.map C.int
  rw [h.is, List.take_of_length_le (by simp), List.reverse_cons, List.map_append]
  rfl
theorem OkA.q3k (h : OkA x arr) (a b : Int) : OkA (x.q3k a b) (x.q7V arr a b) := by
 unfold St.q3k St.q7V
 by_cases h1 : 32 ≤ x.s.length
 ·simp only [h1, if_true]; exact h.fail 4
 ·simp only [h1, if_false]; exact (h.push a).push b
theorem q20 (c : Int) (k : KD R) : c7 N (.int c) (.int x.s.length) (.int x.e) arr k = k [.int (x.fail c).s.length, .int (x.fail c).e, .int arr.elems.length, arr] [] := by
 rw [q5s]
 unfold q1c St.fail
 simp only [go_sem, s8, Y0, Int.toNat_natCast, if_true]
 by_cases h : x.e = 0 <;> simp [h]
theorem X9 (h : OkA x arr) (k : KD R) : x8 N (.int x.s.length) (.int x.e) arr k = k [.int x.pop.1, .int x.pop.2.s.length, .int x.pop.2.e, .int arr.elems.length, arr] [] := by
 obtain ⟨s, e⟩ := x
 cases s with
 | nil =>
  rw [q26]
  unfold q0s
  have := q20 (R := R) (N := N) (x := ⟨[], e⟩) (arr := arr) 12
  simp only [List.length_nil] at this ⊢
  simp only [go_sem, s8, Y0, Int.toNat_natCast, if_true]
  exact (this _).trans rfl
 | cons a r =>
  have hn : r.length + 1 ≤ 32 := h.le
  have hw : IntKind.wrap .i64 (((r.length + 1 : Nat) : Int) - 1) = r.length := by
   rw [IntWalk.i64_in _ (by omega)]; omega
  rw [q26]
  unfold q0s
  simp only [List.length_cons, go_sem, s8, Y0, Int.toNat_natCast, if_true, hw]
  have h0 : ¬ (((r.length + 1 : Nat) : Int) = 0) := by omega
  have h1 : (0 : Int) ≤ (r.length : Int) ∧ (r.length : Int) < ((r.length + 1 : Nat) : Int) := ⟨by omega, by omega⟩
  have h2 : (0 : Int) ≤ 0 ∧ (0 : Int) ≤ (r.length : Int) ∧ (r.length : Int) ≤ ((r.length + 1 : Nat) : Int) := ⟨by decide, by omega, by omega⟩
  simp only [h0, decide_false, cond_false, if_pos h1, if_pos h2, Nat.zero_add, Int.sub_zero, Int.toNat_natCast, h.top]
  rfl
theorem q4p (h : OkA x arr) (a : Int) (hN : 4 < N) (k : KD R) : r8 N (.slice [.int a]) (.int x.s.length) (.int x.e) arr k = k [.int (x.push a).s.length, .int (x.push a).e, .int arr.elems.length, x.q2U arr a] [] := by
 obtain ⟨M, rfl⟩ : ∃ M, N = M + 3 := ⟨N - 3, by omega⟩
 rw [q2H]
 unfold q0b
 simp only [go_sem, q1b, q2I, s8, Y0, b8, Int.toNat_natCast, if_true, List.length_cons, List.length_nil, Nat.zero_add]
 have hl := h.len
 have h32 := h.le
 have e1 : IntKind.i64.wrap ((0 : Int) + 1) = 1 := by decide
 have e2 : ((0 : Int) < ((1 : Nat) : Int)) = True := by simp
 have e3 : (((1 : Nat) : Int) < ((1 : Nat) : Int)) = False := by simp
 by_cases h1 : 32 ≤ x.s.length
 ·have h1' : (32 : Int) ≤ (x.s.length : Int) := by omega
  simp only [h1', q20, go_sem, s8, decide_true, if_true]
  simp [St.push, St.q2U, h1]
 ·have h1' : ¬ (32 : Int) ≤ (x.s.length : Int) := by omega
  have h2 : x.s.length + 1 = (List.take x.s.length arr.elems ++ [C.int a]).length := by simp; omega
  have h3 : (x.s.length + 1) * 8 ≤ 140737488355328 ∧ x.s.length + 1 ≤ 9223372036854775807 := by omega
  simp only [h1', go_sem, s8, e1, List.getD_cons_zero, ← h2, h3]
  simp [St.push, St.q2U, h1]
theorem z7b (h : OkA x arr) (a b : Int) (hN : 4 < N) (k : KD R) : r8 N (.slice [.int a, .int b]) (.int x.s.length) (.int x.e) arr k = k [.int (x.q3k a b).s.length, .int (x.q3k a b).e, .int arr.elems.length, x.q7V arr a b] [] := by
 obtain ⟨M, rfl⟩ : ∃ M, N = M + 3 := ⟨N - 3, by omega⟩
 rw [q2H]
 unfold q0b
 simp only [go_sem, q1b, q2I, s8, Y0, b8, Int.toNat_natCast, if_true, List.length_cons, List.length_nil, Nat.zero_add]
 have hl := h.len
 have h32 := h.le
 have e1 : IntKind.i64.wrap ((0 : Int) + 1) = 1 := by decide
 have e2 : IntKind.i64.wrap ((1 : Int) + 1) = 2 := by decide
 by_cases h1 : 32 ≤ x.s.length
 ·have h1' : (32 : Int) ≤ (x.s.length : Int) := by omega
  simp only [h1', q20, go_sem, s8, decide_true, if_true]
  simp [St.q3k, St.q7V, h1]
 ·have h1' : ¬ (32 : Int) ≤ (x.s.length : Int) := by omega
  have h2 : x.s.length + 1 = (List.take x.s.length arr.elems ++ [C.int a]).length := by simp; omega
  have h3 : (x.s.length + 1) * 8 ≤ 140737488355328 ∧ x.s.length + 1 ≤ 9223372036854775807 := by omega
  have hx : x.push a = ⟨a :: x.s, x.e⟩ := if_neg h1
  have hA : x.q2U arr a = .agg (arr.elems.take x.s.length ++ [.int a]) := if_neg h1
  simp only [h1', go_sem, s8, e1, e2, List.getD_cons_zero, List.getD_cons_succ, ← h2, h3]
  by_cases h4 : 32 ≤ x.s.length + 1
  ·have h4' : (32 : Int) ≤ ((x.s.length + 1 : Nat) : Int) := by omega
   have := q20 (R := R) (N := M + 3) (x := x.push a) (arr := x.q2U arr a) 4
   rw [hx, hA] at this
   simp only [List.length_cons] at this
   simp only [h4', go_sem, s8, this]
   simp [St.q3k, St.q7V, h1, hx, hA, St.push, St.q2U, h4]
  ·have h4' : ¬ (32 : Int) ≤ ((x.s.length + 1 : Nat) : Int) := by omega
   have h5 : (x.s.length + 1 + 1) * 8 ≤ 140737488355328 ∧ x.s.length + 1 + 1 ≤ 9223372036854775807 := by omega
   have h6 : List.take (x.s.length + 1) (List.take x.s.length arr.elems ++ [C.int a]) = List.take x.s.length arr.elems ++ [C.int a] := List.take_of_length_le (by omega)
   have h7 : x.s.length + 1 + 1 = (List.take x.s.length arr.elems ++ [C.int a] ++ [C.int b]).length := by simp; omega
   simp only [h4', go_sem, s8, y1q, h5, h6, ← h7]
   simp [St.q3k, St.q7V, h1, hx, hA, St.push, St.q2U, h4]
   rw [y1q, h6, List.append_assoc]
   rfl
theorem q4D (h : OkA x arr) (c : C) (hN : 4 < N) (k : KD R) : j8 N c (.int x.s.length) (.int x.e) arr k = k [.int (x.push (q3Q c.toBool)).s.length, .int (x.push (q3Q c.toBool)).e, .int arr.elems.length, x.q2U arr (q3Q c.toBool)] [] := by
 rw [q5v]
 unfold q1d
 cases hc : c.toBool <;> simp only [go_sem, s8, Int.toNat_natCast, if_true, cond_true, cond_false, q4p h _ hN] <;> first | done | rfl
end
def St.put (x : St) (r : Int × Int) : St := if r.2 = 0 then x.push r.1 else x.fail r.2
def hiM (a b : Int) : Int :=
  (IntKind.wrap IntKind.u64
   (IntKind.wrap IntKind.u64
     (IntKind.wrap IntKind.u64
       (Int.fdiv (a) (2 ^ min (Int.toNat 32) 64) * Int.fdiv (b) (2 ^ min (Int.toNat 32) 64)) +
      Int.fdiv
       (IntKind.wrap IntKind.u64
        (IntKind.wrap IntKind.u64
          (Int.fdiv (a) (2 ^ min (Int.toNat 32) 64) *
           q0y BinOp.and IntKind.u64 (b) 4294967295) +
         Int.fdiv
          (IntKind.wrap IntKind.u64
           (q0y BinOp.and IntKind.u64 (a) 4294967295 *
            q0y BinOp.and IntKind.u64 (b) 4294967295))
          (2 ^ min (Int.toNat 32) 64)))
       (2 ^ min (Int.toNat 32) 64)) +
    Int.fdiv
     (IntKind.wrap IntKind.u64
      (q0y BinOp.and IntKind.u64
        (IntKind.wrap IntKind.u64
         (IntKind.wrap IntKind.u64
           (Int.fdiv (a) (2 ^ min (Int.toNat 32) 64) *
            q0y BinOp.and IntKind.u64 (b) 4294967295) +
          Int.fdiv
           (IntKind.wrap IntKind.u64
            (q0y BinOp.and IntKind.u64 (a) 4294967295 *
             q0y BinOp.and IntKind.u64 (b) 4294967295))
           (2 ^ min (Int.toNat 32) 64)))
        4294967295 +
       IntKind.wrap IntKind.u64
        (q0y BinOp.and IntKind.u64 (a) 4294967295 *
         Int.fdiv (b) (2 ^ min (Int.toNat 32) 64))))
     (2 ^ min (Int.toNat 32) 64)))
def mulR (a b : Int) : Int × Int := if hiM a b = 0 then (IntKind.u64.wrap (a * b), 0) else (0, 11)
def St.q6r (x : St) (f : Int → Int → Int × Int) : St := if x.pop.2.pop.2.e = 0 then x.pop.2.pop.2.put (f x.pop.2.pop.1 x.pop.1) else x.pop.2.pop.2
def Z8 (w : C) (op : Nat) (arg : Int) (x : St) : St := match op with
 | 1 => x.push arg
 | 2 => if arg < ((w.get 0).elems.length : Int) then x.push ((w.get 0).elems.getD arg.toNat .nil).toInt else x.fail 1
 | 3 => x.q6r z4V
 | 4 => x.q6r z4f
 | 5 => x.q6r mulR
 | 6 => x.pop.2.pop.2.push (q3Q (decide (x.pop.2.pop.1 < x.pop.1)))
 | 7 => x.pop.2.pop.2.push (q3Q (decide (x.pop.2.pop.1 = x.pop.1)))
 | 8 => x.pop.2.push (q3Q (decide (x.pop.1 = 0)))
 | 9 => x.pop.2.pop.2.push (q3Q (!decide (x.pop.2.pop.1 = 0) && !decide (x.pop.1 = 0)))
 | 10 => x.pop.2.pop.2.push (q3Q (!decide (x.pop.2.pop.1 = 0) || !decide (x.pop.1 = 0)))
 | 13 => x.pop.2.q3k x.pop.1 x.pop.1
 | 14 => x.pop.2.pop.2.q3k x.pop.1 x.pop.2.pop.1
 | 15 => x.pop.2
 | 16 => if arg < ((w.get 1).elems.length : Int) then x.push (q3Q ((w.get 1).elems.getD arg.toNat .nil).toBool) else x.fail 1
 | 17 => x.push (w.get 2).toInt
 | _ => x
structure WOk (w : C) : Prop where
 f : ∀ c ∈ (w.get 0).elems, c = .int c.toInt
 l0 : (w.get 0).elems.length < 4611686018427387904
 l1 : (w.get 1).elems.length < 4611686018427387904
 h : w.get 2 = .int (w.get 2).toInt
theorem mul_eq (a b : Int) (k : KD R) : q19 N (.int a) (.int b) k = k [.int (mulR a b).1, .int (mulR a b).2] [] := by
 have h1 : ∀ k : KD R, H2 N (.int a) (.int b) k = k [.int (hiM a b), .int (IntKind.u64.wrap (a * b))] [] := fun k => by
  rw [q5e]; rfl
 rw [q94]
 unfold q3W mulR
 rw [h1]
 simp only [go_sem, s8]
 by_cases h : hiM a b = 0 <;> simp [h]
theorem y3t {w : C} (hw : WOk w) {x : St} {arr : C} (h : OkA x arr) (hN : 4 < N) (op : Nat) (hop : op ≤ 17) (arg : Int) (ha : 0 ≤ arg) : ∃ arr', OkA (Z8 w op arg x) arr' ∧ ∀ {R : Type} (k : KD R),
  Y6 N w (.int op) (.int arg) (.int x.s.length) (.int x.e) arr k = k [.int (Z8 w op arg x).s.length, .int (Z8 w op arg x).e, .int arr.elems.length, arr'] [] := by
 have c : op = 0 ∨ op = 1 ∨ op = 2 ∨ op = 3 ∨ op = 4 ∨ op = 5 ∨ op = 6 ∨ op = 7 ∨ op = 8 ∨ op = 9 ∨ op = 10 ∨ op = 11 ∨ op = 12 ∨ op = 13 ∨ op = 14 ∨ op = 15 ∨ op = 16 ∨ op = 17 := by omega
 have hp := h.pop
 have hpp := hp.pop
 have red : ∀ b : Prop, [Decidable b] → (if b then true else false) = decide b := fun b _ => by by_cases h : b <;> simp [h]
 have m1 : IntKind.u64.min = 0 := by decide
 have m2 : IntKind.u64.max = 18446744073709551615 := by decide
 have ofl : ∀ n : Nat, n < 4611686018427387904 → IntKind.u64.wrap (n : Int) = n := fun n hn => q7K (by omega) (by omega)
 have go : ∀ (x' : St) (arr' : C), OkA x' arr' → (∀ {R : Type} (k : KD R), y9 N w (.int op) (.int arg) (.int x.s.length) (.int x.e) arr k = k [.int x'.s.length, .int x'.e, .int arr.elems.length, arr'] []) → x' = Z8 w op arg x → ∃ arr', OkA (Z8 w op arg x) arr' ∧ ∀ {R : Type} (k : KD R),
  Y6 N w (.int op) (.int arg) (.int x.s.length) (.int x.e) arr k = k [.int (Z8 w op arg x).s.length, .int (Z8 w op arg x).e, .int arr.elems.length, arr'] [] := by
  rintro x' arr' h1 h2 rfl
  exact ⟨arr', h1, fun k => by rw [q4h]; exact h2 k⟩
 have q6r : ∀ (f : Int → Int → Int × Int), Z8 w op arg x = x.q6r f → (∀ {R : Type} (k : KD R), y9 N w (.int op) (.int arg) (.int x.s.length) (.int x.e) arr k =
   if x.pop.2.pop.2.e = 0 then (if (f x.pop.2.pop.1 x.pop.1).2 = 0 then k [.int (x.pop.2.pop.2.push (f x.pop.2.pop.1 x.pop.1).1).s.length, .int (x.pop.2.pop.2.push (f x.pop.2.pop.1 x.pop.1).1).e, .int arr.elems.length, x.pop.2.pop.2.q2U arr (f x.pop.2.pop.1 x.pop.1).1] []
    else k [.int (x.pop.2.pop.2.fail (f x.pop.2.pop.1 x.pop.1).2).s.length, .int (x.pop.2.pop.2.fail (f x.pop.2.pop.1 x.pop.1).2).e, .int arr.elems.length, arr] [])
   else k [.int x.pop.2.pop.2.s.length, .int x.pop.2.pop.2.e, .int arr.elems.length, arr] []) → ∃ arr', OkA (Z8 w op arg x) arr' ∧ ∀ {R : Type} (k : KD R),
  Y6 N w (.int op) (.int arg) (.int x.s.length) (.int x.e) arr k = k [.int (Z8 w op arg x).s.length, .int (Z8 w op arg x).e, .int arr.elems.length, arr'] [] := by
  intro f hf hk
  by_cases h1 : x.pop.2.pop.2.e = 0
  ·by_cases h2 : (f x.pop.2.pop.1 x.pop.1).2 = 0
   ·refine go _ _ (hpp.push (f x.pop.2.pop.1 x.pop.1).1) (fun k => ?_) ?_
    ·rw [hk, if_pos h1, if_pos h2]
    ·rw [hf]; simp [St.q6r, St.put, h1, h2]
   ·refine go _ _ (hpp.fail (f x.pop.2.pop.1 x.pop.1).2) (fun k => ?_) ?_
    ·rw [hk, if_pos h1, if_neg h2]
    ·rw [hf]; simp [St.q6r, St.put, h1, h2]
  ·refine go _ _ hpp (fun k => ?_) ?_
   ·rw [hk, if_neg h1]
   ·rw [hf]; simp [St.q6r, h1]
 rcases c with rfl | rfl | rfl | rfl | rfl | rfl | rfl | rfl | rfl | rfl | rfl | rfl | rfl | rfl | rfl | rfl | rfl | rfl
 case inr.inl =>   -- push
  refine go _ _ (h.push arg) (fun k => ?_) rfl
  unfold y9
  simp only [go_sem, s8, Int.toNat_natCast, if_true, q4p h _ hN, Int.reduceEq, reduceIte]
 case inr.inr.inl =>   -- load
  by_cases hlt : arg < ((w.get 0).elems.length : Int)
  ·have hlt' : ¬ ((w.get 0).elems.length : Int) ≤ arg := by omega
   have hget : (w.get 0).elems.getD arg.toNat .nil = .int ((w.get 0).elems.getD arg.toNat .nil).toInt := by
    refine hw.f _ ?_
    rw [List.getD_eq_getElem?_getD, List.getElem?_eq_getElem (by omega)]
    exact List.getElem_mem _
   refine go _ _ (h.push ((w.get 0).elems.getD arg.toNat .nil).toInt) (fun k => ?_) (by simp only [Z8, hlt, if_true])
   unfold y9
   simp only [go_sem, s8, Int.toNat_natCast, if_true, ofl _ hw.l0, hlt', hlt, ha, and_self, Int.reduceEq, reduceIte]
   rw [hget, q4p h _ hN]
   simp only [go_sem, s8, Int.toNat_natCast, if_true]
  ·have hlt' : ((w.get 0).elems.length : Int) ≤ arg := by omega
   refine go _ _ (h.fail 1) (fun k => ?_) (by simp only [Z8, hlt, if_false])
   unfold y9
   simp only [go_sem, s8, Int.toNat_natCast, if_true, ofl _ hw.l0, hlt', q20, Int.reduceEq, reduceIte]
 case inr.inr.inr.inl =>   -- add
  refine q6r z4V rfl fun k => ?_
  unfold y9
  simp only [go_sem, s8, Int.toNat_natCast, if_true, X9 h, X9 hp, add_eq, q4p hpp _ hN, q20, Int.reduceEq, reduceIte]
  by_cases h1 : x.pop.2.pop.2.e = 0 <;> by_cases h2 : (z4V x.pop.2.pop.1 x.pop.1).2 = 0 <;> simp [h1, h2]
 case inr.inr.inr.inr.inl =>   -- sub
  refine q6r z4f rfl fun k => ?_
  unfold y9
  simp only [go_sem, s8, Int.toNat_natCast, if_true, X9 h, X9 hp, sub_eq, q4p hpp _ hN, q20, Int.reduceEq, reduceIte]
  by_cases h1 : x.pop.2.pop.2.e = 0 <;> by_cases h2 : (z4f x.pop.2.pop.1 x.pop.1).2 = 0 <;> simp [h1, h2]
 case inr.inr.inr.inr.inr.inl =>   -- mul
  refine q6r mulR rfl fun k => ?_
  unfold y9
  simp only [go_sem, s8, Int.toNat_natCast, if_true, X9 h, X9 hp, mul_eq, q4p hpp _ hN, q20, Int.reduceEq, reduceIte]
  by_cases h1 : x.pop.2.pop.2.e = 0 <;> by_cases h2 : (mulR x.pop.2.pop.1 x.pop.1).2 = 0 <;> simp [h1, h2]
 all_goals try (   -- those that can't fail of themselves
  first
  | (refine go _ _ (hpp.push _) (fun k => ?_) rfl
     unfold y9
     simp only [go_sem, s8, Y0, Int.toNat_natCast, if_true, X9 h, X9 hp, q4D hpp _ hN, Int.reduceEq, reduceIte]
     first | done | rfl)
  | (refine go _ _ (hp.push _) (fun k => ?_) rfl
     unfold y9
     simp only [go_sem, s8, Y0, Int.toNat_natCast, if_true, X9 h, q4D hp _ hN, Int.reduceEq, reduceIte]
     first | done | rfl)
  | (refine go _ _ (hp.q3k _ _) (fun k => ?_) rfl
     unfold y9
     simp only [go_sem, s8, Int.toNat_natCast, if_true, X9 h, z7b hp _ _ hN, Int.reduceEq, reduceIte]
     first | done | rfl)
  | (refine go _ _ (hpp.q3k _ _) (fun k => ?_) rfl
     unfold y9
     simp only [go_sem, s8, Int.toNat_natCast, if_true, X9 h, X9 hp, z7b hpp _ _ hN, Int.reduceEq, reduceIte]
     first | done | rfl)
  | (refine go _ _ hp (fun k => ?_) rfl
     unfold y9
     simp only [go_sem, s8, Int.toNat_natCast, if_true, X9 h, Int.reduceEq, reduceIte]
     first | done | rfl)
  | (refine go _ _ h (fun k => ?_) rfl
     unfold y9
     simp only [go_sem, s8, Int.toNat_natCast, if_true, Int.reduceEq, reduceIte]
     first | done | rfl))
 ·by_cases h1 : x.pop.2.pop.1 = 0
  ·refine go _ _ (hpp.push (q3Q false)) (fun k => ?_) (by simp [Z8, h1])
   unfold y9
   simp only [go_sem, s8, Y0, Int.toNat_natCast, if_true, X9 h, X9 hp, h1, decide_true, Bool.not_true, cond_false, q4D hpp _ hN, Int.reduceEq, reduceIte]
   first | done | rfl
  ·refine go _ _ (hpp.push (q3Q (!decide (x.pop.1 = 0)))) (fun k => ?_) (by simp [Z8, h1])
   unfold y9
   simp only [go_sem, s8, Y0, Int.toNat_natCast, if_true, X9 h, X9 hp, h1, decide_false, Bool.not_false, cond_true, q4D hpp _ hN, Int.reduceEq, reduceIte]
   first | done | rfl
 ·by_cases h1 : x.pop.2.pop.1 = 0
  ·refine go _ _ (hpp.push (q3Q (!decide (x.pop.1 = 0)))) (fun k => ?_) (by simp [Z8, h1])
   unfold y9
   simp only [go_sem, s8, Y0, Int.toNat_natCast, if_true, X9 h, X9 hp, h1, decide_true, Bool.not_true, cond_false, q4D hpp _ hN, Int.reduceEq, reduceIte]
   first | done | rfl
  ·refine go _ _ (hpp.push (q3Q true)) (fun k => ?_) (by simp [Z8, h1])
   unfold y9
   simp only [go_sem, s8, Y0, Int.toNat_natCast, if_true, X9 h, X9 hp, h1, decide_false, Bool.not_false, cond_true, q4D hpp _ hN, Int.reduceEq, reduceIte]
   first | done | rfl
 ·by_cases hlt : arg < ((w.get 1).elems.length : Int)
  ·have hlt' : ¬ ((w.get 1).elems.length : Int) ≤ arg := by omega
   refine go _ _ (h.push (q3Q ((w.get 1).elems.getD arg.toNat .nil).toBool)) (fun k => ?_) (by simp only [Z8, hlt, if_true])
   unfold y9
   simp only [go_sem, s8, Int.toNat_natCast, if_true, ofl _ hw.l1, hlt', hlt, ha, and_self, q4D h _ hN, Int.reduceEq, reduceIte]
   first | done | rfl
  ·have hlt' : ((w.get 1).elems.length : Int) ≤ arg := by omega
   refine go _ _ (h.fail 1) (fun k => ?_) (by simp only [Z8, hlt, if_false])
   unfold y9
   simp only [go_sem, s8, Int.toNat_natCast, if_true, ofl _ hw.l1, hlt', q20, Int.reduceEq, reduceIte]
 ·refine go _ _ (h.push (w.get 2).toInt) (fun k => ?_) rfl
  unfold y9
  simp only [go_sem, s8, Int.toNat_natCast, if_true, Int.reduceEq, reduceIte]
  rw [hw.h, q4p h _ hN]
  simp only [go_sem, s8, Int.toNat_natCast, if_true]
end Go.Proofs.YtdoajkacibicoaaDoor
namespace Go.Proofs.YtdoajkacibicoaaDoor
open Go Go.E
set_option maxRecDepth 100000
set_option maxHeartbeats 4000000
set_option linter.unusedSimpArgs false
variable {R : Type} {N : Nat}
def U8 (o : Int) : Int := if o = 5 then 3 else if o = 16 then 10 else 1
theorem z0B (o : Int) : 1 ≤ U8 o ∧ U8 o ≤ 10 := by unfold U8; (repeat' split) <;> omega
theorem y04 : ∀ (o : Nat), o < 18 → (Z5.getD o .nil).get 2 = .int (U8 o) := by
 intro o h
 have c : o = 0 ∨ o = 1 ∨ o = 2 ∨ o = 3 ∨ o = 4 ∨ o = 5 ∨ o = 6 ∨ o = 7 ∨ o = 8 ∨ o = 9 ∨ o = 10 ∨ o = 11 ∨ o = 12 ∨ o = 13 ∨ o = 14 ∨ o = 15 ∨ o = 16 ∨ o = 17 := by omega
 rcases c with rfl | rfl | rfl | rfl | rfl | rfl | rfl | rfl | rfl | rfl | rfl | rfl | rfl | rfl | rfl | rfl | rfl | rfl <;> rfl
def q0Z (p : List C) (i : Nat) : Int := b6 p (i + 1) (y5 (bN p i))
def q9N (p : List C) (gas : Int) (w : C) : Nat → Nat → Int → St → Int × Int × Int
 | 0, _, _, _ => (0, 0, 0)
 | f + 1, i, sp, x =>
  if o6 p i ≠ 0 then (0, sp, o6 p i)
  else if gas - sp < U8 (bN p i) then (0, sp, 24)
  else if bN p i = 0 then (x.pop.1, sp + U8 (bN p i), x.pop.2.e)
  else if bN p i = 11 then (if x.e ≠ 0 then (0, sp + U8 (bN p i), x.e) else q9N p gas w f (q0Z p i).toNat (sp + U8 (bN p i)) x)
  else if bN p i = 12 then (if x.pop.2.e ≠ 0 then (0, sp + U8 (bN p i), x.pop.2.e) else q9N p gas w f (if x.pop.1 = 0 then i + 1 + y5 (bN p i) else (q0Z p i).toNat) (sp + U8 (bN p i)) x.pop.2)
  else (if (Z8 w (bN p i).toNat (q0Z p i) x).e ≠ 0 then (0, sp + U8 (bN p i), (Z8 w (bN p i).toNat (q0Z p i) x).e)
   else q9N p gas w f (i + 1 + y5 (bN p i)) (sp + U8 (bN p i)) (Z8 w (bN p i).toNat (q0Z p i) x))
theorem q3v {p : List C} {gas : Int} {w : C} : ∀ (f g i : Nat) (sp : Int) (x : St), (gas - sp).toNat < f → (gas - sp).toNat < g → q9N p gas w f i sp x = q9N p gas w g i sp x
 | 0, _, _, _, _, h, _ => by omega
 | _ + 1, 0, _, _, _, _, h => by omega
 | f + 1, g + 1, i, sp, x, h1, h2 => by
  have hc := z0B (bN p i)
  simp only [q9N]
  split
  ·rfl
  split
  ·rfl
  split
  ·rfl
  split
  ·split
   ·rfl
   ·exact q3v f g _ _ _ (by omega) (by omega)
  split
  ·split
   ·rfl
   ·exact q3v f g _ _ _ (by omega) (by omega)
  split
  ·rfl
  ·exact q3v f g _ _ _ (by omega) (by omega)
def q5F (p : List C) (gas : Int) (w : C) (i : Nat) (sp : Int) (x : St) : Int × Int × Int := q9N p gas w ((gas - sp).toNat + 1) i sp x
theorem y5d {p : List C} {gas : Int} {w : C} {i : Nat} {sp : Int} {x : St} : q5F p gas w i sp x =
  if o6 p i ≠ 0 then (0, sp, o6 p i)
  else if gas - sp < U8 (bN p i) then (0, sp, 24)
  else if bN p i = 0 then (x.pop.1, sp + U8 (bN p i), x.pop.2.e)
  else if bN p i = 11 then (if x.e ≠ 0 then (0, sp + U8 (bN p i), x.e) else q5F p gas w (q0Z p i).toNat (sp + U8 (bN p i)) x)
  else if bN p i = 12 then (if x.pop.2.e ≠ 0 then (0, sp + U8 (bN p i), x.pop.2.e) else q5F p gas w (if x.pop.1 = 0 then i + 1 + y5 (bN p i) else (q0Z p i).toNat) (sp + U8 (bN p i)) x.pop.2)
  else (if (Z8 w (bN p i).toNat (q0Z p i) x).e ≠ 0 then (0, sp + U8 (bN p i), (Z8 w (bN p i).toNat (q0Z p i) x).e)
   else q5F p gas w (i + 1 + y5 (bN p i)) (sp + U8 (bN p i)) (Z8 w (bN p i).toNat (q0Z p i) x)) := by
 have hc := z0B (bN p i)
 unfold q5F
 rw [q9N]
 split
 ·rfl
 split
 ·rfl
 split
 ·rfl
 split
 ·split
  ·rfl
  ·exact q3v _ _ _ _ _ (by omega) (by omega)
 split
 ·split
  ·rfl
  ·exact q3v _ _ _ _ _ (by omega) (by omega)
 split
 ·rfl
 ·exact q3v _ _ _ _ _ (by omega) (by omega)
theorem y4U {p : List C} (hp : C.wf (.slice 1 (.int .u8)) (.slice p)) {i : Nat} (h : i + 1 + y5 (bN p i) ≤ p.length) (h2 : bN p i = 11 ∨ bN p i = 12) : 0 ≤ q0Z p i ∧ q0Z p i < 65536 := by
 have hm : y5 (bN p i) = 2 := by rcases h2 with h2 | h2 <;> rw [h2] <;> rfl
 have h16 := z4R hp (i := i + 1) (k := y5 (bN p i)) (by omega)
 unfold q0Z
 rw [hm] at h16 ⊢
 exact ⟨h16.1, by have := h16.2; omega⟩
structure y72 where
 i : Nat
 sp : Int
 x : St
 arr : C
theorem y6o {p : List C} (hp : C.wf (.slice 1 (.int .u8)) (.slice p)) (hl : p.length ≤ 256) {gas : Int} (hg : 0 ≤ gas ∧ gas ≤ 4096) {w : C} (hw : WOk w) (hN : 5000 < N) (k : KD R) :
  q1e N (.slice p) w (.int gas) k = k [.int (q5F p gas w 0 0 ⟨[], 0⟩).1, .int (q5F p gas w 0 0 ⟨[], 0⟩).2.1, .int (q5F p gas w 0 0 ⟨[], 0⟩).2.2] [] := by
 rw [q7E]
 unfold q3e
 have a1 : ¬ (256 : Int) < (p.length : Int) := by omega
 have a2 : ¬ gas < 0 := by omega
 have a3 : ¬ (4096 : Int) < gas := by omega
 simp only [go_sem, s8, b8, Y0, a1, a2, a3, decide_false, cond_false]
 refine q69 (F := q7F N k) (fun i : y72 => [.slice p, .int gas, w, .int i.i, .int i.sp, .int i.x.s.length, .int i.x.e, i.arr]) (fun _ => []) (fun i => (gas - i.sp).toNat)
  (fun i => OkA i.x i.arr ∧ i.x.e = 0 ∧ 0 ≤ i.sp ∧ i.sp ≤ gas ∧ i.i ≤ 100000) (fun i => k [.int (q5F p gas w i.i i.sp i.x).1, .int (q5F p gas w i.i i.sp i.x).2.1, .int (q5F p gas w i.i i.sp i.x).2.2] [])
  ?_ N ⟨0, 0, ⟨[], 0⟩, .agg []⟩ ⟨⟨by simp, by simp [C.elems]⟩, rfl, by dsimp only; omega, by dsimp only; omega, by dsimp only; omega⟩ (by dsimp only; omega)
 rintro ⟨i, sp, x, arr⟩ ⟨hA, he, h0, h1, hi⟩ rec hrec
 dsimp only at hA he h0 h1 hi hrec ⊢
 rw [y5d]
 unfold q7F
 have b1 : List.length p ≤ 256 ∧ (0 : Int) ≤ (i : Int) ∧ (i : Int) ≤ 100000 := ⟨hl, by omega, by omega⟩
 simp only [go_sem, s8, b8, Y0, b1, if_true, and_self, Int.toNat_natCast]
 by_cases e1 : o6 p i = 0
 case neg => simp [e1]
 have hb : i < p.length ∧ bN p i < 18 ∧ i + 1 + y5 (bN p i) ≤ p.length := by
  unfold o6 at e1
  split at e1
  ·cases e1
  split at e1
  ·cases e1
  split at e1
  ·cases e1
  omega
 have hbw := q7k hp hb.1
 have hop : 0 ≤ bN p i ∧ bN p i < 18 := by omega
 simp only [e1, hop, if_true, and_self, decide_true, Bool.not_true, cond_false, ne_eq, not_true, if_false]
 have hco : (Z5.getD (bN p i).toNat .nil).get 2 = .int (U8 (bN p i)) := by
  have := y04 (bN p i).toNat (by omega)
  rwa [Int.toNat_of_nonneg hop.1] at this
 have hcp := z0B (bN p i)
 have w1 : IntKind.i64.wrap (gas - sp) = gas - sp := IntWalk.i64_in _ (by omega)
 have w2 : IntKind.i64.wrap (sp + U8 (bN p i)) = sp + U8 (bN p i) := IntWalk.i64_in _ (by omega)
 have hmo := q8B (bN p i)
 obtain ⟨g1, g2, g3⟩ := z4S hp (i := i + 1) (k := y5 (bN p i)) (by omega) hmo
 have hpl := y3t hw hA (N := N) (by omega) (bN p i).toNat (by omega) (b6 p (i + 1) (y5 (bN p i))) g1
 rw [Int.toNat_of_nonneg hop.1] at hpl
 simp only [hco, go_sem, s8, w1, w2]
 generalize hc : U8 (bN p i) = c at *
 by_cases e2 : gas - sp < c
 ·simp [e2]
 by_cases e3 : bN p i = 0
 ·simp [e2, e3, X9 hA, go_sem]
 have hw3 : 0 ≤ q0Z p i → q0Z p i < 65536 → IntKind.i64.wrap (b6 p (i + 1) (y5 (bN p i))) = ((q0Z p i).toNat : Int) := fun h1 h2 => by
  rw [Int.toNat_of_nonneg h1]
  exact IntWalk.i64_in _ (by unfold q0Z at *; omega)
 by_cases e4 : bN p i = 11
 ·obtain ⟨q1, q2⟩ := y4U hp hb.2.2 (.inl e4)
  have := hrec ⟨(q0Z p i).toNat, sp + c, x, arr⟩ ⟨hA, he, by dsimp only; omega, by dsimp only; omega, by dsimp only; omega⟩ (by dsimp only; omega)
  simp only [hw3 q1 q2]
  simp only [e2, e3, e4, he, decide_true, decide_false, cond_true, cond_false, Bool.not_true, if_true, if_false, not_true, not_false_iff, Int.reduceEq]
  simpa only [he] using this
 by_cases e5 : bN p i = 12
 ·obtain ⟨q1, q2⟩ := y4U hp hb.2.2 (.inr e5)
  simp only [hw3 q1 q2, X9 hA]
  simp only [e2, e3, e4, e5, go_sem, s8, decide_true, decide_false, cond_true, cond_false, Bool.not_true, if_true, if_false, not_true, not_false_iff, Int.reduceEq, Int.toNat_natCast]
  by_cases e6 : x.pop.2.e = 0
  ·by_cases e7 : x.pop.1 = 0
   ·have := hrec ⟨i + 1 + y5 (bN p i), sp + c, x.pop.2, arr⟩ ⟨hA.pop, e6, by dsimp only; omega, by dsimp only; omega, by dsimp only; omega⟩ (by dsimp only; omega)
    simp only [e5] at this
    simpa [e6, e7] using this
   ·have := hrec ⟨(q0Z p i).toNat, sp + c, x.pop.2, arr⟩ ⟨hA.pop, e6, by dsimp only; omega, by dsimp only; omega, by dsimp only; omega⟩ (by dsimp only; omega)
    simpa [e6, e7] using this
  ·by_cases e7 : x.pop.1 = 0 <;> simp [e6, e7]
 ·obtain ⟨arr', hA', hk⟩ := hpl
  simp only [hk]
  simp only [e2, e3, e4, e5, go_sem, s8, decide_true, decide_false, cond_true, cond_false, Bool.not_true, if_true, if_false, not_true, not_false_iff, Int.reduceEq, Int.toNat_natCast]
  have hq : b6 p (i + 1) (y5 (bN p i)) = q0Z p i := rfl
  rw [hq] at hA' ⊢
  by_cases e6 : (Z8 w (bN p i).toNat (q0Z p i) x).e = 0
  ·have := hrec ⟨i + 1 + y5 (bN p i), sp + c, Z8 w (bN p i).toNat (q0Z p i) x, arr'⟩ ⟨hA', e6, by dsimp only; omega, by dsimp only; omega, by dsimp only; omega⟩ (by dsimp only; omega)
   simpa [e6] using this
  ·simp [e6]
end Go.Proofs.YtdoajkacibicoaaDoor
namespace Go.Proofs.YtdoajkacibicoaaDoor
open Go Go.E
set_option maxRecDepth 100000
set_option maxHeartbeats 4000000
set_option linter.unusedVariables false
noncomputable def z4v : Hints := [([0, 1, 1, 1, 1], ⟨[], [(0, .d .bool)], [], [], [], []⟩),
  ([9], ⟨[], [(0, .d .bool)], [], [], [], []⟩)]
noncomputable def q73 (N : Nat) : OvS (X0 gl0) where
 g R := [(10, q2O N), (19, q4Q N), (23, z0q N), (64, q3Z N), (29, q1H N), (22, q8Z N)]
 ok := fun R => List.forall_mem_cons.2 ⟨q5P N, List.forall_mem_cons.2 ⟨z0f N, List.forall_mem_cons.2 ⟨z4A N, List.forall_mem_cons.2 ⟨q9b N, List.forall_mem_cons.2 ⟨q5S N, List.forall_mem_cons.2 ⟨z9p N, fun _ h => nomatch h⟩⟩⟩⟩⟩⟩
noncomputable def q2Y {R : Type} (N : Nat) (k1 : KD R) : Option R := (q1e N (C.slice [C.int (IntKind.wrap IntKind.u8 (Int.ofNat 1)), C.int (IntKind.wrap IntKind.u8 (Int.ofNat 0)), C.int (IntKind.wrap IntKind.u8 (Int.ofNat 0)), C.int (IntKind.wrap IntKind.u8 (Int.ofNat 0)), C.int (IntKind.wrap IntKind.u8 (Int.ofNat 0)), C.int (IntKind.wrap IntKind.u8 (Int.ofNat 0)), C.int (IntKind.wrap IntKind.u8 (Int.ofNat 0)), C.int (IntKind.wrap IntKind.u8 (Int.ofNat 0)), C.int (IntKind.wrap IntKind.u8 (Int.ofNat 2)), C.int (IntKind.wrap IntKind.u8 (Int.ofNat 1)), C.int (IntKind.wrap IntKind.u8 (Int.ofNat 0)), C.int (IntKind.wrap IntKind.u8 (Int.ofNat 0)), C.int (IntKind.wrap IntKind.u8 (Int.ofNat 0)), C.int (IntKind.wrap IntKind.u8 (Int.ofNat 0)), C.int (IntKind.wrap IntKind.u8 (Int.ofNat 0)), C.int (IntKind.wrap IntKind.u8 (Int.ofNat 0)), C.int (IntKind.wrap IntKind.u8 (Int.ofNat 0)), C.int (IntKind.wrap IntKind.u8 (Int.ofNat 3)), C.int (IntKind.wrap IntKind.u8 (Int.ofNat 6)), C.int (IntKind.wrap IntKind.u8 0)]) (C.agg [C.slice [], C.slice [], Y1 (Ty.int IntKind.u64)]) (C.int 100) (fun d1 m1 => (q1e N (C.slice [C.int 11, C.int 0, C.int 0]) (C.agg [C.slice [], C.slice [], Y1 (Ty.int IntKind.u64)]) (C.int 50) (fun d2 m2 => (jn (fun d3 m3 => (k1 [C.bool (C.toBool (dk d3 0))] [])) (fun k2 => (bif decide (C.toInt (dk d1 2) = 0) then (bif decide (C.toInt (dk d1 0) = 1) then (bif decide (C.toInt (dk d1 1) = 4) then (k2 [C.bool (decide (C.toInt (dk d2 2) = 24))] []) else (k2 [C.bool false] [])) else (k2 [C.bool false] [])) else (k2 [C.bool false] []))))))))
noncomputable def H4 {R : Type} (N : Nat) : KD R → Option R := lid "" (q2Y N)
theorem q72 {R : Type} (N : Nat)  (k : KD R) : H4 N  k = q2Y N  k := by unfold H4; rw [W7]
theorem z3n {R : Type} (N : Nat)  (K : V → List (Key × O) → Option R) : exF (X0 gl0) ((q73 N).ov R) q0X (fun f r => bif Nat.beq f 20 then (bif Nat.beq r 8 then [(35, 4)] else bif Nat.beq r 14 then [(58, 1)] else []) else bif Nat.beq f 30 then (bif Nat.beq r 4 then [(15, 1)] else []) else []) (fun f => bif Nat.beq f 9 then z4v else []) N 3000 20 9 [] A0 K =
  H4 N  (fun d1 m1 => K (V.d Ty.bool (C.bool (C.toBool (dk d1 0)))) []) := by
 rw [q72]
 exact (show _ = jn (fun d1 m1 => (K (V.d Ty.bool (C.bool (C.toBool (dk d1 0)))) [])) (q2Y N ) by kernel_rfl).trans (Y2 _ _)
noncomputable def q5I (N : Nat) {R : Type} : OvG R := fun xs _ K => match xs with
 | [] => H4 N  (fun d1 m1 => K (V.d Ty.bool (C.bool (C.toBool (dk d1 0)))) [])
 | _ => none
theorem z4u (N : Nat) {R : Type} : GOk (X0 gl0) 9 (q5I N (R := R)) := by
 intro xs A Kr r hr
 unfold q5I at hr
 split at hr
 ·skip
  rw [← z3n] at hr
  exact okA (q73 N) hr
 ·cases hr
end Go.Proofs.YtdoajkacibicoaaDoor
namespace Go.Proofs.YtdoajkacibicoaaDoor
open Go Go.E
set_option maxRecDepth 100000
set_option maxHeartbeats 4000000
set_option linter.unusedSimpArgs false
variable {R : Type} {N : Nat}
def z4l (p : List C) (w : C) (gas : Int) : Int × Int × Int := if 256 < p.length ∨ gas < 0 ∨ 4096 < gas then (0, 0, 1) else q5F p gas w 0 0 ⟨[], 0⟩
theorem run_eq {p : List C} (hp : C.wf (.slice 1 (.int .u8)) (.slice p)) {gas : Int} {w : C} (hw : WOk w) (hN : 5000 < N) (k : KD R) :
  q1e N (.slice p) w (.int gas) k = k [.int (z4l p w gas).1, .int (z4l p w gas).2.1, .int (z4l p w gas).2.2] [] := by
 unfold z4l
 by_cases h : 256 < p.length ∨ gas < 0 ∨ 4096 < gas
 ·rw [if_pos h, q7E]
  unfold q3e
  simp only [go_sem, s8, b8, Y0]
  by_cases a1 : (256 : Int) < (p.length : Int)
  ·simp [a1]
  by_cases a2 : gas < 0
  ·simp [a1, a2]
  have a3 : (4096 : Int) < gas := by omega
  simp [a1, a2, a3]
 ·rw [if_neg h]
  exact y6o hp (by omega) (by omega) hw hN k
theorem z1Y {l : List C} (h : ∀ c ∈ l, c = .int c.toInt ∧ 0 ≤ c.toInt ∧ c.toInt ≤ 255) (hl : l.length ≤ 100000) : C.wf (.slice 1 (.int .u8)) (.slice l) := by
 have m1 : IntKind.u8.min = 0 := by decide
 have m2 : IntKind.u8.max = 255 := by decide
 simp only [C.wf, C.elems]
 refine ⟨trivial, by omega, by omega, fun c hc => ?_⟩
 obtain ⟨h1, h2, h3⟩ := h c hc
 exact ⟨h1, by omega, by omega⟩
def w0 : C := .agg [.slice [], .slice [], .int 0]
theorem y4z : WOk w0 := ⟨by simp [w0, C.get, C.elems], by simp [w0, C.get, C.elems], by simp [w0, C.get, C.elems], rfl⟩
theorem y4s (hN : 5000 < N) (k : KD R) : H4 N k = k [.bool true] [] := by
 rw [q72]
 unfold q2Y
 have hz : (C.agg [C.slice [], C.slice [], Y1 (Ty.int IntKind.u64)]) = w0 := rfl
 have hp : ∀ (a b : Int), C.slice [C.int (IntKind.wrap IntKind.u8 (Int.ofNat 1)), C.int (IntKind.wrap IntKind.u8 (Int.ofNat 0)),
  C.int (IntKind.wrap IntKind.u8 (Int.ofNat 0)), C.int (IntKind.wrap IntKind.u8 (Int.ofNat 0)),
  C.int (IntKind.wrap IntKind.u8 (Int.ofNat 0)), C.int (IntKind.wrap IntKind.u8 (Int.ofNat 0)),
  C.int (IntKind.wrap IntKind.u8 (Int.ofNat 0)), C.int (IntKind.wrap IntKind.u8 (Int.ofNat 0)),
  C.int (IntKind.wrap IntKind.u8 (Int.ofNat 2)), C.int (IntKind.wrap IntKind.u8 (Int.ofNat 1)),
  C.int (IntKind.wrap IntKind.u8 (Int.ofNat 0)), C.int (IntKind.wrap IntKind.u8 (Int.ofNat 0)),
  C.int (IntKind.wrap IntKind.u8 (Int.ofNat 0)), C.int (IntKind.wrap IntKind.u8 (Int.ofNat 0)),
  C.int (IntKind.wrap IntKind.u8 (Int.ofNat 0)), C.int (IntKind.wrap IntKind.u8 (Int.ofNat 0)),
  C.int (IntKind.wrap IntKind.u8 (Int.ofNat 0)), C.int (IntKind.wrap IntKind.u8 (Int.ofNat 3)),
  C.int (IntKind.wrap IntKind.u8 (Int.ofNat 6)), C.int (IntKind.wrap IntKind.u8 0)] = C.slice ([1, 0, 0, 0, 0, 0, 0, 0, 2, 1, 0, 0, 0, 0, 0, 0, 0, 3, 6, 0].map C.int) := fun _ _ => rfl
 have hq : C.slice [C.int 11, C.int 0, C.int 0] = C.slice ([11, 0, 0].map C.int) := rfl
 have wfm : ∀ l : List Int, l.all (fun x => decide (0 ≤ x) && decide (x ≤ 255)) = true → l.length ≤ 100 → C.wf (.slice 1 (.int .u8)) (.slice (l.map C.int)) := fun l h hl => z1Y (fun c hc => by
  obtain ⟨x, hx, rfl⟩ := List.mem_map.1 hc
  have := List.all_eq_true.1 h x hx
  simp at this
  exact ⟨rfl, this.1, this.2⟩) (by simp; omega)
 have r1 : z4l ([1, 0, 0, 0, 0, 0, 0, 0, 2, 1, 0, 0, 0, 0, 0, 0, 0, 3, 6, 0].map C.int) w0 100 = (1, 4, 0) := by kernel_rfl
 have r2 : z4l ([11, 0, 0].map C.int) w0 50 = (0, 50, 24) := by kernel_rfl
 have q1 := fun k : KD R => run_eq (gas := 100) (wfm [1, 0, 0, 0, 0, 0, 0, 0, 2, 1, 0, 0, 0, 0, 0, 0, 0, 3, 6, 0] (by decide) (by decide)) y4z hN k
 have q2 := fun k : KD R => run_eq (gas := 50) (wfm [11, 0, 0] (by decide) (by decide)) y4z hN k
 rw [hp 0 0, hq, hz]
 simp only [q1, q2, r1, r2, Y2, q2i, q5O, q8W, s8, Y0, decide_true, cond_true]
end Go.Proofs.YtdoajkacibicoaaDoor
namespace Go.Proofs.YtdoajkacibicoaaDoor
open Go Go.E
set_option maxRecDepth 100000
set_option maxHeartbeats 4000000
set_option linter.unusedVariables false
end Go.Proofs.YtdoajkacibicoaaDoor
namespace Go.Proofs.YtdoajkacibicoaaDoor
open Go Go.E
set_option maxRecDepth 100000
set_option maxHeartbeats 4000000
set_option linter.unusedSimpArgs false
variable {R : Type} {N : Nat}
theorem y0C {p : List C} (h : W1 p = 0) : p.length ≤ 256 ∧ z0O p 0 := by
 unfold W1 at h
 split at h
 ·cases h
 ·rename_i h1
  split at h
  ·rename_i h2; exact absurd h h2
  ·rename_i h2
   exact ⟨by omega, Nat.zero_le _, [], by simpa using h2⟩
theorem y5m (l : List (List UInt8)) : (l.map C.str).map C.toStr = l := by
 rw [List.map_map]; simp [Function.comp_def, q4Y]
theorem z5y (sep : List UInt8) (hs : sep.length ≤ 1) : ∀ l : List (List UInt8), (∀ x ∈ l, x.length ≤ 31) → (J6 sep l).length ≤ 32 * l.length
 | [], _ => by simp [J6]
 | [x], h => by have := h x (by simp); show x.length ≤ _; simp; omega
 | x :: y :: l, h => by
  have h1 := h x (by simp)
  have h2 := z5y sep hs (y :: l) (fun z hz => h z (by simp [hz]))
  show (x ++ sep ++ J6 sep (y :: l)).length ≤ _
  simp only [List.length_append, List.length_cons] at h2 ⊢
  omega
theorem z45 {p : List C} (hp : C.wf (.slice 1 (.int .u8)) (.slice p)) : ∀ (f i : Nat), z0O p i → (∀ x ∈ Q0 p f i, x.length ≤ 31) ∧ (Q0 p f i).length ≤ f
 | 0, _, _ => ⟨fun x hx => (by cases hx), Nat.le_refl _⟩
 | f + 1, i, h => by
  unfold Q0
  split
  ·exact ⟨fun x hx => (by cases hx), Nat.zero_le _⟩
  ·rename_i hi
   obtain ⟨h1, h2⟩ := h.at_ hp (by omega)
   obtain ⟨h3, h4⟩ := z45 hp f _ h2
   refine ⟨fun x hx => ?_, by simp only [List.length_cons]; omega⟩
   rcases List.mem_cons.1 hx with rfl | hx
   ·exact z5u h1
   ·exact h3 x hx
def q5B (p : List C) : List UInt8 × Int := if W1 p = 0 then (J6 [UInt8.ofNat 10] (Q0 p p.length 0), 0) else ([], W1 p)
theorem z8G {p : List C} (hp : C.wf (.slice 1 (.int .u8)) (.slice p)) (hN : 140737488355329 < N) (k : KD R) : F8 N (.slice p) k = k [.str (q5B p).1, .int (q5B p).2] [] := by
 rw [z0H]
 unfold q38 q5B
 simp only [Y2, b8]
 by_cases h : W1 p = 0
 ·obtain ⟨hl, hok⟩ := y0C h
  simp only [h, decide_true, Bool.not_true, cond_false, if_true]
  obtain ⟨M, hM⟩ : ∃ M, N = M + p.length + 1 := ⟨N - p.length - 1, by omega⟩
  have key := z3V (R := R) hp hl N (fun d1 m1 => if (J6 [UInt8.ofNat 10] ((C.elems (dk d1 0)).map C.toStr)).length ≤ 140737488355328 then k [C.str (J6 [UInt8.ofNat 10] ((C.elems (dk d1 0)).map C.toStr)), C.int 0] [] else none) p.length 0 [] M (by omega) hok (by simp; omega)
  rw [← hM] at key
  refine Eq.trans ?_ (key.trans ?_)
  ·rfl
  ·obtain ⟨t1, t2⟩ := z45 hp p.length 0 hok
   have t3 := z5y [UInt8.ofNat 10] (Nat.le_refl _) _ t1
   simp only [q2i, b8, List.nil_append, y5m]
   exact if_pos (by omega)
 ·simp only [h, decide_false, Bool.not_false, cond_true, if_false]
end Go.Proofs.YtdoajkacibicoaaDoor
namespace Go.Proofs.YtdoajkacibicoaaDoor
open Go Go.E
set_option maxRecDepth 100000
set_option maxHeartbeats 4000000
set_option linter.unusedSimpArgs false
variable {R : Type} {N : Nat}
theorem z2Z (c : UInt8) : ∀ (l : List UInt8) (acc m : Nat), Lib.parseUint10 acc l = .ok m → Lib.parseUint10 acc (l ++ [c]) = Lib.parseUint10 m [c]
 | [], acc, m, h => by simp only [Lib.parseUint10] at h; cases h; rfl
 | d :: l, acc, m, h => by
  rw [List.cons_append]
  rw [Lib.parseUint10] at h ⊢
  split at h
  ·rename_i h1
   rw [if_pos h1]
   split at h
   ·cases h
   ·rename_i h2
    rw [if_neg h2]
    split at h
    ·cases h
    ·rename_i h3
     rw [if_neg h3]
     exact z2Z c l _ m h
  ·cases h
theorem y1Y (n : Nat) : n < 18446744073709551616 → Lib.parseUint10 0 (Lib.decDigits n) = .ok n := by
 induction n using Nat.strongRecOn with
 | _ n ih =>
  intro h
  by_cases h10 : n < 10
  ·rw [Lib.decDigits_one h10]
   have e : (UInt8.ofNat (48 + n)).toNat = 48 + n := by rw [UInt8.toNat_ofNat']; omega
   simp only [Lib.parseUint10, e]
   rw [if_pos (by omega), if_neg (by omega), if_neg (by omega)]
   congr 1; omega
  ·rw [Lib.decDigits, dif_neg h10, z2Z _ _ _ _ (ih (n / 10) (by omega) (by omega))]
   have e : (UInt8.ofNat (48 + n % 10)).toNat = 48 + n % 10 := by rw [UInt8.toNat_ofNat']; omega
   simp only [Lib.parseUint10, e]
   rw [if_pos (by omega), if_neg (by omega), if_neg (by omega)]
   congr 1; omega
theorem y5P (n : Nat) (h : n < 18446744073709551616) : H5 n ≠ [] := by
 rw [q8f n h, Lib.decDigits]
 split <;> simp
theorem y3B {B : Nat} (hB : B = 8 ∨ B = 16 ∨ B = 64) (n : Nat) (h : n ≤ 2 ^ B - 1) : z4q B (H5 n) = some n := by
 have hM : 2 ^ B - 1 ≤ 18446744073709551615 := by rcases hB with rfl | rfl | rfl <;> decide
 have h64 : n < 18446744073709551616 := by omega
 rw [z9H hB]
 have hp := y1Y n h64
 rw [← q8f n h64] at hp
 rw [hp]
 exact if_pos ⟨y5P n h64, h, rfl⟩
theorem z7z {o : Nat} (h : o < 18) : ∀ c ∈ q0P o, c ≠ UInt8.ofNat 32 ∧ c ≠ UInt8.ofNat 10 := by
 rcases q6M h with rfl | rfl | rfl | rfl | rfl | rfl | rfl | rfl | rfl | rfl | rfl | rfl | rfl | rfl | rfl | rfl | rfl | rfl <;> decide
theorem z5M : ∀ (l r : List UInt8), (∀ c ∈ l, c ≠ UInt8.ofNat 32) → Z1 (l ++ UInt8.ofNat 32 :: r) = l.length
 | [], r, _ => by simp [Z1]
 | c :: l, r, h => by
  rw [List.cons_append, Z1, if_neg (h c (by simp)), z5M l r (fun d hd => h d (by simp [hd]))]; rfl
theorem z5O : ∀ (l : List UInt8), (∀ c ∈ l, c ≠ UInt8.ofNat 32) → Z1 l = l.length
 | [], _ => rfl
 | c :: l, h => by rw [Z1, if_neg (h c (by simp)), z5O l (fun d hd => h d (by simp [hd]))]; rfl
theorem q9X {o : Nat} (h : o < 18) (f : Bool) (rest : List UInt8) : q8A (q0P o) f rest = q9W f rest o := by
 rcases q6M h with rfl | rfl | rfl | rfl | rfl | rfl | rfl | rfl | rfl | rfl | rfl | rfl | rfl | rfl | rfl | rfl | rfl | rfl <;> rfl
end Go.Proofs.YtdoajkacibicoaaDoor
namespace Go.Proofs.YtdoajkacibicoaaDoor
open Go Go.E
set_option maxRecDepth 100000
set_option maxHeartbeats 4000000
set_option linter.unusedSimpArgs false
variable {R : Type} {N : Nat}
theorem z2I (b : UInt8) : ∀ l : List UInt8, (∀ c ∈ l, c ≠ b) → j5 b l = [l]
 | [], _ => rfl
 | c :: l, h => by
  rw [j5, if_neg (h c (by simp)), z2I b l (fun d hd => h d (by simp [hd]))]
theorem z2J (b : UInt8) : ∀ (l r : List UInt8), (∀ c ∈ l, c ≠ b) → j5 b (l ++ b :: r) = l :: j5 b r
 | [], r, _ => by rw [List.nil_append, j5, if_pos rfl]
 | c :: l, r, h => by
  rw [List.cons_append, j5, if_neg (h c (by simp)), z2J b l r (fun d hd => h d (by simp [hd]))]
theorem z1A (b : UInt8) : ∀ (L : List (List UInt8)), L ≠ [] → (∀ l ∈ L, ∀ c ∈ l, c ≠ b) → j5 b (J6 [b] L) = L
 | [], h, _ => absurd rfl h
 | [l], _, h => z2I b l (h l (by simp))
 | l :: m :: L, _, h => by
  show j5 b (l ++ [b] ++ J6 [b] (m :: L)) = _
  rw [List.append_assoc, List.singleton_append, z2J b l _ (h l (by simp)), z1A b (m :: L) (by simp) (fun x hx => h x (by simp [hx]))]
theorem z1L (b : UInt8) : ∀ t : List UInt8, J6 [b] (j5 b t) = t
 | [] => rfl
 | c :: t => by
  have ih := z1L b t
  obtain ⟨x, l, hx⟩ := z5a b t
  rw [hx] at ih
  unfold j5
  by_cases e : c = b
  ·rw [if_pos e, hx, q56, List.map_cons, List.flatten_cons]
   rw [q56] at ih
   rw [e, List.nil_append, List.append_assoc, ih]; rfl
  ·rw [if_neg e, hx]
   show J6 [b] ((c :: x) :: l) = c :: t
   rw [q56] at ih ⊢
   rw [List.cons_append, ih]
theorem y1i (n : Nat) : ∀ c ∈ Lib.decDigits n, 48 ≤ c.toNat ∧ c.toNat ≤ 57 := by
 induction n using Nat.strongRecOn with
 | _ n ih =>
  rw [Lib.decDigits]
  by_cases h : n < 10
  ·rw [dif_pos h]
   intro c hc
   rw [List.mem_singleton.1 hc, UInt8.toNat_ofNat']; omega
  ·rw [dif_neg h]
   intro c hc
   rcases List.mem_append.1 hc with hc | hc
   ·exact ih (n / 10) (by omega) c hc
   ·rw [List.mem_singleton.1 hc, UInt8.toNat_ofNat']; omega
theorem y2K (n : Nat) (h : n < 18446744073709551616) : ∀ c ∈ H5 n, c ≠ UInt8.ofNat 10 := by
 intro c hc e
 rw [q8f n h] at hc
 have := y1i n c hc
 rw [e] at this
 exact absurd this.1 (by decide)
theorem y0N {p : List C} {i : Nat} (h : At p i) : ∀ c ∈ q0S p i, c ≠ UInt8.ofNat 10 := by
 obtain ⟨o, ho, hb⟩ := h.op
 have harg := h.arg
 intro c hc
 unfold q0S at hc
 rw [hb] at hc
 rcases List.mem_append.1 hc with hc | hc
 ·exact (z7z ho c hc).2
 ·split at hc
  ·rcases List.mem_append.1 hc with hc | hc
   ·rw [List.mem_singleton.1 hc]; decide
   ·rw [hb] at harg; exact y2K _ (by omega) c hc
  ·cases hc
theorem y11 {p : List C} {i : Nat} (h : At p i) (hb8 : b6 p (i + 1) (y5 (bN p i)) ≤ 2 ^ (8 * y5 (bN p i)) - 1) : q1F (q0S p i) = (C.int (bN p i) :: Y8 (y5 (bN p i)) (b6 p (i + 1) (y5 (bN p i))), 0) := by
 obtain ⟨o, ho, hb⟩ := h.op
 have harg := h.arg
 have hno : ∀ c ∈ q0P o, c ≠ UInt8.ofNat 32 := fun c hc => (z7z ho c hc).1
 unfold q1F q0S
 rw [hb] at harg hb8 ⊢
 simp only [Int.toNat_natCast]
 by_cases hm : 0 < y5 (o : Int)
 ·obtain ⟨n, hn⟩ : ∃ n : Nat, b6 p (i + 1) (y5 (o : Int)) = (n : Int) := ⟨(b6 p (i + 1) (y5 (o : Int))).toNat, by omega⟩
  rw [hn] at harg hb8 ⊢
  have hmc := q3U ho
  have hle : n ≤ 2 ^ (8 * y5 (o : Int)) - 1 := by
   have hc : y5 (o : Int) = 1 ∨ y5 (o : Int) = 2 ∨ y5 (o : Int) = 8 := by omega
   rcases hc with hc | hc | hc <;> rw [hc] at hb8 ⊢
   ·have e1 : (2 : Int) ^ (8 * 1) - 1 = 255 := by decide
    have e2 : 2 ^ (8 * 1) - 1 = 255 := by decide
    omega
   ·have e1 : (2 : Int) ^ (8 * 2) - 1 = 65535 := by decide
    have e2 : 2 ^ (8 * 2) - 1 = 65535 := by decide
    omega
   ·have e1 : (2 : Int) ^ (8 * 8) - 1 = 18446744073709551615 := by decide
    have e2 : 2 ^ (8 * 8) - 1 = 18446744073709551615 := by decide
    omega
  rw [if_pos hm]
  simp only [Int.toNat_natCast, List.singleton_append]
  have hl : (q0P o).length < (q0P o ++ UInt8.ofNat 32 :: H5 n).length := by simp
  have hd : List.drop ((q0P o).length + 1) (q0P o ++ UInt8.ofNat 32 :: H5 n) = H5 n := by
   rw [← List.drop_drop, List.drop_left]; rfl
  simp only [z5M _ _ hno, List.take_left, hl, decide_true, hd]
  rw [q9X ho]
  unfold q9W
  rw [if_pos (decide_eq_true hm).symm, cond_true, y3B (by omega) n hle]
 ·simp only [hm, if_false, List.append_nil, z5O _ hno, List.take_length, Nat.lt_irrefl, decide_false]
  rw [q9X ho]
  have e0 : y5 (o : Int) = 0 := by omega
  unfold q9W
  rw [if_pos (decide_eq_false hm).symm, cond_false, e0]
  rfl
end Go.Proofs.YtdoajkacibicoaaDoor
namespace Go.Proofs.YtdoajkacibicoaaDoor
open Go Go.E
set_option maxRecDepth 100000
set_option maxHeartbeats 4000000
set_option linter.unusedSimpArgs false
variable {R : Type} {N : Nat}
theorem z5j {p : List C} (hp : C.wf (.slice 1 (.int .u8)) (.slice p)) (i : Nat) : ∀ m : Nat, i + m ≤ p.length → 0 ≤ b6 p i m ∧ b6 p i m ≤ 2 ^ (8 * m) - 1 ∧ Y8 m (b6 p i m) = (p.drop i).take m
 | 0, _ => ⟨Int.le_refl _, by simp [b6], by simp [Y8]⟩
 | m + 1, h => by
  obtain ⟨h1, h2, h3⟩ := z5j hp i m (by omega)
  obtain ⟨b1, b2, b3⟩ := q7k hp (i := i + m) (by omega)
  have e1 : b6 p i (m + 1) = b6 p i m * 256 + bN p (i + m) := rfl
  have e2 : (b6 p i m * 256 + bN p (i + m)) / 256 = b6 p i m := by omega
  have e3 : (b6 p i m * 256 + bN p (i + m)) % 256 = bN p (i + m) := by omega
  have e4 : (2 : Int) ^ (8 * (m + 1)) = 2 ^ (8 * m) * 256 := by rw [Nat.mul_succ, Int.pow_add]; rfl
  refine ⟨by rw [e1]; omega, by rw [e1, e4]; omega, ?_⟩
  rw [e1]
  show Y8 m ((b6 p i m * 256 + bN p (i + m)) / 256) ++ [C.int ((b6 p i m * 256 + bN p (i + m)) % 256)] = _
  rw [e2, e3, h3, List.take_add_one]
  congr 1
  rw [List.getElem?_drop, List.getElem?_eq_getElem (by omega)]
  rw [List.getD_eq_getElem?_getD, List.getElem?_eq_getElem (show i + m < p.length by omega)] at b1
  simp only [Option.getD_some] at b1
  rw [b1]; rfl
theorem z3k {p : List C} (hp : C.wf (.slice 1 (.int .u8)) (.slice p)) : ∀ (f i j : Nat) (out : List C), p.length - i ≤ f → z0O p i →
  q1f (fun _ out s => q5H out s) j out (Q0 p f i) = .inl (out ++ p.drop i)
 | 0, i, j, out, hf, hok => by
  simp only [Q0, q1f]
  rw [List.drop_eq_nil_of_le (by omega), List.append_nil]
 | f + 1, i, j, out, hf, hok => by
  unfold Q0
  by_cases hi : p.length ≤ i
  ·rw [if_pos hi, List.drop_eq_nil_of_le hi, List.append_nil]; rfl
  ·rw [if_neg hi]
   obtain ⟨hat, hok'⟩ := hok.at_ hp (by omega)
   have hnx := hat.nxt
   obtain ⟨h1, h2, h3⟩ := z5j hp (i + 1) (y5 (bN p i)) hnx
   have hL : q5H out (q0S p i) = .inl (out ++ (C.int (bN p i) :: (p.drop (i + 1)).take (y5 (bN p i)))) := by
    unfold q5H
    rw [y11 hat h2, h3]; rfl
   simp only [q1f, hL]
   rw [z3k hp f _ (j + 1) _ (by omega) hok', List.append_assoc]
   congr 2
   have hb := (q7k hp (i := i) (by omega)).1
   rw [List.getD_eq_getElem?_getD, List.getElem?_eq_getElem (show i < p.length by omega)] at hb
   simp only [Option.getD_some] at hb
   rw [List.drop_eq_getElem_cons (show i < p.length by omega), hb, List.cons_append]
   congr 1
   have hdd : p.drop (i + 1 + y5 (bN p i)) = (p.drop (i + 1)).drop (y5 (bN p i)) := by rw [List.drop_drop]
   rw [hdd, List.take_append_drop]
theorem y3L {p : List C} {i : Nat} (h : At p i) : q0S p i ≠ [] := by
 obtain ⟨o, ho, hb⟩ := h.op
 unfold q0S
 rw [hb, Int.toNat_natCast]
 have : q0P o ≠ [] := by
  rcases q6M ho with rfl | rfl | rfl | rfl | rfl | rfl | rfl | rfl | rfl | rfl | rfl | rfl | rfl | rfl | rfl | rfl | rfl | rfl <;> decide
 intro h
 exact this (List.append_eq_nil_iff.1 h).1
theorem z2E {p : List C} (hp : C.wf (.slice 1 (.int .u8)) (.slice p)) : ∀ (f i : Nat), z0O p i → ∀ l ∈ Q0 p f i, ∀ c ∈ l, c ≠ UInt8.ofNat 10
 | 0, _, _ => fun l hl => by cases hl
 | f + 1, i, hok => by
  unfold Q0
  by_cases hi : p.length ≤ i
  ·rw [if_pos hi]; intro l hl; cases hl
  ·rw [if_neg hi]
   obtain ⟨hat, hok'⟩ := hok.at_ hp (by omega)
   intro l hl
   rcases List.mem_cons.1 hl with rfl | hl
   ·exact y0N hat
   ·exact z2E hp f _ hok' l hl
theorem y1G {p : List C} (hp : C.wf (.slice 1 (.int .u8)) (.slice p)) (h : W1 p = 0) (hl : (q5B p).1.length ≤ 4096) : q7s (q5B p).1 = (p, 0) := by
 obtain ⟨h256, hok⟩ := y0C h
 unfold q5B at hl ⊢
 rw [if_pos h] at hl ⊢
 cases p with
 | nil => rfl
 | cons c p =>
  obtain ⟨hat, hok'⟩ := hok.at_ hp (Nat.succ_pos _)
  have hne : Q0 (c :: p) (c :: p).length 0 ≠ [] := by
   show Q0 (c :: p) (p.length + 1) 0 ≠ []
   rw [Q0, if_neg (by simp)]; simp
  have hsp := z1A (UInt8.ofNat 10) _ hne (z2E hp (c :: p).length 0 hok)
  have hjn : J6 [UInt8.ofNat 10] (Q0 (c :: p) (c :: p).length 0) ≠ [] := by
   intro e
   rw [e] at hsp
   have h1 : Q0 (c :: p) (c :: p).length 0 = q0S (c :: p) 0 :: Q0 (c :: p) p.length (0 + 1 + y5 (bN (c :: p) 0)) := by
    show Q0 (c :: p) (p.length + 1) 0 = _
    rw [Q0, if_neg (by simp)]
   rw [h1] at hsp
   exact y3L hat (List.cons.inj hsp).1.symm
  unfold q7s
  rw [if_neg (by omega), if_neg hjn, hsp]
  have hb := z3k hp (c :: p).length 0 0 [] (Nat.le_refl _) hok
  have hb : q8F (Q0 (c :: p) (c :: p).length 0) = .inl (c :: p) := hb
  rw [hb]
  simp only [h, if_true]
end Go.Proofs.YtdoajkacibicoaaDoor
namespace Go.Proofs.YtdoajkacibicoaaDoor
open Go Go.E
set_option maxRecDepth 100000
set_option maxHeartbeats 4000000
set_option linter.unusedSimpArgs false
variable {R : Type} {N : Nat}
theorem y10 {nm : List UInt8} (h : ∀ o, o < 18 → q0P o ≠ nm) (f : Bool) (rest : List UInt8) : (q8A nm f rest).2 = 40 := by
 have key : ∀ (l : List Nat) (i : Nat), i + l.length ≤ 18 → q1f (fun o (_ : Unit) (_ : Nat) => q8z nm f rest o) i () l = .inl () := by
  intro l
  induction l with
  | nil => intro i _; rfl
  | cons x l ih =>
   intro i hi
   simp only [List.length_cons] at hi
   simp only [q1f]
   unfold q8z
   rw [if_neg (h i (by omega))]
   exact ih (i + 1) (by omega)
 unfold q8A
 rw [key (List.range 18) 0 (by rw [List.length_range]; omega)]
theorem z5N : ∀ (w : List UInt8), Z1 w < w.length → w.drop (Z1 w) = UInt8.ofNat 32 :: w.drop (Z1 w + 1)
 | [], h => by simp at h
 | c :: w, h => by
  unfold Z1 at h ⊢
  by_cases e : c = UInt8.ofNat 32
  ·simp only [e, if_true]; rfl
  ·simp only [e, if_false, List.length_cons] at h ⊢
   exact z5N w (by omega)
theorem y3z {w : List UInt8} (h : (q1F w).2 = 0) : ∃ o : Nat, o < 18 ∧ ((y5 (o : Int) = 0 ∧ w = q0P o ∧ (q1F w).1 = [C.int (o : Int)]) ∨
  ∃ u : Nat, 0 < y5 (o : Int) ∧ u ≤ 2 ^ (8 * y5 (o : Int)) - 1 ∧ w = q0P o ++ UInt8.ofNat 32 :: H5 u ∧ (q1F w).1 = C.int (o : Int) :: Y8 (y5 (o : Int)) (u : Int)) := by
 have hle := z1m w
 by_cases hx : ∃ o, o < 18 ∧ q0P o = w.take (Z1 w)
 ·obtain ⟨o, ho, hn⟩ := hx
  refine ⟨o, ho, ?_⟩
  unfold q1F at h ⊢
  rw [← hn, q9X ho] at h ⊢
  have htd := List.take_append_drop (Z1 w) w
  have hmc := q3U ho
  unfold q9W at h ⊢
  by_cases hf : Z1 w < w.length
  ·rw [decide_eq_true hf] at h ⊢
   by_cases hm : 0 < y5 (o : Int)
   ·rw [if_pos (decide_eq_true hm).symm, cond_true] at h ⊢
    have hB : 8 * y5 (o : Int) = 8 ∨ 8 * y5 (o : Int) = 16 ∨ 8 * y5 (o : Int) = 64 := by omega
    cases hq : z4q (8 * y5 (o : Int)) (w.drop (Z1 w + 1)) with
    | none => rw [hq] at h; exact absurd (show (10 : Int) = 0 from h) (by decide)
    | some u =>
     rw [z9H hB] at hq
     refine .inr ⟨u, hm, ?_⟩
     cases hp : Lib.parseUint10 0 (w.drop (Z1 w + 1)) with
     | ok v =>
      rw [hp] at hq
      simp only at hq
      split at hq
      ·rename_i hc
       cases hq
       refine ⟨hc.2.1, ?_, rfl⟩
       rw [hn, hc.2.2, ← z5N w hf, htd]
      ·cases hq
     | range => rw [hp] at hq; cases hq
     | _ => rw [hp] at hq; cases hq
   ·rw [if_neg (by rw [decide_eq_false hm]; decide)] at h
    exact absurd (show (10 : Int) = 0 from h) (by decide)
  ·rw [decide_eq_false hf] at h ⊢
   have e : Z1 w = w.length := by omega
   by_cases hm : 0 < y5 (o : Int)
   ·rw [if_neg (by rw [decide_eq_true hm]; decide)] at h
    exact absurd (show (10 : Int) = 0 from h) (by decide)
   ·rw [if_pos (decide_eq_false hm).symm, cond_false]
    refine .inl ⟨by omega, ?_, rfl⟩
    rw [hn, e, List.take_length]
 ·have := y10 (nm := w.take (Z1 w)) (fun o ho hn => hx ⟨o, ho, hn⟩) (decide (Z1 w < w.length)) (w.drop (Z1 w + 1))
  unfold q1F at h
  rw [this] at h
  exact absurd h (by decide)
end Go.Proofs.YtdoajkacibicoaaDoor
