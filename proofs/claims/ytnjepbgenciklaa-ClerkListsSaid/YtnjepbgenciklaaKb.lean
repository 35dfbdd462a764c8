/-
  What the functions on the way compute, part 2.
  Conditions: none.
-/
import Derived.Test.YtnjepbgenciklaaKa
set_option linter.all false
namespace Go.Proofs.Ytnjepbgenciklaa
open Go Go.E
set_option maxRecDepth 100000
set_option maxHeartbeats 4000000
set_option linter.unusedVariables false
noncomputable def ref20_Add_hs : Hints := [([1, 0, 1, 1], ⟨[3], [(5, .sl 112 tWish 5005)], [], [], [], []⟩),
    ([4, 1, 0, 1, 1], ⟨[0, 3], [(5, .sl 112 tWish 5005), (6, .d (.int .i64))], [], [], [], []⟩),
    ([9], ⟨[], [(4, .sl 112 tWish 5004)], [], [], [], []⟩)]
noncomputable def ref20_Add_ov (N : Nat) : OvS (X0 gl0) where
  g R := [(17, ref20_Same_g N)]
  ok := fun R => List.forall_mem_cons.2 ⟨ref20_Same_ok N, fun _ h => nomatch h⟩
noncomputable def ref20_Add_l1 {R : Type} (N : Nat) (k1 : KD R) (k2 : KD R) : KD R → List C → List Es → Option R := (fun k3 d1 m1 => (bif decide (C.toInt (dk d1 3) < (↑(List.length (C.elems (dk d1 0))) : Int)) then (if 0 ≤ C.toInt (dk d1 3) ∧ C.toInt (dk d1 3) < (↑(List.length (C.elems (dk d1 0))) : Int) then (ref20_Same_p N (C.get (List.getD (C.elems (dk d1 0)) (Int.toNat (C.toInt (dk d1 3))) C.nil) 0) (C.get (dk d1 1) 0) (fun d2 m2 => (bif C.toBool (dk d2 0) then (bif Nat.beq (List.length (C.elems (dk d1 2))) (List.length (C.elems (dk d1 2))) then (k1 [C.slice (C.elems (dk d1 2))] []) else none) else (bif Nat.beq (List.length (C.elems (dk d1 2))) (List.length (C.elems (dk d1 2))) then (k3 [dk d1 0, dk d1 1, C.slice (C.elems (dk d1 2)), C.int (IntKind.wrap IntKind.i64 (C.toInt (dk d1 3) + 1))] []) else none)))) else none) else (bif Nat.beq (List.length (C.elems (dk d1 2))) (List.length (C.elems (dk d1 2))) then (k2 [dk d1 1, C.slice (C.elems (dk d1 2))] []) else none)))
noncomputable def ref20_Add_p0 {R : Type} (N : Nat) (a0 a1 : C) (k1 : KD R) : Option R := (jn (fun d1 m1 => (bif Nat.beq (List.length (C.elems (dk d1 1))) (List.length (C.elems (dk d1 1))) then (if (List.length (C.elems (dk d1 1)) + 1) * 112 ≤ 140737488355328 ∧ List.length (C.elems (dk d1 1)) + 1 ≤ 9223372036854775807 then (bif Nat.beq (List.length (C.elems (dk d1 1)) + 1) (List.length (C.elems (dk d1 1) ++ [dk d1 0])) then (k1 [C.slice (C.elems (dk d1 1) ++ [dk d1 0])] []) else none) else none) else none)) (fun k2 => (bif Nat.beq (List.length (C.elems a0)) (List.length (C.elems a0)) then (loopK N (ref20_Add_l1 N k1 k2) [a0, a1, C.slice (C.elems a0), C.int 0] []) else none)))
noncomputable def ref20_Add_p {R : Type} (N : Nat) : C → C → KD R → Option R := lid "ref20_Add_p N" (ref20_Add_p0 N)
theorem ref20_Add_pe {R : Type} (N : Nat) (a0 a1 : C) (k : KD R) : ref20_Add_p N a0 a1 k = ref20_Add_p0 N a0 a1 k := by unfold ref20_Add_p; rw [lid_eq]
theorem ref20_Add_run {R : Type} (N : Nat) (a0 a1 : C) (K : V → List (Key × O) → Option R) : exF (X0 gl0) ((ref20_Add_ov N).ov R) extX (fun f r => bif Nat.beq f 11 then (bif Nat.beq r 0 then [(3, 5)] else bif Nat.beq r 5 then [(23, 7)] else []) else []) (fun f => bif Nat.beq f 11 then ref20_Add_hs else []) N 400 8 11 [.d (.slice 112 tWish) a0, .d tWish a1] A0 K =
    ref20_Add_p N a0 a1 (fun d1 m1 => K (V.ts 112 tWish (C.elems (dk d1 0))) []) := by
  rw [ref20_Add_pe]
  exact (show _ = jn (fun d1 m1 => (bif Nat.beq (List.length (C.elems (dk d1 0))) (List.length (C.elems (dk d1 0))) then
    (K (V.ts 112 tWish (C.elems (dk d1 0))) [])
  else
    none)) (ref20_Add_p0 N a0 a1) by kernel_rfl).trans ((jn_eq _ _).trans (congrArg (ref20_Add_p0 N a0 a1) (funext fun _ => funext fun _ => by simp only [Nat.beq_refl, cond_true])))
noncomputable def ref20_Add_g (N : Nat) {R : Type} : OvG R := fun xs _ K => match xs with
  | [.d t0 a0, .d t1 a1] => if t0 = (.slice 112 tWish) ∧ t1 = tWish then ref20_Add_p N a0 a1 (fun d1 m1 => K (V.ts 112 tWish (C.elems (dk d1 0))) []) else none
  | _ => none
theorem ref20_Add_ok (N : Nat) {R : Type} : GOk (X0 gl0) 11 (ref20_Add_g N (R := R)) := by
  intro xs A Kr r hr
  unfold ref20_Add_g at hr
  split at hr
  · simp only [Option.ite_none_right_eq_some] at hr
    obtain ⟨hty, hr⟩ := hr
    obtain ⟨rfl, rfl⟩ := hty
    rw [← ref20_Add_run] at hr
    obtain ⟨v, L, h1, h2⟩ := exF_ok (ok0 gl0) (mo gl0) ((ref20_Add_ov N).ov_ok _) (extX_ok gl0) _ _ _ _ _ _ hr
    exact ⟨v, L, h1.mono (leA_none fun _ => rfl), h2⟩
  · cases hr
end Go.Proofs.Ytnjepbgenciklaa


namespace Go.Proofs.Ytnjepbgenciklaa
open Go Go.E
set_option maxRecDepth 100000
set_option maxHeartbeats 4000000
set_option linter.unusedVariables false
noncomputable def law20_ClerkLists_hs : Hints := [([0, 0, 1], ⟨[0, 2, 4], [(29, .d .bool)], [], [], [], []⟩),
    ([1, 0, 1, 1], ⟨[0, 2, 4], [], [], [], [], []⟩),
    ([4, 1, 0, 1, 1], ⟨[0, 2, 4, 31, 32], [(33, .d (.int .i64))], [], [], [], []⟩),
    ([0, 0, 1, 1, 1, 1, 1, 1], ⟨[0, 4, 9], [(99, .d .bool)], [], [], [], []⟩),
    ([1, 0, 1, 1, 1, 1, 1, 1, 1], ⟨[], [], [], [], [], []⟩),
    ([4, 1, 0, 1, 1, 1, 1, 1, 1, 1], ⟨[4, 9, 100, 101], [(102, .d (.int .i64))], [], [], [], []⟩),
    ([9], ⟨[], [(6, .d .bool)], [], [], [], []⟩)]
noncomputable def law20_ClerkLists_ov (N : Nat) : OvS (X0 gl0) where
  g R := [(4, law20_awake_g N), (5, law20_Wishes_g N), (6, clerk_Load_g N), (7, ref20_Load_g N), (8, ref20_Alike_g N), (9, law20_From_g N), (10, clerk_Add_g N), (11, ref20_Add_g N), (12, clerk_Save_g N), (13, ref20_Save_g N), (14, clerk_Wish_Twin_g N), (15, clerk_Wish_Same_g N), (16, law12_Op_g N), (17, ref20_Same_g N)]
  ok := fun R => List.forall_mem_cons.2 ⟨law20_awake_ok N, List.forall_mem_cons.2 ⟨law20_Wishes_ok N, List.forall_mem_cons.2 ⟨clerk_Load_ok N, List.forall_mem_cons.2 ⟨ref20_Load_ok N, List.forall_mem_cons.2 ⟨ref20_Alike_ok N, List.forall_mem_cons.2 ⟨law20_From_ok N, List.forall_mem_cons.2 ⟨clerk_Add_ok N, List.forall_mem_cons.2 ⟨ref20_Add_ok N, List.forall_mem_cons.2 ⟨clerk_Save_ok N, List.forall_mem_cons.2 ⟨ref20_Save_ok N, List.forall_mem_cons.2 ⟨clerk_Wish_Twin_ok N, List.forall_mem_cons.2 ⟨clerk_Wish_Same_ok N, List.forall_mem_cons.2 ⟨law12_Op_ok N, List.forall_mem_cons.2 ⟨ref20_Same_ok N, fun _ h => nomatch h⟩⟩⟩⟩⟩⟩⟩⟩⟩⟩⟩⟩⟩⟩
noncomputable def law20_ClerkLists_l1 {R : Type} (N : Nat) (k1 : KD R) (k2 : KD R) : KD R → List C → List Es → Option R := (fun k3 d7 m7 => (bif decide (C.toInt (dk d7 4) < C.toInt (dk d7 3)) then (if 0 ≤ C.toInt (dk d7 4) ∧ C.toInt (dk d7 4) < (↑(List.length (C.elems (dk d7 2))) : Int) then (law12_Op_p N (C.get (List.getD (C.elems (dk d7 2)) (Int.toNat (C.toInt (dk d7 4))) C.nil) 0) (fun d8 m8 => (clerk_Wish_Same_p N (dk d7 1) (dk d8 0) (fun d9 m9 => (ref20_Same_p N (C.get (dk d7 0) 0) (C.get (List.getD (C.elems (dk d7 2)) (Int.toNat (C.toInt (dk d7 4))) C.nil) 0) (fun d10 m10 => (bif !C.toBool (dk d9 0) == C.toBool (dk d10 0) then (k1 [C.bool false] []) else (k3 [dk d7 0, dk d7 1, dk d7 2, dk d7 3, C.int (IntKind.wrap IntKind.i64 (C.toInt (dk d7 4) + 1))] [])))))))) else none) else (k2 [] [])))
noncomputable def law20_ClerkLists_l2 {R : Type} (N : Nat) (k1 : KD R) (k2 : KD R) : KD R → List C → List Es → Option R := (fun k3 d2 m2 => (bif decide (C.toInt (dk d2 5) < C.toInt (dk d2 4)) then (if 0 ≤ C.toInt (dk d2 5) ∧ C.toInt (dk d2 5) < (↑(List.length (C.elems (dk d2 3))) : Int) then (bif decide (60 < (↑(List.length (C.elems (C.get (List.getD (C.elems (dk d2 3)) (Int.toNat (C.toInt (dk d2 5))) C.nil) 1))) : Int)) then (law20_awake_p N (fun d3 m3 => (k1 [C.bool (C.toBool (dk d3 0))] []))) else (k3 [dk d2 0, dk d2 1, dk d2 2, dk d2 3, dk d2 4, C.int (IntKind.wrap IntKind.i64 (C.toInt (dk d2 5) + 1))] [])) else none) else (k2 [dk d2 0, dk d2 1, dk d2 2] [])))
noncomputable def law20_ClerkLists_p0 {R : Type} (N : Nat) (a0 a1 a2 : C) (k1 : KD R) : Option R := (jn (fun d1 m1 => (bif C.toBool (dk d1 3) then (law20_awake_p N (fun d2 m2 => (k1 [C.bool (C.toBool (dk d2 0))] []))) else (jn (fun d2 m2 => (law20_Wishes_p N (C.slice [dk d2 2]) (fun d3 m3 => (if Int.ofNat 0 ≤ 0 ∧ 0 < (↑(List.length (C.elems (dk d3 0))) : Int) then (clerk_Load_p N (dk d2 1) (fun d4 m4 => (ref20_Load_p N (dk d2 1) (fun d5 m5 => (jn (fun d6 m6 => (bif C.toBool (dk d6 3) then (k1 [C.bool false] []) else (jn (fun d7 m7 => (law20_awake_p N (fun d8 m8 => (k1 [C.bool (C.toBool (dk d8 0))] [])))) (fun k2 => (loopK N (law20_ClerkLists_l1 N k1 k2) [dk d6 1, dk d6 2, dk d6 0, C.int (↑(List.length (C.elems (dk d6 0))) : Int), C.int 0] []))))) (fun k2 => (law20_Wishes_p N (dk d2 0) (fun d6 m6 => (clerk_Add_p N (C.slice (C.elems (dk d6 0))) (List.getD (C.elems (dk d3 0)) (Int.toNat 0) C.nil) (fun d7 m7 => (law20_From_p N (dk d7 0) (fun d8 m8 => (ref20_Add_p N (dk d2 0) (dk d2 2) (fun d9 m9 => (ref20_Alike_p N (C.slice (C.elems (dk d8 0))) (C.slice (C.elems (dk d9 0))) (fun d10 m10 => (bif !C.toBool (dk d10 0) then (k2 [dk d2 0, dk d2 2, List.getD (C.elems (dk d3 0)) (Int.toNat 0) C.nil, C.bool true] []) else (law20_Wishes_p N (dk d2 0) (fun d11 m11 => (clerk_Save_p N (C.slice (C.elems (dk d11 0))) (fun d12 m12 => (ref20_Save_p N (dk d2 0) (fun d13 m13 => (bif !List.map (fun c => UInt8.ofNat (Int.toNat (C.toInt c))) (C.elems (dk d12 0)) == List.map (fun c => UInt8.ofNat (Int.toNat (C.toInt c))) (C.elems (dk d13 0)) then (k2 [dk d2 0, dk d2 2, List.getD (C.elems (dk d3 0)) (Int.toNat 0) C.nil, C.bool true] []) else (bif !decide (C.toInt (dk d4 1) = C.toInt (dk d5 1)) then (k2 [dk d2 0, dk d2 2, List.getD (C.elems (dk d3 0)) (Int.toNat 0) C.nil, C.bool true] []) else (law20_From_p N (C.slice (C.elems (dk d4 0))) (fun d14 m14 => (ref20_Alike_p N (C.slice (C.elems (dk d14 0))) (C.slice (C.elems (dk d5 0))) (fun d15 m15 => (bif !C.toBool (dk d15 0) then (k2 [dk d2 0, dk d2 2, List.getD (C.elems (dk d3 0)) (Int.toNat 0) C.nil, C.bool true] []) else (clerk_Wish_Twin_p N (List.getD (C.elems (dk d3 0)) (Int.toNat 0) C.nil) (fun d16 m16 => (law20_From_p N (C.slice [dk d16 0]) (fun d17 m17 => (ref20_Alike_p N (C.slice (C.elems (dk d17 0))) (C.slice [dk d2 2]) (fun d18 m18 => (k2 [dk d2 0, dk d2 2, List.getD (C.elems (dk d3 0)) (Int.toNat 0) C.nil, C.bool !C.toBool (dk d18 0)] []))))))))))))))))))))))))))))))))))))) else none)))) (fun k2 => (loopK N (law20_ClerkLists_l2 N k1 k2) [dk d1 0, dk d1 1, dk d1 2, dk d1 0, C.int (↑(List.length (C.elems (dk d1 0))) : Int), C.int 0] []))))) (fun k2 => (bif decide (300 < (↑(List.length (C.elems a0)) : Int)) then (k2 [a0, a2, a1, C.bool true] []) else (bif decide (20000 < (↑(List.length (C.elems a2)) : Int)) then (k2 [a0, a2, a1, C.bool true] []) else (k2 [a0, a2, a1, C.bool (decide (60 < (↑(List.length (C.elems (C.get a1 1))) : Int)))] [])))))
noncomputable def law20_ClerkLists_p {R : Type} (N : Nat) : C → C → C → KD R → Option R := lid "law20_ClerkLists_p N" (law20_ClerkLists_p0 N)
theorem law20_ClerkLists_pe {R : Type} (N : Nat) (a0 a1 a2 : C) (k : KD R) : law20_ClerkLists_p N a0 a1 a2 k = law20_ClerkLists_p0 N a0 a1 a2 k := by unfold law20_ClerkLists_p; rw [lid_eq]
theorem law20_ClerkLists_run {R : Type} (N : Nat) (a0 a1 a2 : C) (K : V → List (Key × O) → Option R) : exF (X0 gl0) ((law20_ClerkLists_ov N).ov R) extX (fun f r => bif Nat.beq f 3 then (bif Nat.beq r 0 then [(4, 5)] else bif Nat.beq r 12 then [(61, 7), (66, 7), (74, 7), (87, 7), (92, 7), (97, 7), (9, 6)] else bif Nat.beq r 17 then [(109, 7), (110, 7), (115, 7), (9, 6), (15, 6)] else []) else []) (fun f => bif Nat.beq f 3 then law20_ClerkLists_hs else []) N 400 8 3 [.d (.slice 112 tWish) a0, .d tWish a1, .d (.slice 1 (.int .u8)) a2] A0 K =
    law20_ClerkLists_p N a0 a1 a2 (fun d1 m1 => K (V.d Ty.bool (C.bool (C.toBool (dk d1 0)))) []) := by
  rw [law20_ClerkLists_pe]
  exact (show _ = jn (fun d1 m1 => (K (V.d Ty.bool (C.bool (C.toBool (dk d1 0)))) [])) (law20_ClerkLists_p0 N a0 a1 a2) by kernel_rfl).trans (jn_eq _ _)
noncomputable def law20_ClerkLists_g (N : Nat) {R : Type} : OvG R := fun xs _ K => match xs with
  | [.d t0 a0, .d t1 a1, .d t2 a2] => if t0 = (.slice 112 tWish) ∧ t1 = tWish ∧ t2 = (.slice 1 (.int .u8)) then law20_ClerkLists_p N a0 a1 a2 (fun d1 m1 => K (V.d Ty.bool (C.bool (C.toBool (dk d1 0)))) []) else none
  | _ => none
theorem law20_ClerkLists_ok (N : Nat) {R : Type} : GOk (X0 gl0) 3 (law20_ClerkLists_g N (R := R)) := by
  intro xs A Kr r hr
  unfold law20_ClerkLists_g at hr
  split at hr
  · simp only [Option.ite_none_right_eq_some] at hr
    obtain ⟨hty, hr⟩ := hr
    obtain ⟨rfl, rfl, rfl⟩ := hty
    rw [← law20_ClerkLists_run] at hr
    obtain ⟨v, L, h1, h2⟩ := exF_ok (ok0 gl0) (mo gl0) ((law20_ClerkLists_ov N).ov_ok _) (extX_ok gl0) _ _ _ _ _ _ hr
    exact ⟨v, L, h1.mono (leA_none fun _ => rfl), h2⟩
  · cases hr
end Go.Proofs.Ytnjepbgenciklaa


namespace Go.Proofs.Ytnjepbgenciklaa
open Go Go.E
set_option maxRecDepth 100000
set_option maxHeartbeats 4000000
set_option linter.unusedSimpArgs false
variable {R : Type} {N : Nat}
def EtaH (h : C) : Prop := h = .agg [h.get 0, h.get 1, h.get 2]
def EtaC (c : C) : Prop := c = .agg [c.get 0, c.get 1, c.get 2, c.get 3, c.get 4]
def EtaO (o : C) : Prop := o = .agg [o.get 0, o.get 1, o.get 2, o.get 3] ∧ EtaC (o.get 2)
structure WishE (w : C) : Prop where
  eta : w = .agg [w.get 0, .slice (w.get 1).elems]
  op : EtaO (w.get 0)
  hops : ∀ h ∈ (w.get 1).elems, EtaH h
  len : (w.get 1).elems.length ≤ 60
theorem law10_To_id (c : C) (h : EtaC c) (k : KD R) : law10_To_p N c k = k [c] [] := by
  rw [law10_To_pe]
  unfold law10_To_p0
  simp only [set_agg_0, set_agg_1, set_agg_2, set_agg_3, set_agg_4]
  rw [← h]
theorem law10_From_id (c : C) (h : EtaC c) (k : KD R) : law10_From_p N c k = k [c] [] := by
  rw [law10_From_pe]
  unfold law10_From_p0
  simp only [set_agg_0, set_agg_1, set_agg_2, set_agg_3, set_agg_4]
  rw [← h]
theorem law12_Op_id (o : C) (h : EtaO o) (k : KD R) : law12_Op_p N o k = k [o] [] := by
  rw [law12_Op_pe]
  unfold law12_Op_p0
  rw [law10_To_id _ h.2]
  simp only [dk_0, set_agg_0, set_agg_1, set_agg_2, set_agg_3]
  rw [← h.1]
def zBlocks : C := .agg (List.replicate 32 (.agg (List.replicate 16 (.int 0))))
def zSig4 : C := .agg [zBlocks, zBlocks]
theorem set_get_id (l : List C) (i : Nat) : C.set (.agg l) i (C.get (.agg l) i) = .agg l := by
  show C.agg (l.set i (l.getD i .nil)) = .agg l
  congr 1
  apply List.ext_getElem?
  intro j
  rw [List.getElem?_set]
  split
  · rename_i e
    subst e
    split
    · rename_i h; rw [List.getD_eq_getElem?_getD, List.getElem?_eq_getElem h]; rfl
    · rename_i h; rw [List.getElem?_eq_none (by omega)]
  · rfl
theorem law04_To_z (hN : 100 < N) (k : KD R) : law04_To_p N zSig4 k = k [zSig4] [] := by
  rw [law04_To_pe]
  unfold law04_To_p0
  rw [jn_eq]
  refine loopK_count (F := law04_To_l1 N fun d1 m1 => k [dk d1 1] []) (fun i => [zSig4, .int i, zSig4, zSig4]) (fun _ => []) 32 (k [zSig4] []) ?_ ?_ (N := N) (by omega)
  · intro i hi rec
    have h1 : (i : Int) < 32 := by omega
    have g0 : C.get zSig4 0 = zBlocks := rfl
    have s0 : C.set zSig4 0 zBlocks = zSig4 := rfl
    have s1 : C.set zSig4 1 zBlocks = zSig4 := rfl
    have g1 : C.get zSig4 1 = zBlocks := rfl
    have e0 : C.set zBlocks i (C.get zBlocks i) = zBlocks := set_get_id _ i
    unfold law04_To_l1
    simp only [dk_0, dk_1, dk_2, dk_3, c_int, h1, decide_true, cond_true, Int.natCast_nonneg, and_self, if_true, Int.toNat_natCast, g0, g1, e0, s0, s1, wrap_succ (show i < 4611686018427387904 by omega)]
  · intro rec
    unfold law04_To_l1
    have h : ¬ ((32 : Nat) : Int) < 32 := by decide
    simp only [dk_0, dk_1, dk_2, dk_3, c_int, h, decide_false, cond_false]
theorem law04_From_z (hN : 100 < N) (k : KD R) : law04_From_p N zSig4 k = k [zSig4] [] := by
  rw [law04_From_pe]
  unfold law04_From_p0
  rw [jn_eq]
  refine loopK_count (F := law04_From_l1 N fun d1 m1 => k [dk d1 1] []) (fun i => [zSig4, .int i, zSig4, zSig4]) (fun _ => []) 32 (k [zSig4] []) ?_ ?_ (N := N) (by omega)
  · intro i hi rec
    have h1 : (i : Int) < 32 := by omega
    have g0 : C.get zSig4 0 = zBlocks := rfl
    have s0 : C.set zSig4 0 zBlocks = zSig4 := rfl
    have s1 : C.set zSig4 1 zBlocks = zSig4 := rfl
    have g1 : C.get zSig4 1 = zBlocks := rfl
    have e0 : C.set zBlocks i (C.get zBlocks i) = zBlocks := set_get_id _ i
    unfold law04_From_l1
    simp only [dk_0, dk_1, dk_2, dk_3, c_int, h1, decide_true, cond_true, Int.natCast_nonneg, and_self, if_true, Int.toNat_natCast, g0, g1, e0, s0, s1, wrap_succ (show i < 4611686018427387904 by omega)]
  · intro rec
    unfold law04_From_l1
    have h : ¬ ((32 : Nat) : Int) < 32 := by decide
    simp only [dk_0, dk_1, dk_2, dk_3, c_int, h, decide_false, cond_false]
def zSig5 : C := .agg [zSig4, .int 0, .slice []]
theorem law05_To_z (hN : 100 < N) (k : KD R) : law05_To_p N zSig5 k = k [zSig5] [] := by
  obtain ⟨n, rfl⟩ : ∃ n, N = n + 1 := ⟨N - 1, by omega⟩
  rw [law05_To_pe]
  unfold law05_To_p0
  rw [show C.get zSig5 0 = zSig4 from rfl, law04_To_z hN, jn_eq, loopK_succ]
  unfold law05_To_l1
  simp [zSig5, go_sem, c_int, c_slice]
theorem law05_From_z (hN : 100 < N) (k : KD R) : law05_From_p N zSig5 k = k [zSig5] [] := by
  obtain ⟨n, rfl⟩ : ∃ n, N = n + 1 := ⟨N - 1, by omega⟩
  rw [law05_From_pe]
  unfold law05_From_p0
  rw [show C.get zSig5 0 = zSig4 from rfl, law04_From_z hN, jn_eq, loopK_succ]
  unfold law05_From_l1
  simp [zSig5, go_sem, c_int, c_slice]
theorem zOp_eta : EtaO zOp := ⟨rfl, rfl⟩
theorem law18_To_id (op : C) (l : List C) (ho : EtaO op) (h : ∀ c ∈ l, EtaH c) (hl : l.length ≤ 1000) (hN : 2000 < N) (k : KD R) :
    ∃ m : C, m.get 4 = .slice l ∧ law18_To_p N (.agg [.int 0, .int 0, .int 0, op, .slice l, zSig5]) k = k [m] [] := by
  refine ⟨.agg [.int 0, .int 0, .int 0, op, .slice l, zSig5], rfl, ?_⟩
  rw [law18_To_pe]
  unfold law18_To_p0
  simp only [get_agg_0, get_agg_1, get_agg_2, get_agg_3, get_agg_4, get_agg_5, law12_Op_id op ho, law05_To_z (show 100 < N by omega), dk_0, jn_eq, c_slice]
  generalize (C.agg [zeroC (Ty.int IntKind.i64), zeroC (Ty.int IntKind.u32), zeroC (Ty.int IntKind.u64), _, _, _]) = Z
  have key := loopK_count (F := law18_To_l1 N fun d3 m3 => k [C.agg [dk d3 0, dk d3 1, dk d3 2, dk d3 3, C.slice (C.elems (dk d3 4)), dk d3 5]] []) (fun i => [.slice l, .int l.length, .int i, .int 0, .int 0, .int 0, op, .slice (l.take i), zSig5, Z]) (fun _ => []) l.length (k [.agg [.int 0, .int 0, .int 0, op, .slice l, zSig5]] []) ?_ ?_ (N := N) (by omega)
  · simpa using key
  · intro i hi rec
    have h1 : (i : Int) < (l.length : Int) := by omega
    have h2 := h _ (getD_mem hi)
    have h3 : (l.take i).length ≤ 1000 := by simp; omega
    unfold law18_To_l1
    simp only [dk_0, dk_1, dk_2, dk_3, dk_4, dk_5, dk_6, dk_7, dk_8, dk_9, c_int, c_slice, h1, decide_true, cond_true, Int.natCast_nonneg, and_self, if_true, Nat.beq_refl, Int.toNat_natCast, set_agg_0, set_agg_1, set_agg_2, List.length_append, List.length_cons, List.length_nil, Nat.zero_add, wrap_succ (show i < 4611686018427387904 by omega)]
    rw [if_pos (by omega), ← h2, take_getD hi]
  · intro rec
    unfold law18_To_l1
    simp only [dk_0, dk_1, dk_2, dk_3, dk_4, dk_5, dk_6, dk_7, dk_8, dk_9, c_int, c_slice, Int.lt_irrefl, decide_false, cond_false, List.take_length]
theorem law18_From_id (op : C) (l : List C) (ho : EtaO op) (h : ∀ c ∈ l, EtaH c) (hl : l.length ≤ 1000) (hN : 2000 < N) (k : KD R) :
    ∃ m : C, m.get 3 = op ∧ m.get 4 = .slice l ∧ law18_From_p N (.agg [.int 0, .int 0, .int 0, op, .slice l, zSig5]) k = k [m] [] := by
  refine ⟨.agg [.int 0, .int 0, .int 0, op, .slice l, zSig5], rfl, rfl, ?_⟩
  rw [law18_From_pe]
  unfold law18_From_p0
  simp only [get_agg_0, get_agg_1, get_agg_2, get_agg_3, get_agg_4, get_agg_5, law10_From_id _ ho.2, law05_From_z (show 100 < N by omega), dk_0, jn_eq, c_slice, set_agg_0, set_agg_1, set_agg_2, set_agg_3]
  rw [← ho.1]
  generalize (C.agg [zeroC (Ty.int IntKind.i64), zeroC (Ty.int IntKind.u32), zeroC (Ty.int IntKind.u64), _, _, _]) = Z
  have key := loopK_count (F := law18_From_l1 N fun d3 m3 => k [C.agg [dk d3 0, dk d3 1, dk d3 2, dk d3 3, C.slice (C.elems (dk d3 4)), dk d3 5]] []) (fun i => [.slice l, .int l.length, .int i, .int 0, .int 0, .int 0, op, .slice (l.take i), zSig5, Z]) (fun _ => []) l.length (k [.agg [.int 0, .int 0, .int 0, op, .slice l, zSig5]] []) ?_ ?_ (N := N) (by omega)
  · simpa using key
  · intro i hi rec
    have h1 : (i : Int) < (l.length : Int) := by omega
    have h2 := h _ (getD_mem hi)
    have h3 : (l.take i).length ≤ 1000 := by simp; omega
    unfold law18_From_l1
    simp only [dk_0, dk_1, dk_2, dk_3, dk_4, dk_5, dk_6, dk_7, dk_8, dk_9, c_int, c_slice, h1, decide_true, cond_true, Int.natCast_nonneg, and_self, if_true, Nat.beq_refl, Int.toNat_natCast, set_agg_0, set_agg_1, set_agg_2, List.length_append, List.length_cons, List.length_nil, Nat.zero_add, wrap_succ (show i < 4611686018427387904 by omega)]
    rw [if_pos (by omega), ← h2, take_getD hi]
  · intro rec
    unfold law18_From_l1
    simp only [dk_0, dk_1, dk_2, dk_3, dk_4, dk_5, dk_6, dk_7, dk_8, dk_9, c_int, c_slice, Int.lt_irrefl, decide_false, cond_false, List.take_length]
theorem Wishes_id (l : List C) (h : ∀ w ∈ l, WishE w) (ht : ∀ w ∈ l, w.get 1 = .slice (w.get 1).elems) (hl : l.length ≤ 1000) (hN : 2000 < N) (k : KD R) : law20_Wishes_p N (.slice l) k = k [.slice l] [] := by
  rw [law20_Wishes_pe]
  unfold law20_Wishes_p0
  simp only [jn_eq, c_slice]
  have key := loopK_count (F := law20_Wishes_l1 N fun d1 m1 => bif Nat.beq (List.length (C.elems (dk d1 0))) (List.length (C.elems (dk d1 0))) then k [.slice (C.elems (dk d1 0))] [] else none) (fun i => [.slice l, .int l.length, .slice (l.take i), .int i]) (fun _ => []) l.length (k [.slice l] []) ?_ ?_ (N := N) (by omega)
  · simpa using key
  · intro i hi rec
    have h1 : (i : Int) < (l.length : Int) := by omega
    have h2 := h _ (getD_mem hi)
    have ht2 := ht _ (getD_mem hi)
    have h3 : (l.take i).length ≤ 1000 := by simp; omega
    unfold law20_Wishes_l1
    simp only [dk_0, dk_1, dk_2, dk_3, c_int, c_slice, h1, decide_true, cond_true, Int.natCast_nonneg, and_self, if_true, Nat.beq_refl, Int.toNat_natCast, law12_Op_id _ h2.op]
    rw [take_getD hi]
    generalize l.getD i .nil = w at *
    obtain ⟨m, m1, m2⟩ := law18_To_id (R := R) (N := N) zOp (w.get 1).elems zOp_eta h2.hops (by have := h2.len; omega) hN fun d3 m3 =>
      if (List.length (l.take i) + 1) * 112 ≤ 140737488355328 ∧ List.length (l.take i) + 1 ≤ 9223372036854775807 then
              (bif Nat.beq (List.length (l.take i) + 1) (List.length (l.take i ++ [C.agg [w.get 0, C.get (dk d3 0) 4]])) then
                (rec [.slice l, .int l.length, C.slice (l.take i ++ [C.agg [w.get 0, C.get (dk d3 0) 4]]), C.int (IntKind.wrap IntKind.i64 ((i : Int) + 1))] [])
              else
                none)
            else
              none
    rw [ht2]
    refine Eq.trans m2 ?_
    simp only [dk_0, m1, List.length_append, List.length_cons, List.length_nil, Nat.zero_add, Nat.beq_refl, cond_true, wrap_succ (show i < 4611686018427387904 by omega)]
    rw [if_pos (by omega), ← h2.eta]
  · intro rec
    unfold law20_Wishes_l1
    simp only [dk_0, dk_1, dk_2, dk_3, c_int, c_slice, Int.lt_irrefl, decide_false, cond_false, List.take_length, Nat.beq_refl, cond_true]
theorem From_id (l : List C) (h : ∀ w ∈ l, WishE w) (ht : ∀ w ∈ l, w.get 1 = .slice (w.get 1).elems) (hl : l.length ≤ 1000) (hN : 2000 < N) (k : KD R) : law20_From_p N (.slice l) k = k [.slice l] [] := by
  rw [law20_From_pe]
  unfold law20_From_p0
  simp only [jn_eq, c_slice]
  have key := loopK_count (F := law20_From_l1 N fun d1 m1 => bif Nat.beq (List.length (C.elems (dk d1 0))) (List.length (C.elems (dk d1 0))) then k [.slice (C.elems (dk d1 0))] [] else none) (fun i => [.slice l, .int l.length, .slice (l.take i), .int i]) (fun _ => []) l.length (k [.slice l] []) ?_ ?_ (N := N) (by omega)
  · simpa using key
  · intro i hi rec
    have h1 : (i : Int) < (l.length : Int) := by omega
    have h2 := h _ (getD_mem hi)
    have ht2 := ht _ (getD_mem hi)
    have h3 : (l.take i).length ≤ 1000 := by simp; omega
    unfold law20_From_l1
    simp only [dk_0, dk_1, dk_2, dk_3, c_int, c_slice, h1, decide_true, cond_true, Int.natCast_nonneg, and_self, if_true, Nat.beq_refl, Int.toNat_natCast]
    rw [take_getD hi]
    generalize l.getD i .nil = w at *
    obtain ⟨m, m0, m1, m2⟩ := law18_From_id (R := R) (N := N) (w.get 0) (w.get 1).elems h2.op h2.hops (by have := h2.len; omega) hN fun d2 m2 =>
          (if (List.length (l.take i) + 1) * 112 ≤ 140737488355328 ∧ List.length (l.take i) + 1 ≤ 9223372036854775807 then
            (bif Nat.beq (List.length (l.take i) + 1) (List.length (l.take i ++ [C.agg [C.get (dk d2 0) 3, C.get (dk d2 0) 4]])) then
              (rec [.slice l, .int l.length, C.slice (l.take i ++ [C.agg [C.get (dk d2 0) 3, C.get (dk d2 0) 4]]), C.int (IntKind.wrap IntKind.i64 ((i : Int) + 1))] [])
            else
              none)
          else
            none)
    rw [ht2]
    refine Eq.trans m2 ?_
    simp only [dk_0, m0, m1, List.length_append, List.length_cons, List.length_nil, Nat.zero_add, Nat.beq_refl, cond_true, wrap_succ (show i < 4611686018427387904 by omega)]
    rw [if_pos (by omega), ← h2.eta]
  · intro rec
    unfold law20_From_l1
    simp only [dk_0, dk_1, dk_2, dk_3, c_int, c_slice, Int.lt_irrefl, decide_false, cond_false, List.take_length, Nat.beq_refl, cond_true]
theorem Alike_refl (l : List C) (h : ∀ w ∈ l, (w.get 1).elems.length ≤ 1000) (hl : l.length ≤ 1000) (hN : 2000 < N) (k : KD R) : ref20_Alike_p N (.slice l) (.slice l) k = k [.bool true] [] := by
  rw [ref20_Alike_pe]
  unfold ref20_Alike_p0
  simp only [jn_eq, c_slice, decide_true, Bool.not_true, cond_false]
  refine loopK_count (F := ref20_Alike_l2 N k fun d1 m1 => k [.bool true] []) (fun i => [.slice l, .slice l, .int i]) (fun _ => []) l.length (k [.bool true] []) ?_ ?_ (N := N) (by omega)
  · intro i hi rec
    have h1 : (i : Int) < (l.length : Int) := by omega
    have h2 := h _ (getD_mem hi)
    unfold ref20_Alike_l2
    simp only [jn_eq, dk_0, dk_1, dk_2, dk_3, c_int, c_slice, c_bool, h1, decide_true, cond_true, Int.natCast_nonneg, and_self, if_true, Int.toNat_natCast, beqC_refl, Bool.not_true, cond_false]
    refine loopK_count (F := ref20_Alike_l1 N k fun d3 m3 => rec [dk d3 0, dk d3 1, C.int (IntKind.wrap IntKind.i64 (C.toInt (dk d3 2) + 1))] []) (fun j => [.slice l, .slice l, .int i, .int j]) (fun _ => []) ((l.getD i .nil).get 1).elems.length _ ?_ ?_ (N := N) (by omega)
    · intro j hj rec2
      have h3 : (j : Int) < (((l.getD i .nil).get 1).elems.length : Int) := by omega
      unfold ref20_Alike_l1
      simp only [dk_0, dk_1, dk_2, dk_3, c_int, c_slice, h1, h3, decide_true, cond_true, Int.natCast_nonneg, and_self, if_true, Int.toNat_natCast, beqC_refl, Bool.not_true, cond_false, wrap_succ (show j < 4611686018427387904 by omega)]
    · intro rec2
      unfold ref20_Alike_l1
      simp only [dk_0, dk_1, dk_2, dk_3, c_int, c_slice, h1, Int.natCast_nonneg, and_self, if_true, Int.toNat_natCast, Int.lt_irrefl, decide_false, cond_false, wrap_succ (show i < 4611686018427387904 by omega)]
  · intro rec
    unfold ref20_Alike_l2
    simp only [dk_0, dk_1, dk_2, dk_3, c_int, c_slice, Int.lt_irrefl, decide_false, cond_false]
def k34 (o : C) : Bool := decide ((o.get 0).toInt = 3 ∨ (o.get 0).toInt = 4)
def sameB (a b : C) : Bool := if k34 a = true ∧ k34 b = true then decide ((a.get 3).toInt = (b.get 3).toInt) else C.beq a b
theorem rSame_eq (a b : C) (k : KD R) : ref20_Same_p N a b k = k [.bool (sameB a b)] [] := by
  rw [ref20_Same_pe]
  unfold ref20_Same_p0 sameB k34
  simp only [jn_eq, dk_0, dk_1, dk_2, c_bool]
  by_cases a3 : (a.get 0).toInt = 3
  · by_cases b3 : (b.get 0).toInt = 3
    · simp [a3, b3, c_bool, dk_2] <;> rfl
    · by_cases b4 : (b.get 0).toInt = 4 <;> simp [a3, b3, b4, c_bool, dk_2] <;> rfl
  · by_cases a4 : (a.get 0).toInt = 4
    · by_cases b3 : (b.get 0).toInt = 3
      · simp [a4, b3, c_bool, dk_2] <;> rfl
      · by_cases b4 : (b.get 0).toInt = 4 <;> simp [a4, b3, b4, c_bool, dk_2] <;> rfl
    · simp [a3, a4, c_bool, dk_2] <;> rfl
theorem Same_aux (w b a : C) (ha : w.get 0 = a) (k : KD R) : clerk_Wish_Same_p N w b k = k [.bool (sameB a b)] [] := by
  rw [clerk_Wish_Same_pe]
  unfold clerk_Wish_Same_p0 sameB k34
  simp only [jn_eq, dk_0, dk_1, dk_2, c_bool, ha]
  have hne : (a.get 0).toInt ≠ (b.get 0).toInt → C.beq a b = false := fun h => by
    rw [beqC_dec]; simp only [decide_eq_false_iff_not]; intro e; subst e; exact h rfl
  have sym : decide ((b.get 3).toInt = (a.get 3).toInt) = decide ((a.get 3).toInt = (b.get 3).toInt) := by simp only [eq_comm]
  by_cases a3 : (a.get 0).toInt = 3
  · by_cases b3 : (b.get 0).toInt = 3
    · simp [a3, b3, c_bool, dk_2, sym] <;> rfl
    · by_cases b4 : (b.get 0).toInt = 4
      · simp [a3, b3, b4, c_bool, dk_2, sym] <;> rfl
      · simp [a3, b3, b4, c_bool, dk_2, hne (by rw [a3]; exact fun e => b3 e.symm)] <;> rfl
  · by_cases a4 : (a.get 0).toInt = 4
    · by_cases b3 : (b.get 0).toInt = 3
      · simp [a3, a4, b3, c_bool, dk_2, sym] <;> rfl
      · by_cases b4 : (b.get 0).toInt = 4
        · simp [a3, a4, b3, b4, c_bool, dk_2, sym] <;> rfl
        · simp [a3, a4, b3, b4, c_bool, dk_2, hne (by rw [a4]; exact fun e => b4 e.symm)] <;> rfl
    · simp [a3, a4, c_bool, dk_2] <;> rfl
theorem Same_eq (w b : C) (k : KD R) : clerk_Wish_Same_p N w b k = k [.bool (sameB (w.get 0) b)] [] := Same_aux w b _ rfl k
def addW (l : List C) (w : C) : List C := if l.any (fun x => sameB (x.get 0) (w.get 0)) = true then l else l ++ [w]
theorem runE_any (p : C → Bool) : ∀ (l : List C) (i : Nat), (l.any p = true → ∃ j : Nat, runE (fun i (_ : Unit) c => if p c = true then .inr i else .inl ()) i () l = (.inr j : Unit ⊕ Nat)) ∧ (l.any p = false → runE (fun i (_ : Unit) c => if p c = true then .inr i else .inl ()) i () l = (.inl () : Unit ⊕ Nat))
  | [], i => ⟨fun h => by simp at h, fun _ => rfl⟩
  | c :: l, i => by
    have ih := runE_any p l (i + 1)
    simp only [runE]
    by_cases h : p c = true
    · rw [if_pos h]
      exact ⟨fun _ => ⟨i, rfl⟩, fun h2 => by simp [h] at h2⟩
    · rw [if_neg h]
      refine ⟨fun h2 => ?_, fun h2 => ?_⟩
      · exact ih.1 (by simpa [h] using h2)
      · exact ih.2 (by simpa [h] using h2)
theorem Add_eq (l : List C) (w : C) (he : w = .agg [w.get 0, .slice (w.get 1).elems]) (hl : l.length ≤ 1000) (hN : 2000 < N) (k : KD R) : clerk_Add_p N (.slice l) w k = k [.slice (addW l w)] [] := by
  rw [clerk_Add_pe]
  unfold clerk_Add_p0
  have tw : ∀ k : KD R, clerk_Wish_Twin_p N w k = k [w] [] := fun k => by
    rw [clerk_Wish_Twin_pe]
    unfold clerk_Wish_Twin_p0
    rw [Nat.beq_refl, cond_true, ← he]
  simp only [jn_eq, tw, dk_0, c_slice, Nat.beq_refl, cond_true]
  have key := loopK_run0 (R := R) (α := C) (σ := Unit) (ε := Nat)
    (F := clerk_Add_l1 N (fun d1 m1 => bif (C.bool (decide (0 ≤ C.toInt (dk d1 0)))).toBool then k [.slice l] [] else if (l.length + 1) * 112 ≤ 140737488355328 ∧ l.length + 1 ≤ 9223372036854775807 then k [.slice (l ++ [w])] [] else none) (fun d1 m1 => bif (C.bool (decide (0 ≤ C.toInt (C.int (-1))))).toBool then k [.slice l] [] else if (l.length + 1) * 112 ≤ 140737488355328 ∧ l.length + 1 ≤ 9223372036854775807 then k [.slice (l ++ [w])] [] else none))
    (fun i _ => [.slice l, w, .int l.length, .int i]) (fun _ _ => []) l (fun i _ c => if sameB (c.get 0) (w.get 0) = true then .inr i else .inl ()) (fun _ => k [.slice (l ++ [w])] []) (fun _ => k [.slice l] []) (s0 := ()) (N := N) ?_ ?_ (by omega)
  · refine Eq.trans key ?_
    have h := runE_any (fun x => sameB (x.get 0) (w.get 0)) l 0
    unfold addW
    cases ha : l.any (fun x => sameB (x.get 0) (w.get 0)) with
    | true =>
      obtain ⟨j, hj⟩ := h.1 ha
      rw [hj]; rfl
    | false =>
      rw [h.2 ha]; rfl
  · intro i s c hc hi rec
    have h1 : (i : Int) < (l.length : Int) := by omega
    unfold clerk_Add_l1
    simp only [jn_eq, dk_0, dk_1, dk_2, dk_3, c_int, c_bool, c_slice, h1, decide_true, cond_true, Int.natCast_nonneg, and_self, if_true, Int.toNat_natCast, Same_eq, getD_of hc, wrap_succ (show i < 4611686018427387904 by omega)]
    cases hs : sameB (c.get 0) (w.get 0) <;> simp
  · intro s rec
    unfold clerk_Add_l1
    simp only [dk_0, dk_1, dk_2, dk_3, c_int, c_slice, c_bool, Int.lt_irrefl, decide_false, cond_false]
    exact if_pos (by omega)
theorem rAdd_eq (l : List C) (w : C) (hl : l.length ≤ 1000) (hN : 2000 < N) (k : KD R) : ref20_Add_p N (.slice l) w k = k [.slice (addW l w)] [] := by
  rw [ref20_Add_pe]
  unfold ref20_Add_p0
  simp only [jn_eq, c_slice, Nat.beq_refl, cond_true, List.length_append, List.length_cons, List.length_nil, Nat.zero_add]
  have key := loopK_run0 (R := R) (α := C) (σ := Unit) (ε := Nat)
    (F := ref20_Add_l1 N k fun d1 m1 => if (List.length (C.elems (dk d1 1)) + 1) * 112 ≤ 140737488355328 ∧ List.length (C.elems (dk d1 1)) + 1 ≤ 9223372036854775807 then k [C.slice (C.elems (dk d1 1) ++ [dk d1 0])] [] else none)
    (fun i _ => [.slice l, w, .slice l, .int i]) (fun _ _ => []) l (fun i _ c => if sameB (c.get 0) (w.get 0) = true then .inr i else .inl ()) (fun _ => k [.slice (l ++ [w])] []) (fun _ => k [.slice l] []) (s0 := ()) (N := N) ?_ ?_ (by omega)
  · refine Eq.trans key ?_
    have h := runE_any (fun x => sameB (x.get 0) (w.get 0)) l 0
    unfold addW
    cases ha : l.any (fun x => sameB (x.get 0) (w.get 0)) with
    | true =>
      obtain ⟨j, hj⟩ := h.1 ha
      rw [hj]; rfl
    | false =>
      rw [h.2 ha]; rfl
  · intro i s c hc hi rec
    have h1 : (i : Int) < (l.length : Int) := by omega
    unfold ref20_Add_l1
    simp only [jn_eq, dk_0, dk_1, dk_2, dk_3, c_int, c_bool, c_slice, h1, decide_true, cond_true, Int.natCast_nonneg, and_self, if_true, Int.toNat_natCast, rSame_eq, getD_of hc, wrap_succ (show i < 4611686018427387904 by omega), Nat.beq_refl]
    cases hs : sameB (c.get 0) (w.get 0) <;> simp
  · intro s rec
    unfold ref20_Add_l1
    simp only [dk_0, dk_1, dk_2, dk_3, c_int, c_slice, c_bool, Int.lt_irrefl, decide_false, cond_false, Nat.beq_refl, cond_true]
    refine if_pos ?_
    omega
end Go.Proofs.Ytnjepbgenciklaa


namespace Go.Proofs.Ytnjepbgenciklaa
open Go Go.E
set_option maxRecDepth 100000
set_option maxHeartbeats 4000000
set_option linter.unusedSimpArgs false
variable {R : Type} {N : Nat}
theorem W64_of {c : C} (h : C.wf (.int .u64) c) : W64 c.toInt := by
  simp only [C.wf] at h
  have m1 : IntKind.u64.min = 0 := by decide
  have m2 : IntKind.u64.max = 18446744073709551615 := by decide
  exact ⟨by omega, by omega⟩
theorem W64_of32 {c : C} (h : C.wf (.int .u32) c) : W64 c.toInt := by
  simp only [C.wf] at h
  have m1 : IntKind.u32.min = 0 := by decide
  have m2 : IntKind.u32.max = 4294967295 := by decide
  exact ⟨by omega, by omega⟩
theorem opW_of {o : C} (h : C.wf tOp o) : OpW o := by
  have c := C.wf_field (i := 2) (f := tCond) h rfl
  have g := C.wf_field (i := 3) (f := .arr 32 (.int .u8)) c rfl
  simp only [C.wf] at g
  exact ⟨W64_of (C.wf_field (i := 1) h rfl), ⟨W64_of (C.wf_field (i := 0) c rfl), W64_of (C.wf_field (i := 2) c rfl), g.2.1, W64_of (C.wf_field (i := 4) c rfl)⟩, W64_of (C.wf_field (i := 3) h rfl)⟩
theorem opE_of {o : C} (h : C.wf tOp o) : EtaO o := by
  have c := C.wf_field (i := 2) (f := tCond) h rfl
  exact ⟨(C.wf_eta h).symm, (C.wf_eta c).symm⟩
theorem hopW_of {h : C} (w : C.wf tHop h) : HopW h :=
  ⟨W64_of32 (C.wf_field (i := 0) w rfl), W64_of (C.wf_field (i := 1) w rfl), W64_of (C.wf_field (i := 2) w rfl)⟩
theorem trail_wf {w : C} (h : C.wf tWish w) : w.get 1 = .slice (w.get 1).elems ∧ ∀ x ∈ (w.get 1).elems, C.wf tHop x := by
  have t := C.wf_field (i := 1) (f := .slice 24 tHop) h rfl
  simp only [C.wf] at t
  exact ⟨t.1, t.2.2.2⟩
theorem wishW_of {w : C} (h : C.wf tWish w) (hl : (w.get 1).elems.length ≤ 60) : WishW w := by
  obtain ⟨t1, t2⟩ := trail_wf h
  exact ⟨opW_of (C.wf_field (i := 0) h rfl), t1, fun x hx => hopW_of (t2 x hx), hl⟩
theorem wishE_of {w : C} (h : C.wf tWish w) (hl : (w.get 1).elems.length ≤ 60) : WishE w := by
  obtain ⟨t1, t2⟩ := trail_wf h
  have e : w = .agg [w.get 0, w.get 1] := (C.wf_eta h).symm
  refine ⟨by rw [← t1]; exact e, opE_of (C.wf_field (i := 0) h rfl), fun x hx => (C.wf_eta (t2 x hx)).symm, hl⟩
theorem iter_inv {α : Type} {f : α → α} {P : α → Prop} (hf : ∀ x, P x → P (f x)) : ∀ (n : Nat) (x : α), P x → P (iter f n x)
  | 0, _, h => h
  | n + 1, x, h => iter_inv hf n (f x) (hf x h)
theorem iter_len {f : List C × Rdr → List C × Rdr} (hf : ∀ x, (f x).1.length = x.1.length + 1) : ∀ (n : Nat) (x : List C × Rdr), (iter f n x).1.length = x.1.length + n
  | 0, _ => rfl
  | n + 1, x => by
    show (iter f n (f x)).1.length = _
    rw [iter_len hf n (f x), hf x]; omega
theorem manyV_top (m : Int) (h0 : 0 ≤ m) (s : Rdr) : manyV m s ≤ m := by
  unfold manyV
  split <;> omega
theorem toV_eta (s : Rdr) : EtaO (toV s) := by
  unfold toV
  split
  · exact ⟨rfl, rfl⟩
  · exact zOp_eta
theorem trailV_ok (s : Rdr) : (∀ h ∈ trailV s, EtaH h) ∧ (trailV s).length ≤ 60 := by
  unfold trailV
  split
  · refine ⟨?_, ?_⟩
    · refine iter_inv (f := hopF) (P := fun x => ∀ h ∈ x.1, EtaH h) (fun x hx h hh => ?_) _ _ (fun h hh => by simp at hh)
      rcases List.mem_append.1 hh with a | a
      · exact hx h a
      · rw [List.mem_singleton.1 a]; rfl
    · have h1 := iter_len (f := hopF) (fun x => by simp [hopF]) (manyV 7 s).toNat ([], manyS 7 s)
      have h2 := manyV_top 7 (by omega) s
      unfold hopsF
      rw [h1]
      simp only [List.length_nil]
      omega
  · exact ⟨fun h hh => by simp at hh, by simp⟩
theorem loadV_ok (p : List C) : (∀ w ∈ loadV p, WishE w) ∧ (∀ w ∈ loadV p, w.get 1 = .slice (w.get 1).elems) ∧ (loadV p).length ≤ 255 := by
  have base : (∀ w ∈ (ldsF ⟨p, 0⟩).1, WishE w) ∧ (∀ w ∈ (ldsF ⟨p, 0⟩).1, w.get 1 = .slice (w.get 1).elems) := by
    have key : ∀ w ∈ (ldsF ⟨p, 0⟩).1, WishE w ∧ w.get 1 = .slice (w.get 1).elems := by
      refine iter_inv (f := ldF) (P := fun x => ∀ w ∈ x.1, WishE w ∧ w.get 1 = .slice (w.get 1).elems) (fun x hx w hw => ?_) _ _ (fun h hh => by simp at hh)
      rcases List.mem_append.1 hw with a | a
      · exact hx w a
      · rw [List.mem_singleton.1 a]
        have t := trailV_ok (toS x.2)
        exact ⟨⟨rfl, toV_eta x.2, t.1, t.2⟩, rfl⟩
    exact ⟨fun w hw => (key w hw).1, fun w hw => (key w hw).2⟩
  have hlen : (ldsF ⟨p, 0⟩).1.length ≤ 255 := by
    have h1 := iter_len (f := ldF) (fun x => by simp [ldF]) (manyV 255 ⟨p, 0⟩).toNat ([], manyS 255 ⟨p, 0⟩)
    have h2 := manyV_top 255 (by omega) ⟨p, 0⟩
    unfold ldsF
    rw [h1]
    simp only [List.length_nil]
    omega
  unfold loadV
  split
  · exact ⟨base.1, base.2, hlen⟩
  · exact ⟨fun h hh => by simp at hh, fun h hh => by simp at hh, by simp⟩
theorem right_one (k : KD R) : clerk_Rules_Right_p N (C.set (C.set (C.agg [C.agg [C.int 0, C.int 0], C.int 0, C.int 0, C.int 0]) 1 (C.int 1)) 3 (C.int 9)) k = k [.bool true] [] := by
  rw [clerk_Rules_Right_pe]
  unfold clerk_Rules_Right_p0
  simp only [jn_eq, dk_0, c_bool, c_int, set_agg_0, set_agg_1, set_agg_2, set_agg_3, get_agg_0, get_agg_1, get_agg_2, get_agg_3]
  rfl
theorem right_nil (k : KD R) : clerk_Rules_Right_p N (C.agg [C.agg [C.int 0, C.int 0], C.int 0, C.int 0, C.int 0]) k = k [.bool false] [] := by
  rw [clerk_Rules_Right_pe]
  unfold clerk_Rules_Right_p0
  simp only [jn_eq, dk_0, c_bool, c_int, get_agg_0, get_agg_1, get_agg_2, get_agg_3]
  rfl
theorem awake20_eq (hN : 2000 < N) (k : KD R) : law20_awake_p N k = k [.bool true] [] := by
  rw [law20_awake_pe]
  unfold law20_awake_p0
  rw [Add_eq [] _ rfl (by simp) hN]
  have a1 : addW [] (C.agg [C.agg [C.int 0, C.int 0, C.agg [C.int 0, C.int 0, C.int 0, C.agg (List.replicate 32 (C.int 0)), C.int 0], C.int 0], C.slice []]) = [C.agg [C.agg [C.int 0, C.int 0, C.agg [C.int 0, C.int 0, C.int 0, C.agg (List.replicate 32 (C.int 0)), C.int 0], C.int 0], C.slice []]] := rfl
  have a2 : addW [C.agg [C.agg [C.int 0, C.int 0, C.agg [C.int 0, C.int 0, C.int 0, C.agg (List.replicate 32 (C.int 0)), C.int 0], C.int 0], C.slice []]] (C.agg [C.agg [C.int 0, C.int 0, C.agg [C.int 0, C.int 0, C.int 0, C.agg (List.replicate 32 (C.int 0)), C.int 0], C.int 0], C.slice []]) = [C.agg [C.agg [C.int 0, C.int 0, C.agg [C.int 0, C.int 0, C.int 0, C.agg (List.replicate 32 (C.int 0)), C.int 0], C.int 0], C.slice []]] := rfl
  simp only [jn_eq, right_one, right_nil, a1, dk_0, c_bool, c_slice, cond_true, cond_false, Bool.not_false, Add_eq [C.agg [C.agg [C.int 0, C.int 0, C.agg [C.int 0, C.int 0, C.int 0, C.agg (List.replicate 32 (C.int 0)), C.int 0], C.int 0], C.slice []]] (C.agg [C.agg [C.int 0, C.int 0, C.agg [C.int 0, C.int 0, C.int 0, C.agg (List.replicate 32 (C.int 0)), C.int 0], C.int 0], C.slice []]) rfl (by simp) hN, a2]
  rfl
theorem addW_ok {P : C → Prop} {l : List C} {w : C} (h : ∀ x ∈ l, P x) (hw : P w) : ∀ x ∈ addW l w, P x := by
  unfold addW
  split
  · exact h
  · intro x hx
    rcases List.mem_append.1 hx with a | a
    · exact h x a
    · rw [List.mem_singleton.1 a]; exact hw
theorem addW_len (l : List C) (w : C) : (addW l w).length ≤ l.length + 1 := by
  unfold addW
  split <;> simp
theorem lists_l2 (l b : List C) (w : C) (k K : KD R) (hl : l.length ≤ 300) (hN : 30000 < N) :
    loopK N (law20_ClerkLists_l2 N k K) [.slice l, .slice b, w, .slice l, .int l.length, .int 0] [] = k [.bool true] [] ∨
    ((∀ x ∈ l, (x.get 1).elems.length ≤ 60) ∧ loopK N (law20_ClerkLists_l2 N k K) [.slice l, .slice b, w, .slice l, .int l.length, .int 0] [] = K [.slice l, .slice b, w] []) := by
  have key := loopK_run0 (R := R) (α := C) (σ := Unit) (ε := Nat)
    (F := law20_ClerkLists_l2 N k K)
    (fun i _ => [.slice l, .slice b, w, .slice l, .int l.length, .int i]) (fun _ _ => []) l (fun i _ c => if decide (60 < (((c.get 1).elems.length : Nat) : Int)) = true then .inr i else .inl ()) (fun _ => K [.slice l, .slice b, w] []) (fun _ => k [.bool true] []) (s0 := ()) (N := N) ?_ ?_ (by omega)
  · have h := runE_any (fun x => decide (60 < (((x.get 1).elems.length : Nat) : Int))) l 0
    cases ha : l.any (fun x => decide (60 < (((x.get 1).elems.length : Nat) : Int))) with
    | true =>
      obtain ⟨j, hj⟩ := h.1 ha
      rw [hj] at key
      exact .inl key
    | false =>
      rw [h.2 ha] at key
      refine .inr ⟨fun x hx => ?_, key⟩
      have := List.any_eq_false.1 ha x hx
      simp only [decide_eq_true_eq] at this
      omega
  · intro i s c hc hi rec
    have h1 : (i : Int) < (l.length : Int) := by omega
    unfold law20_ClerkLists_l2
    simp only [jn_eq, dk_0, dk_1, dk_2, dk_3, dk_4, dk_5, c_int, c_bool, c_slice, h1, decide_true, cond_true, Int.natCast_nonneg, and_self, if_true, Int.toNat_natCast, getD_of hc, wrap_succ (show i < 4611686018427387904 by omega), awake20_eq (show 2000 < N by omega)]
    by_cases h : 60 < (((c.get 1).elems.length : Nat) : Int) <;> simp [h]
  · intro s rec
    unfold law20_ClerkLists_l2
    simp only [dk_0, dk_1, dk_2, dk_3, dk_4, dk_5, c_int, c_slice, c_bool, Int.lt_irrefl, decide_false, cond_false]
theorem ClerkLists_eq (l b : List C) (w : C) (hl : ∀ x ∈ l, C.wf tWish x) (hw : C.wf tWish w) (hb : BytesOk b) (hN : 30000 < N) (k : KD R) : law20_ClerkLists_p N (.slice l) w (.slice b) k = k [.bool true] [] := by
  rw [law20_ClerkLists_pe]
  unfold law20_ClerkLists_p0
  by_cases g1 : 300 < (l.length : Int)
  · simp only [jn_eq, c_slice, g1, decide_true, cond_true, dk_0, dk_1, dk_2, dk_3, c_bool, awake20_eq (show 2000 < N by omega)]
  by_cases g2 : 20000 < (b.length : Int)
  · simp only [jn_eq, c_slice, g1, g2, decide_true, decide_false, cond_true, cond_false, dk_0, dk_1, dk_2, dk_3, c_bool, awake20_eq (show 2000 < N by omega)]
  by_cases g3 : 60 < ((w.get 1).elems.length : Int)
  · simp only [jn_eq, c_slice, g1, g2, g3, decide_true, decide_false, cond_true, cond_false, dk_0, dk_1, dk_2, dk_3, c_bool, awake20_eq (show 2000 < N by omega)]
  simp only [jn_eq, c_slice, g1, g2, g3, decide_true, decide_false, cond_true, cond_false, dk_0, dk_1, dk_2, dk_3, c_bool]
  have hll : l.length ≤ 300 := by omega
  have hbl : b.length ≤ 20000 := by omega
  have hwl : (w.get 1).elems.length ≤ 60 := by omega
  have we := wishE_of hw hwl
  have ww := wishW_of hw hwl
  rcases lists_l2 l b w k _ hll hN with h | ⟨hall, h⟩
  · exact h
  refine Eq.trans h ?_
  clear h
  have le : ∀ x ∈ l, WishE x := fun x hx => wishE_of (hl x hx) (hall x hx)
  have lw : ∀ x ∈ l, WishW x := fun x hx => wishW_of (hl x hx) (hall x hx)
  have lt : ∀ x ∈ l, x.get 1 = .slice (x.get 1).elems := fun x hx => (lw x hx).tr
  have e1 : ∀ x ∈ [w], WishE x := fun x hx => by rw [List.mem_singleton.1 hx]; exact we
  have t1 : ∀ x ∈ [w], x.get 1 = .slice (x.get 1).elems := fun x hx => by rw [List.mem_singleton.1 hx]; exact ww.tr
  have ae := addW_ok le we
  have aw := addW_ok (P := fun x => x.get 1 = .slice (x.get 1).elems) lt ww.tr
  have al := addW_len l w
  obtain ⟨v1, v2, v3⟩ := loadV_ok b
  have tw : ∀ k : KD R, clerk_Wish_Twin_p N w k = k [w] [] := fun k => by
    rw [clerk_Wish_Twin_pe]
    unfold clerk_Wish_Twin_p0
    rw [Nat.beq_refl, cond_true, ← we.eta]
  simp only [dk_0, dk_1, dk_2, dk_3, c_slice, c_bool, Wishes_id [w] e1 t1 (by simp) (show 2000 < N by omega), Wishes_id l le lt (by omega) (show 2000 < N by omega), load_eq b hb (show 1000 < N by omega), rload_eq b hb (by omega) (show 1000 < N by omega),
    List.getD_cons_zero, Int.toNat_zero, List.length_cons, List.length_nil, tw]
  rw [if_pos (by decide)]
  simp only [Add_eq l w we.eta (by omega) (show 2000 < N by omega), rAdd_eq l w (by omega) (show 2000 < N by omega), dk_0, dk_1, c_slice, c_bool, c_int, From_id (addW l w) ae aw (by omega) (show 2000 < N by omega), Alike_refl (addW l w) (fun x hx => by have := (ae x hx).len; omega) (by omega) (show 2000 < N by omega), Bool.not_true, cond_false,
    save_eq l lw hll (show 20000 < N by omega), rsave_eq l lw hll (show 20000 < N by omega), BEq.rfl, decide_true, From_id (loadV b) v1 v2 (by omega) (show 2000 < N by omega), Alike_refl (loadV b) (fun x hx => by have := (v1 x hx).len; omega) (by omega) (show 2000 < N by omega),
    From_id [w] e1 t1 (by simp) (show 2000 < N by omega), Alike_refl [w] (fun x hx => by have := (e1 x hx).len; omega) (by simp) (show 2000 < N by omega)]
  refine loopK_count (F := law20_ClerkLists_l1 N k fun d7 m7 => law20_awake_p N fun d8 m8 => k [.bool (dk d8 0).toBool] []) (fun i => [w, w, .slice l, .int l.length, .int i]) (fun _ => []) l.length (k [.bool true] []) ?_ ?_ (N := N) (by omega)
  · intro i hi rec
    have h1 : (i : Int) < (l.length : Int) := by omega
    have h2 := le _ (getD_mem hi)
    unfold law20_ClerkLists_l1
    simp only [dk_0, dk_1, dk_2, dk_3, dk_4, c_int, c_slice, c_bool, h1, decide_true, cond_true, Int.natCast_nonneg, and_self, if_true, Int.toNat_natCast, law12_Op_id _ h2.op, Same_eq, rSame_eq, wrap_succ (show i < 4611686018427387904 by omega)]
    cases sameB (w.get 0) ((l.getD i .nil).get 0) <;> rfl
  · intro rec
    unfold law20_ClerkLists_l1
    simp only [dk_0, dk_1, dk_2, dk_3, dk_4, c_int, c_slice, c_bool, Int.lt_irrefl, decide_false, cond_false, awake20_eq (show 2000 < N by omega)]
theorem run_ClerkLists (A : Key → Option O) (l w b : C) : DCalls (X0 gl0) 3 [.d (.slice 112 tWish) l, .d tWish w, .d (.slice 1 (.int .u8)) b] A (.d .bool (.bool true)) [] := by
  refine dcalls_wf (ts := [.slice 112 tWish, tWish, .slice 1 (.int .u8)]) (cs := [l, w, b]) fun W => ?_
  have h0 := W 0 _ _ rfl rfl
  have h1 := W 1 _ _ rfl rfl
  have h2 := W 2 _ _ rfl rfl
  have e0 : l = .slice l.elems := by simp only [C.wf] at h0; exact h0.1
  have e2 : b = .slice b.elems := by simp only [C.wf] at h2; exact h2.1
  have hl : ∀ x ∈ l.elems, C.wf tWish x := by simp only [C.wf] at h0; exact h0.2.2.2
  have hb : BytesOk b.elems := by
    simp only [C.wf] at h2
    have m1 : IntKind.u8.min = 0 := by decide
    have m2 : IntKind.u8.max = 255 := by decide
    intro c hc
    have := h2.2.2.2 c hc
    exact ⟨this.1, by omega, by omega⟩
  refine of_gok (law20_ClerkLists_ok 30001) ?_
  show law20_ClerkLists_g 30001 [.d (.slice 112 tWish) l, .d tWish w, .d (.slice 1 (.int .u8)) b] A kR = _
  simp only [law20_ClerkLists_g, and_self, if_true]
  rw [e0, e2, ClerkLists_eq l.elems b.elems w hl h1 hb (by omega)]
  rfl
end Go.Proofs.Ytnjepbgenciklaa

