/-
  What the functions on the way compute, part 2.
  Conditions: none.
-/
import Derived.Test.YtefppgmopnnphaaDoorKa
set_option linter.all false
namespace Go.Proofs.YtefppgmopnnphaaDoor
open Go Go.E
set_option maxRecDepth 100000
set_option maxHeartbeats 4000000
set_option linter.unusedVariables false
noncomputable def journal_Parse_hs : Hints := [([1, 0, 1, 1, 1, 1, 1, 1], ⟨[], [(6, .sl 32 tEntry3 5006)], [], [], [], []⟩),
    ([4, 1, 0, 1, 1, 1, 1, 1, 1], ⟨[27, 28], [(6, .sl 32 tEntry3 5006), (29, .d (.int .i64))], [], [], [], []⟩),
    ([0, 1, 0, 1, 1, 1, 4, 0, 1, 1, 5, 4, 1, 0, 1, 1, 1, 1, 1, 1], ⟨[9, 27, 28, 29], [(6, .sl 32 tEntry3 5006), (55, .d .bool)], [], [], [], []⟩),
    ([9], ⟨[], [(2, .sl 32 tEntry3 5002), (3, .d (.int .i64))], [], [], [], []⟩)]
noncomputable def journal_Parse_ov (N : Nat) : OvS (X0 gl0) where
  g R := [(40, strings_CutSuffix_g N), (41, lib_Split_g N), (42, journal_entry_g N)]
  ok := fun R => List.forall_mem_cons.2 ⟨strings_CutSuffix_ok N, List.forall_mem_cons.2 ⟨lib_Split_ok N, List.forall_mem_cons.2 ⟨journal_entry_ok N, fun _ h => nomatch h⟩⟩⟩
noncomputable def journal_Parse_l1 {R : Type} (N : Nat) (k1 : KD R) (k2 : KD R) : KD R → List C → List Es → Option R := (fun k3 d2 m2 => (bif decide (C.toInt (dk d2 3) < C.toInt (dk d2 1)) then (if 0 ≤ C.toInt (dk d2 3) ∧ C.toInt (dk d2 3) < (↑(List.length (C.elems (dk d2 0))) : Int) then (journal_entry_p N (List.getD (C.elems (dk d2 0)) (Int.toNat (C.toInt (dk d2 3))) C.nil) (fun d3 m3 => (bif !decide (C.toInt (dk d3 0) = 0) then (k1 [C.slice [], dk d3 0] []) else (jn (fun d4 m4 => (bif C.toBool (dk d4 5) then (k1 [C.slice [], C.int 29] []) else (bif Nat.beq (List.length (C.elems (dk d4 4))) (List.length (C.elems (dk d4 4))) then (if (List.length (C.elems (dk d4 4)) + 1) * 32 ≤ 140737488355328 ∧ List.length (C.elems (dk d4 4)) + 1 ≤ 9223372036854775807 then (bif Nat.beq (List.length (C.elems (dk d4 4)) + 1) (List.length (C.elems (dk d4 4) ++ [dk d4 0])) then (k3 [dk d4 1, dk d4 2, C.slice (C.elems (dk d4 4) ++ [dk d4 0]), C.int (IntKind.wrap IntKind.i64 (C.toInt (dk d4 3) + 1))] []) else none) else none) else none))) (fun k4 => (bif decide (0 < (↑(List.length (C.elems (dk d2 2))) : Int)) then (if 0 ≤ IntKind.wrap IntKind.i64 ((↑(List.length (C.elems (dk d2 2))) : Int) - 1) ∧ IntKind.wrap IntKind.i64 ((↑(List.length (C.elems (dk d2 2))) : Int) - 1) < (↑(List.length (C.elems (dk d2 2))) : Int) then (bif Nat.beq (List.length (C.elems (dk d2 2))) (List.length (C.elems (dk d2 2))) then (k4 [dk d3 1, dk d2 0, dk d2 1, dk d2 3, C.slice (C.elems (dk d2 2)), C.bool (decide (C.toInt (C.get (dk d3 1) 0) < C.toInt (C.get (List.getD (C.elems (dk d2 2)) (Int.toNat (IntKind.wrap IntKind.i64 ((↑(List.length (C.elems (dk d2 2))) : Int) - 1))) C.nil) 0)))] []) else none) else none) else (bif Nat.beq (List.length (C.elems (dk d2 2))) (List.length (C.elems (dk d2 2))) then (k4 [dk d3 1, dk d2 0, dk d2 1, dk d2 3, C.slice (C.elems (dk d2 2)), C.bool false] []) else none))))))) else none) else (bif Nat.beq (List.length (C.elems (dk d2 2))) (List.length (C.elems (dk d2 2))) then (k2 [C.slice (C.elems (dk d2 2))] []) else none)))
noncomputable def journal_Parse_p0 {R : Type} (N : Nat) (a0 : C) (k1 : KD R) : Option R := (bif decide (65536 < (↑(List.length (C.toStr a0)) : Int)) then (k1 [C.slice [], C.int 8] []) else (bif C.toStr a0 == [] then (k1 [C.slice [], C.int 0] []) else (strings_CutSuffix_p N a0 (C.str [UInt8.ofNat 10]) (fun d1 m1 => (bif !C.toBool (dk d1 1) then (k1 [C.slice [], C.int 9] []) else (if 1 = 1 ∧ List.length (C.toStr (dk d1 0)) < 4294967281 then (jn (fun d2 m2 => (bif Nat.beq (List.length (C.elems (dk d2 0))) (List.length (C.elems (dk d2 0))) then (k1 [C.slice (C.elems (dk d2 0)), C.int 0] []) else none)) (fun k2 => (loopK N (journal_Parse_l1 N k1 k2) [C.slice (List.map C.str (splitU (UInt8.ofNat 10) (C.toStr (dk d1 0)))), C.int (↑(List.length (List.map C.str (splitU (UInt8.ofNat 10) (C.toStr (dk d1 0))))) : Int), C.slice [], C.int 0] []))) else none))))))
noncomputable def journal_Parse_p {R : Type} (N : Nat) : C → KD R → Option R := lid "journal_Parse_p N" (journal_Parse_p0 N)
theorem journal_Parse_pe {R : Type} (N : Nat) (a0 : C) (k : KD R) : journal_Parse_p N a0 k = journal_Parse_p0 N a0 k := by unfold journal_Parse_p; rw [lid_eq]
theorem journal_Parse_run {R : Type} (N : Nat) (a0 : C) (K : V → List (Key × O) → Option R) : exF (X0 gl0) ((journal_Parse_ov N).ov R) extX (fun f r => bif Nat.beq f 21 then (bif Nat.beq r 16 then [(9, 6)] else []) else []) (fun f => bif Nat.beq f 21 then journal_Parse_hs else []) N 400 8 21 [.d .str a0] A0 K =
    journal_Parse_p N a0 (fun d1 m1 => K (V.tup [V.ts 32 tEntry3 (C.elems (dk d1 0)), V.d (Ty.int IntKind.i64) (dk d1 1)]) []) := by
  rw [journal_Parse_pe]
  exact (show _ = jn (fun d1 m1 => (bif Nat.beq (List.length (C.elems (dk d1 0))) (List.length (C.elems (dk d1 0))) then
    (K (V.tup [V.ts 32 tEntry3 (C.elems (dk d1 0)), V.d (Ty.int IntKind.i64) (dk d1 1)]) [])
  else
    none)) (journal_Parse_p0 N a0) by kernel_rfl).trans ((jn_eq _ _).trans (congrArg (journal_Parse_p0 N a0) (funext fun _ => funext fun _ => by simp only [Nat.beq_refl, cond_true])))
noncomputable def journal_Parse_g (N : Nat) {R : Type} : OvG R := fun xs _ K => match xs with
  | [.d t0 a0] => if t0 = .str then journal_Parse_p N a0 (fun d1 m1 => K (V.tup [V.ts 32 tEntry3 (C.elems (dk d1 0)), V.d (Ty.int IntKind.i64) (dk d1 1)]) []) else none
  | _ => none
theorem journal_Parse_ok (N : Nat) {R : Type} : GOk (X0 gl0) 21 (journal_Parse_g N (R := R)) := by
  intro xs A Kr r hr
  unfold journal_Parse_g at hr
  split at hr
  · simp only [Option.ite_none_right_eq_some] at hr
    obtain ⟨hty, hr⟩ := hr
    subst hty
    rw [← journal_Parse_run] at hr
    obtain ⟨v, L, h1, h2⟩ := exF_ok (ok0 gl0) (mo gl0) ((journal_Parse_ov N).ov_ok _) (extX_ok gl0) _ _ _ _ _ _ hr
    exact ⟨v, L, h1.mono (leA_none fun _ => rfl), h2⟩
  · cases hr
end Go.Proofs.YtefppgmopnnphaaDoor


namespace Go.Proofs.YtefppgmopnnphaaDoor
open Go Go.E
set_option maxRecDepth 100000
set_option maxHeartbeats 4000000
set_option linter.unusedSimpArgs false
variable {R : Type} {N : Nat}
theorem entry_wf {u : Nat} {ps : List C} {n : Nat} (hu : u < 18446744073709551616) (hp : PsW n ps) (hn : n ≤ 65536) : C.wf tEntry3 (.agg [.int (u : Int), .slice ps]) := by
  have m1 : IntKind.u64.min = 0 := by decide
  have m2 : IntKind.u64.max = 18446744073709551615 := by decide
  have h1 := hp.1
  unfold tEntry3
  simp only [C.wf, C.wfs]
  exact ⟨rfl, _, _, rfl, ⟨rfl, by simp only [c_int]; omega, by simp only [c_int]; omega⟩, _, _, rfl, ⟨rfl, by simp only [c_slice]; omega, by simp only [c_slice]; omega, hp.2⟩, rfl⟩
def entN (s : List UInt8) : Int × C :=
  if (splitU (UInt8.ofNat 32) s).length % 2 = 0 then (9, .agg [.int 0, .slice []]) else match numO ((splitU (UInt8.ofNat 32) s).getD 0 []) with
    | none => (10, .agg [.int 0, .slice []])
    | some h => match psR (splitU (UInt8.ofNat 32) s) with
      | .inr _ => (10, .agg [.int 0, .slice []])
      | .inl ps => (rightN ps, .agg [.int (h : Int), .slice ps])
theorem psR_W {ws : List (List UInt8)} {ps : List C} (hl : ws.length ≤ 65537) (hw : ∀ w ∈ ws, w.length ≤ 65536) (h : psR ws = .inl ps) : PsW 65536 ps := by
  have := psR_wf ws hw _ 0 [] ps ⟨Nat.le_refl _, fun p hp => by cases hp⟩ h
  rw [List.length_range] at this
  exact ⟨by have := this.1; omega, this.2⟩
theorem words (s : List UInt8) (hl : s.length ≤ 65536) (b : UInt8) : (splitU b s).length ≤ 65537 ∧ 0 < (splitU b s).length ∧ ∀ w ∈ splitU b s, w.length ≤ 65536 := by
  have h1 := splitU_len b s
  obtain ⟨x, l, h2⟩ := splitU_ne b s
  exact ⟨by omega, by rw [h2]; simp, fun w hw => Nat.le_trans (splitU_mem b s w hw) hl⟩
theorem tmod2 (n : Nat) : decide (Int.tmod (n : Int) 2 = 0) = decide (n % 2 = 0) := by
  rw [Int.tmod_eq_emod_of_nonneg (by omega)]
  by_cases h : n % 2 = 0
  · rw [decide_eq_true h, decide_eq_true (by omega)]
  · rw [decide_eq_false h, decide_eq_false (by omega)]
theorem jentry_eq (s : List UInt8) (hl : s.length ≤ 65536) (hN : 140737488355329 < N) (k : KD R) : journal_entry_p N (.str s) k = k [.int (entN s).1, (entN s).2] [] := by
  rw [journal_entry_pe]
  unfold journal_entry_p0 entN
  obtain ⟨w1, w2, w3⟩ := words s hl (UInt8.ofNat 32)
  simp only [jn_eq, c_str, List.length_map]
  generalize splitU (UInt8.ofNat 32) s = ws at w1 w2 w3
  refine (if_pos ⟨trivial, by omega⟩).trans ?_
  rw [tmod2]
  by_cases hpar : ws.length % 2 = 0
  · rw [decide_eq_true hpar, if_pos hpar]; rfl
  · rw [decide_eq_false hpar, if_neg hpar, cond_false]
    refine (if_pos ⟨by decide, by omega⟩).trans ?_
    have g0 : (ws.map C.str).getD (Int.toNat 0) .nil = .str (ws.getD 0 []) := getD_str w2
    rw [g0, number_eq]
    cases hh : numO (ws.getD 0 []) with
    | none => rfl
    | some h =>
      have hlt := numO_lt hh
      simp only [go_sem, c_int, decide_true, Bool.not_true, cond_false]
      refine (jentry_in ws _ _ ((ws.length - 1) / 2) (by omega) (by omega) w3 hN _ _).trans ?_
      cases hp : psR ws with
      | inr _ => rfl
      | inl ps =>
        have hW := psR_W w1 w3 hp
        simp only [go_sem, c_slice]
        rw [Right_eq _ (entry_wf hlt hW (Nat.le_refl _)) (by omega)]
        rfl
theorem entN_wf (s : List UInt8) (hl : s.length ≤ 65536) (h0 : (entN s).1 = 0) : C.wf tEntry3 (entN s).2 := by
  unfold entN at h0 ⊢
  obtain ⟨w1, w2, w3⟩ := words s hl (UInt8.ofNat 32)
  generalize splitU (UInt8.ofNat 32) s = ws at w1 w2 w3 h0 ⊢
  by_cases hpar : ws.length % 2 = 0
  · rw [if_pos hpar] at h0; cases h0
  · rw [if_neg hpar] at h0 ⊢
    cases hh : numO (ws.getD 0 []) with
    | none => rw [hh] at h0; cases h0
    | some h =>
      cases hp : psR ws with
      | inr _ => rw [hh, hp] at h0; cases h0
      | inl ps => exact entry_wf (numO_lt hh) (psR_W w1 w3 hp) (Nat.le_refl _)
def linF (out : List C) (s : List UInt8) : List C ⊕ Int := if (entN s).1 = 0 then (bif lateB out ((entN s).2.get 0).toInt then .inr 29 else .inl (out ++ [(entN s).2])) else .inr (entN s).1
def EsW (n : Nat) (out : List C) : Prop := out.length ≤ n ∧ ∀ x ∈ out, C.wf tEntry3 x
theorem linF_wf {n : Nat} {out out' : List C} {s : List UInt8} (hl : s.length ≤ 65536) (ho : EsW n out) (h : linF out s = .inl out') : EsW (n + 1) out' := by
  unfold linF at h
  split at h
  · rename_i h0
    cases hb : lateB out ((entN s).2.get 0).toInt with
    | true => rw [hb] at h; cases h
    | false =>
      rw [hb] at h
      cases h
      refine ⟨by simp only [List.length_append, List.length_cons, List.length_nil]; have := ho.1; omega, fun q hq => ?_⟩
      rcases List.mem_append.1 hq with h | h
      · exact ho.2 q h
      · rw [List.mem_singleton.1 h]; exact entN_wf s hl h0
  · cases h
def linR (ls : List (List UInt8)) : List C ⊕ Int := runE (fun _ out s => linF out s) 0 [] ls
theorem linR_wf' : ∀ (ls : List (List UInt8)) (i : Nat) (out out' : List C), (∀ w ∈ ls, w.length ≤ 65536) → EsW i out → runE (fun _ out s => linF out s) i out ls = .inl out' → EsW (i + ls.length) out'
  | [], i, out, out', _, ho, h => by simp only [runE] at h; cases h; exact ho
  | w :: ls, i, out, out', hw, ho, h => by
    simp only [runE] at h
    split at h
    · rename_i q hq
      have := linR_wf' ls (i + 1) q out' (fun w hw' => hw w (by simp [hw'])) (linF_wf (hw w (by simp)) ho hq) h
      simp only [List.length_cons]
      rw [show i + (ls.length + 1) = i + 1 + ls.length by omega]; exact this
    · cases h
theorem jlines (ls : List (List UInt8)) (hl : ls.length ≤ 65537) (hw : ∀ w ∈ ls, w.length ≤ 65536) (hN : 140737488355329 < N) (k1 k2 : KD R) :
    loopK N (journal_Parse_l1 N k1 k2) [.slice (ls.map C.str), .int (ls.length : Int), .slice [], .int 0] [] = (match linR ls with | .inl out => k2 [.slice out] [] | .inr e => k1 [.slice [], .int e] []) := by
  have key := loopK_run (ε := Int) (N := N) (F := journal_Parse_l1 N k1 k2) (fun i (out : List C) => [.slice (ls.map C.str), .int (ls.length : Int), .slice out, .int (i : Int)]) (fun _ _ => []) ls
      (fun _ out s => linF out s) (fun out => k2 [.slice out] []) (fun e => k1 [.slice [], .int e] []) EsW (s0 := []) ⟨Nat.le_refl _, fun p hp => by cases hp⟩
      (fun i out s hc ho => by
        have hi := (List.getElem?_eq_some_iff.1 hc).1
        have hs := hw s (List.mem_of_getElem? hc)
        refine ⟨fun rec => ?_, fun out' h => linF_wf hs ho h⟩
        have h1 : (i : Int) < (ls.length : Int) := by omega
        have hol := ho.1
        have g1 : (ls.map C.str).getD i .nil = .str s := by rw [getD_str hi, List.getD_eq_getElem?_getD, hc]; rfl
        have hb : ∀ (p : C), (out.length + 1).beq (out ++ [p]).length = true := fun p => by simp
        have hg1 : (out.length + 1) * 32 ≤ 140737488355328 ∧ out.length + 1 ≤ 9223372036854775807 := by omega
        unfold journal_Parse_l1
        simp only [jn_eq, go_sem, c_int, c_slice, c_str, c_bool, List.length_map, h1, decide_true, cond_true, Int.natCast_nonneg, and_self, if_true, Int.toNat_natCast, g1, Nat.beq_refl]
        rw [jentry_eq s hs hN]
        simp only [go_sem, c_int]
        unfold linF
        by_cases h0 : (entN s).1 = 0
        · rw [if_pos h0]
          simp only [h0, decide_true, Bool.not_true, cond_false]
          unfold lateB
          by_cases hz : 0 < out.length
          · have hz' : (0 : Int) < (out.length : Int) := by omega
            have hz2 : ((out.length - 1 : Nat) : Int) < (out.length : Int) := by omega
            simp only [hz, hz', hz2, decide_true, cond_true, Bool.true_and, wrap_pred hz (show out.length < 4611686018427387904 by omega), Int.natCast_nonneg, and_self, if_true, Int.toNat_natCast]
            cases hbb : decide (((entN s).2.get 0).toInt < ((out.getD (out.length - 1) .nil).get 0).toInt) with
            | true => rfl
            | false =>
              simp only [go_sem, c_bool, c_slice, c_int, cond_false, Nat.beq_refl, cond_true, hb, wrap_succ (show i < 4611686018427387904 by omega)]
              exact if_pos hg1
          · have hz' : ¬ (0 : Int) < (out.length : Int) := by omega
            simp only [hz, hz', decide_false, cond_false, Bool.false_and]
            simp only [go_sem, c_bool, c_slice, c_int, cond_false, Nat.beq_refl, cond_true, hb, wrap_succ (show i < 4611686018427387904 by omega)]
            exact if_pos hg1
        · rw [if_neg h0]
          simp only [h0, decide_false, Bool.not_false, cond_true])
      (fun out ho rec => by
        unfold journal_Parse_l1
        simp only [go_sem, c_int, c_slice, c_str, c_bool, Int.lt_irrefl, decide_false, cond_false, Nat.beq_refl, cond_true]) (by omega)
  have key : loopK N (journal_Parse_l1 N k1 k2) [.slice (ls.map C.str), .int (ls.length : Int), .slice [], .int 0] [] = _ := key
  rw [key]
  show endE _ _ (linR ls) = _
  cases linR ls <;> rfl
end Go.Proofs.YtefppgmopnnphaaDoor


namespace Go.Proofs.YtefppgmopnnphaaDoor
open Go Go.E
set_option maxRecDepth 100000
set_option maxHeartbeats 4000000
set_option linter.unusedVariables false
noncomputable def law30_JournalTexts_hs : Hints := [([0, 1, 1, 1, 1, 1, 1], ⟨[], [(4, .d .bool)], [], [], [], []⟩),
    ([9], ⟨[], [(4, .d .bool)], [], [], [], []⟩)]
noncomputable def law30_JournalTexts_ov (N : Nat) : OvS (X0 gl0) where
  g R := [(8, law30_light_g N), (9, law30_awake_g N), (10, law30_to_g N), (14, ref30_Same_g N), (15, law30_from_g N), (19, journal_Journal_Text_g N), (20, ref30_Text_g N), (21, journal_Parse_g N), (22, ref30_Parse_g N)]
  ok := fun R => List.forall_mem_cons.2 ⟨law30_light_ok N, List.forall_mem_cons.2 ⟨law30_awake_ok N, List.forall_mem_cons.2 ⟨law30_to_ok N, List.forall_mem_cons.2 ⟨ref30_Same_ok N, List.forall_mem_cons.2 ⟨law30_from_ok N, List.forall_mem_cons.2 ⟨journal_Journal_Text_ok N, List.forall_mem_cons.2 ⟨ref30_Text_ok N, List.forall_mem_cons.2 ⟨journal_Parse_ok N, List.forall_mem_cons.2 ⟨ref30_Parse_ok N, fun _ h => nomatch h⟩⟩⟩⟩⟩⟩⟩⟩⟩
noncomputable def law30_JournalTexts_p0 {R : Type} (N : Nat) (a0 a1 : C) (k1 : KD R) : Option R := (law30_light_p N a0 (fun d1 m1 => (bif !C.toBool (dk d1 0) then (law30_awake_p N (fun d2 m2 => (k1 [C.bool (C.toBool (dk d2 0))] []))) else (law30_to_p N a0 (fun d2 m2 => (journal_Journal_Text_p N (C.slice (C.elems (dk d2 0))) (fun d3 m3 => (ref30_Text_p N a0 (fun d4 m4 => (journal_Parse_p N a1 (fun d5 m5 => (ref30_Parse_p N a1 (fun d6 m6 => (jn (fun d7 m7 => (k1 [C.bool (C.toBool (dk d7 0))] [])) (fun k2 => (law30_awake_p N (fun d7 m7 => (bif C.toBool (dk d7 0) then (bif C.toStr (dk d3 0) == C.toStr (dk d4 0) then (bif decide (C.toInt (dk d3 1) = C.toInt (dk d4 1)) then (bif decide (C.toInt (dk d5 1) = C.toInt (dk d6 1)) then (law30_from_p N (C.slice (C.elems (dk d5 0))) (fun d8 m8 => (ref30_Same_p N (C.slice (C.elems (dk d8 0))) (C.slice (C.elems (dk d6 0))) (fun d9 m9 => (k2 [C.bool (C.toBool (dk d9 0))] []))))) else (k2 [C.bool false] [])) else (k2 [C.bool false] [])) else (k2 [C.bool false] [])) else (k2 [C.bool false] [])))))))))))))))))))
noncomputable def law30_JournalTexts_p {R : Type} (N : Nat) : C → C → KD R → Option R := lid "law30_JournalTexts_p N" (law30_JournalTexts_p0 N)
theorem law30_JournalTexts_pe {R : Type} (N : Nat) (a0 a1 : C) (k : KD R) : law30_JournalTexts_p N a0 a1 k = law30_JournalTexts_p0 N a0 a1 k := by unfold law30_JournalTexts_p; rw [lid_eq]
theorem law30_JournalTexts_run {R : Type} (N : Nat) (a0 a1 : C) (K : V → List (Key × O) → Option R) : exF (X0 gl0) ((law30_JournalTexts_ov N).ov R) extX noX (fun f => bif Nat.beq f 6 then law30_JournalTexts_hs else []) N 400 8 6 [.d (.slice 32 tEntry3) a0, .d .str a1] A0 K =
    law30_JournalTexts_p N a0 a1 (fun d1 m1 => K (V.d Ty.bool (C.bool (C.toBool (dk d1 0)))) []) := by
  rw [law30_JournalTexts_pe]
  exact (show _ = jn (fun d1 m1 => (K (V.d Ty.bool (C.bool (C.toBool (dk d1 0)))) [])) (law30_JournalTexts_p0 N a0 a1) by kernel_rfl).trans (jn_eq _ _)
noncomputable def law30_JournalTexts_g (N : Nat) {R : Type} : OvG R := fun xs _ K => match xs with
  | [.d t0 a0, .d t1 a1] => if t0 = (.slice 32 tEntry3) ∧ t1 = .str then law30_JournalTexts_p N a0 a1 (fun d1 m1 => K (V.d Ty.bool (C.bool (C.toBool (dk d1 0)))) []) else none
  | _ => none
theorem law30_JournalTexts_ok (N : Nat) {R : Type} : GOk (X0 gl0) 6 (law30_JournalTexts_g N (R := R)) := by
  intro xs A Kr r hr
  unfold law30_JournalTexts_g at hr
  split at hr
  · simp only [Option.ite_none_right_eq_some] at hr
    obtain ⟨hty, hr⟩ := hr
    obtain ⟨rfl, rfl⟩ := hty
    rw [← law30_JournalTexts_run] at hr
    obtain ⟨v, L, h1, h2⟩ := exF_ok (ok0 gl0) (mo gl0) ((law30_JournalTexts_ov N).ov_ok _) (extX_ok gl0) _ _ _ _ _ _ hr
    exact ⟨v, L, h1.mono (leA_none fun _ => rfl), h2⟩
  · cases hr
end Go.Proofs.YtefppgmopnnphaaDoor


namespace Go.Proofs.YtefppgmopnnphaaDoor
open Go Go.E
set_option maxRecDepth 100000
set_option maxHeartbeats 4000000
set_option linter.unusedSimpArgs false
variable {R : Type} {N : Nat}
theorem rsplit32 (s : List UInt8) (hl : s.length ≤ 65536) (hN : 140737488355329 < N) (k : KD R) : ref30_split_p N (.str s) (.int 32) k = k [.slice ((splitU (UInt8.ofNat 32) s).map C.str)] [] := rsplit_eq s (UInt8.ofNat 32) hl hN k
theorem rsplit10 (s : List UInt8) (hl : s.length ≤ 65536) (hN : 140737488355329 < N) (k : KD R) : ref30_split_p N (.str s) (.int 10) k = k [.slice ((splitU (UInt8.ofNat 10) s).map C.str)] [] := rsplit_eq s (UInt8.ofNat 10) hl hN k
theorem rnumber_eq' (s : List UInt8) (hl : s.length ≤ 4294967296) (hN : 140737488355329 < N) :
    (∃ u, numO s = some u ∧ ∀ k : KD R, ref30_number_p N (.str s) k = k [.int (u : Int), .bool true] []) ∨ (numO s = none ∧ ∀ k : KD R, ∃ x, ref30_number_p N (.str s) k = k [.int x, .bool false] []) := by
  cases h : numO s with
  | some u =>
    refine .inl ⟨u, rfl, fun k => ?_⟩
    rcases rnumber_eq s hl hN k with ⟨v, hv, e⟩ | ⟨hv, _⟩
    · rw [h] at hv; cases hv; exact e
    · rw [h] at hv; cases hv
  | none =>
    refine .inr ⟨rfl, fun k => ?_⟩
    rcases rnumber_eq s hl hN k with ⟨v, hv, e⟩ | ⟨_, e⟩
    · rw [h] at hv; cases hv
    · exact e
theorem rlines (ls : List (List UInt8)) (hl : ls.length ≤ 65537) (hw : ∀ w ∈ ls, w.length ≤ 65536) (hN : 140737488355329 < N) (k1 k2 : KD R) :
    loopK N (ref30_Parse_l2 N k1 k2) [.slice (ls.map C.str), .slice [], .int 0] [] = (match linR ls with | .inl out => k2 [.slice out] [] | .inr e => k1 [.slice [], .int e] []) := by
  have key := loopK_run (ε := Int) (N := N) (F := ref30_Parse_l2 N k1 k2) (fun i (out : List C) => [.slice (ls.map C.str), .slice out, .int (i : Int)]) (fun _ _ => []) ls
      (fun _ out s => linF out s) (fun out => k2 [.slice out] []) (fun e => k1 [.slice [], .int e] []) EsW (s0 := []) ⟨Nat.le_refl _, fun p hp => by cases hp⟩
      (fun i out s hc ho => by
        have hi := (List.getElem?_eq_some_iff.1 hc).1
        have hs := hw s (List.mem_of_getElem? hc)
        refine ⟨fun rec => ?_, fun out' h => linF_wf hs ho h⟩
        have h1 : (i : Int) < (ls.length : Int) := by omega
        have hol := ho.1
        have g1 : (ls.map C.str).getD i .nil = .str s := by rw [getD_str hi, List.getD_eq_getElem?_getD, hc]; rfl
        have hb : ∀ (p : C), (out.length + 1).beq (out ++ [p]).length = true := fun p => by simp
        have hg1 : (out.length + 1) * 32 ≤ 140737488355328 ∧ out.length + 1 ≤ 9223372036854775807 := by omega
        unfold ref30_Parse_l2
        simp only [jn_eq, go_sem, c_int, c_slice, c_str, c_bool, List.length_map, h1, decide_true, cond_true, Int.natCast_nonneg, and_self, if_true, Int.toNat_natCast, g1, Nat.beq_refl]
        rw [rsplit32 s hs hN]
        simp only [go_sem, c_slice, c_int, List.length_map]
        unfold linF entN
        obtain ⟨w1, w2, w3⟩ := words s hs (UInt8.ofNat 32)
        generalize splitU (UInt8.ofNat 32) s = ws at w1 w2 w3
        have htm : Int.tmod (ws.length : Int) 2 = ((ws.length % 2 : Nat) : Int) := by rw [Int.tmod_eq_emod_of_nonneg (by omega)]; omega
        by_cases hpar : ws.length % 2 = 0
        · refine (if_pos (show Int.tmod (ws.length : Int) 2 = 0 by omega)).trans ?_
          simp only [hpar, if_true]
          rfl
        · refine (if_neg (show ¬ Int.tmod (ws.length : Int) 2 = 0 by omega)).trans ?_
          simp only [hpar, if_false]
          have w2' : (0 : Int) < (ws.length : Int) := by omega
          have g0 : (ws.map C.str).getD 0 .nil = .str (ws.getD 0 []) := getD_str w2
          simp only [w2', Int.le_refl, and_self, and_true, true_and, if_true, g0]
          rcases rnumber_eq' (N := N) (R := R) (ws.getD 0 []) (Nat.le_trans (getD_len w3) (by decide)) hN with ⟨u, hu, e⟩ | ⟨hu, e⟩
          · refine (e _).trans ?_
            have hlt := numO_lt hu
            rw [hu]
            simp only [go_sem, c_bool, c_int, c_slice, Bool.not_true, cond_false, Nat.beq_refl, cond_true]
            refine (rentry_in ws _ _ _ _ _ ((ws.length - 1) / 2) (by omega) (by omega) w3 hN _ _).trans ?_
            cases hp : psR ws with
            | inr _ => rfl
            | inl ps =>
              have hW := psR_W w1 w3 hp
              simp only [go_sem, c_slice]
              rw [rRight_eq _ (entry_wf hlt hW (Nat.le_refl _)) hN]
              have hel : C.elems (C.get (.agg [.int (u : Int), .slice ps]) 1) = ps := rfl
              have hge : C.toInt (C.get (.agg [.int (u : Int), .slice ps]) 0) = (u : Int) := rfl
              simp only [go_sem, c_int, hel]
              by_cases h0 : rightN ps = 0
              · simp only [h0, decide_true, Bool.not_true, cond_false, if_true, hge]
                unfold lateB
                by_cases hz : 0 < out.length
                · have hz' : (0 : Int) < (out.length : Int) := by omega
                  have hz2 : ((out.length - 1 : Nat) : Int) < (out.length : Int) := by omega
                  simp only [hz, hz', hz2, decide_true, cond_true, Bool.true_and, wrap_pred hz (show out.length < 4611686018427387904 by omega), Int.natCast_nonneg, and_self, if_true, Int.toNat_natCast]
                  by_cases hbb : (u : Int) < ((out.getD (out.length - 1) .nil).get 0).toInt
                  · simp only [go_sem, c_bool, c_int, c_slice, hbb, decide_true, cond_true, if_true]
                  · simp only [go_sem, c_bool, c_slice, c_int, hbb, decide_false, if_false, cond_false, Nat.beq_refl, cond_true, hb, wrap_succ (show i < 4611686018427387904 by omega)]
                    exact if_pos hg1
                · have hz' : ¬ (0 : Int) < (out.length : Int) := by omega
                  simp only [hz, hz', decide_false, cond_false, Bool.false_and]
                  simp only [go_sem, c_bool, c_slice, c_int, cond_false, Nat.beq_refl, cond_true, hb, wrap_succ (show i < 4611686018427387904 by omega)]
                  exact if_pos hg1
              · simp only [h0, decide_false, Bool.not_false, cond_true, if_false]
          · obtain ⟨y, e⟩ := e _
            refine e.trans ?_
            rw [hu]
            simp only [go_sem, c_bool, Bool.not_false, cond_true]
            rfl)
      (fun out ho rec => by
        unfold ref30_Parse_l2
        simp only [go_sem, c_int, c_slice, c_str, c_bool, List.length_map, Int.lt_irrefl, decide_false, cond_false, Nat.beq_refl, cond_true]) (by omega)
  have key : loopK N (ref30_Parse_l2 N k1 k2) [.slice (ls.map C.str), .slice [], .int 0] [] = _ := key
  rw [key]
  show endE _ _ (linR ls) = _
  cases linR ls <;> rfl
end Go.Proofs.YtefppgmopnnphaaDoor


namespace Go.Proofs.YtefppgmopnnphaaDoor
open Go Go.E
set_option maxRecDepth 100000
set_option maxHeartbeats 4000000
set_option linter.unusedSimpArgs false
variable {R : Type} {N : Nat}
theorem one_beq (c d : UInt8) : (([c] : List UInt8) == [d]) = decide (c = d) := by
  by_cases e : c = d
  · simp [e]
  · simp [e]
theorem CutSuffix_eq (u : List UInt8) (c : UInt8) (hl : u.length ≤ 65536) (k : KD R) :
    strings_CutSuffix_p N (.str (u ++ [c])) (.str [UInt8.ofNat 10]) k = k [.str (if c = UInt8.ofNat 10 then u else u ++ [c]), .bool (decide (c = UInt8.ofNat 10))] [] := by
  rw [strings_CutSuffix_pe]
  unfold strings_CutSuffix_p0
  rw [internal_stringslite_CutSuffix_pe]
  unfold internal_stringslite_CutSuffix_p0
  rw [internal_stringslite_HasSuffix_pe]
  unfold internal_stringslite_HasSuffix_p0
  have el : (u ++ [c]).length = u.length + 1 := by simp
  have e1 : ([UInt8.ofNat 10] : List UInt8).length = 1 := rfl
  have hw : IntKind.i64.wrap (((u.length + 1 : Nat) : Int) - ((1 : Nat) : Int)) = (u.length : Int) := by rw [IntWalk.i64_in _ (by omega)]; omega
  have h1 : ((1 : Nat) : Int) ≤ ((u.length + 1 : Nat) : Int) := by omega
  have h2 : (u.length : Int) ≤ ((u.length + 1 : Nat) : Int) := by omega
  have hd : List.drop u.length (List.take (u.length + 1) (u ++ [c])) = [c] := by rw [← el, List.take_length, List.drop_left]
  have ht : List.drop 0 (List.take u.length (u ++ [c])) = u := by rw [List.drop_zero, List.take_left]
  have hb : (([c] : List UInt8) == [UInt8.ofNat 10]) = decide (c = UInt8.ofNat 10) := one_beq _ _
  have hz : (Int.ofNat 0 : Int) ≤ 0 := by decide
  simp only [jn_eq, c_str, el, e1, hw, h1, h2, hz, decide_true, cond_true, Int.natCast_nonneg, Int.le_refl, and_self, if_true, Int.toNat_natCast, hd, ht, hb, dk_0, dk_1, c_bool]
  by_cases e : c = UInt8.ofNat 10
  · simp only [e, decide_true, Bool.not_true, cond_false, if_true]
  · simp only [e, decide_false, Bool.not_false, cond_true, if_false]
def linO : List C ⊕ Int → C × Int
  | .inl out => (.slice out, 0)
  | .inr e => (.slice [], e)
def parN (t : List UInt8) : C × Int := if 65536 < t.length then (.slice [], 8) else if t = [] then (.slice [], 0) else if t.getLast? = some (UInt8.ofNat 10) then linO (linR (splitU (UInt8.ofNat 10) t.dropLast)) else (.slice [], 9)
theorem last_of {t : List UInt8} (h : t ≠ []) : ∃ u c, t = u ++ [c] := ⟨t.dropLast, t.getLast h, (List.dropLast_concat_getLast h).symm⟩
theorem jParse_eq (t : List UInt8) (hN : 140737488355329 < N) (k : KD R) : journal_Parse_p N (.str t) k = k [(parN t).1, .int (parN t).2] [] := by
  rw [journal_Parse_pe]
  unfold journal_Parse_p0 parN
  simp only [jn_eq, c_str]
  by_cases h0 : 65536 < t.length
  · have h0' : (65536 : Int) < (t.length : Int) := by omega
    simp only [h0, h0', decide_true, cond_true, if_true]
  · have h0' : ¬ (65536 : Int) < (t.length : Int) := by omega
    simp only [h0, h0', decide_false, cond_false, if_false]
    by_cases h1 : t = []
    · subst h1; rfl
    · have h1' : (t == []) = false := by simpa using h1
      simp only [h1, h1', cond_false, if_false]
      obtain ⟨u, c, rfl⟩ := last_of h1
      have el : (u ++ [c]).length = u.length + 1 := by simp
      have hu : u.length ≤ 65536 := by omega
      have e1 : (u ++ [c]).getLast? = some c := by simp
      have e2 : (u ++ [c]).dropLast = u := by simp
      rw [CutSuffix_eq u c hu, e1, e2]
      by_cases e : c = UInt8.ofNat 10
      · simp only [e, decide_true, if_true, dk_0, dk_1, c_bool, c_str, Bool.not_true, cond_false]
        refine (if_pos ⟨trivial, by omega⟩).trans ?_
        obtain ⟨w1, w2, w3⟩ := words u hu (UInt8.ofNat 10)
        rw [List.length_map]
        refine (jlines _ w1 w3 hN _ _).trans ?_
        cases linR (splitU (UInt8.ofNat 10) u) with
        | inl out => simp only [dk_0, c_slice, Nat.beq_refl, cond_true, linO]
        | inr e => rfl
      · have e' : ¬ (some c = some (UInt8.ofNat 10)) := fun h => e (by cases h; rfl)
        simp only [e, e', decide_false, if_false, dk_0, dk_1, c_bool, Bool.not_false, cond_true]
theorem rParse_eq (t : List UInt8) (hN : 140737488355329 < N) (k : KD R) : ref30_Parse_p N (.str t) k = k [(parN t).1, .int (parN t).2] [] := by
  rw [ref30_Parse_pe]
  unfold ref30_Parse_p0 parN
  simp only [jn_eq, c_str]
  by_cases h0 : 65536 < t.length
  · have h0' : (65536 : Int) < (t.length : Int) := by omega
    simp only [h0, h0', decide_true, cond_true, if_true]
  · have h0' : ¬ (65536 : Int) < (t.length : Int) := by omega
    simp only [h0, h0', decide_false, cond_false, if_false]
    by_cases h1 : t = []
    · subst h1; rfl
    · have h1' : (t == []) = false := by simpa using h1
      simp only [h1, h1', cond_false, if_false]
      obtain ⟨u, c, rfl⟩ := last_of h1
      have el : (u ++ [c]).length = u.length + 1 := by simp
      have hu : u.length ≤ 65536 := by omega
      have e1 : (u ++ [c]).getLast? = some c := by simp
      have e2 : (u ++ [c]).dropLast = u := by simp
      have hw : IntKind.i64.wrap (((u.length + 1 : Nat) : Int) - 1) = (u.length : Int) := by rw [IntWalk.i64_in _ (by omega)]; omega
      have h2 : (u.length : Int) < ((u.length + 1 : Nat) : Int) := by omega
      have h3 : (u.length : Int) ≤ ((u.length + 1 : Nat) : Int) := by omega
      have hz : (Int.ofNat 0 : Int) ≤ 0 := by decide
      have hg : (u ++ [c]).getD u.length (UInt8.ofNat 0) = c := by rw [List.getD_eq_getElem?_getD]; simp
      have ht : List.drop 0 (List.take u.length (u ++ [c])) = u := by rw [List.drop_zero, List.take_left]
      have hc : ((c.toNat : Int) = 10) ↔ c = UInt8.ofNat 10 := by
        constructor
        · intro h; exact UInt8.toNat_inj.1 (by show c.toNat = 10; omega)
        · rintro rfl; rfl
      have hc' : decide ((c.toNat : Int) = 10) = decide (c = UInt8.ofNat 10) := decide_eq_decide.2 hc
      rw [e1, e2]
      simp only [el, hw, h2, h3, hz, Int.natCast_nonneg, and_self, if_true, Int.toNat_natCast, hg, hc', ht]
      by_cases e : c = UInt8.ofNat 10
      · simp only [e, decide_true, if_true, Bool.not_true, cond_false]
        rw [rsplit10 u hu hN]
        obtain ⟨w1, w2, w3⟩ := words u hu (UInt8.ofNat 10)
        simp only [dk_0, c_slice]
        refine (rlines _ w1 w3 hN _ _).trans ?_
        cases linR (splitU (UInt8.ofNat 10) u) with
        | inl out => simp only [dk_0, c_slice, Nat.beq_refl, cond_true, linO]
        | inr e => rfl
      · have e' : ¬ (some c = some (UInt8.ofNat 10)) := fun h => e (by cases h; rfl)
        simp only [e, e', decide_false, if_false, Bool.not_false, cond_true]
theorem parN_wf (t : List UInt8) : ∃ out, (parN t).1 = .slice out ∧ EsW 65537 out := by
  unfold parN
  split
  · exact ⟨[], rfl, Nat.zero_le _, fun p hp => by cases hp⟩
  · split
    · exact ⟨[], rfl, Nat.zero_le _, fun p hp => by cases hp⟩
    · split
      · rename_i h0 _ _
        have hd : t.dropLast.length ≤ 65536 := by simp; omega
        obtain ⟨w1, w2, w3⟩ := words t.dropLast hd (UInt8.ofNat 10)
        cases h : linR (splitU (UInt8.ofNat 10) t.dropLast) with
        | inl out =>
          have := linR_wf' _ 0 [] out w3 ⟨Nat.le_refl _, fun p hp => by cases hp⟩ h
          exact ⟨out, rfl, by have := this.1; omega, this.2⟩
        | inr e => exact ⟨[], rfl, Nat.zero_le _, fun p hp => by cases hp⟩
      · exact ⟨[], rfl, Nat.zero_le _, fun p hp => by cases hp⟩
theorem JournalTexts_eq (l : List C) (t : List UInt8) (hw : ∀ x ∈ l, C.wf tEntry3 x) (hl : l.length * 32 ≤ 140737488355328) (hN : 140737488355329 < N) (k : KD R) : law30_JournalTexts_p N (.slice l) (.str t) k = k [.bool true] [] := by
  rw [law30_JournalTexts_pe]
  unfold law30_JournalTexts_p0
  rw [law30_light_eq l hw hl (by omega)]
  simp only [dk_0, c_bool]
  cases hb : lightB l with
  | false =>
    simp only [Bool.not_false, cond_true]
    rw [awake30_eq]
    rfl
  | true =>
    have h200 : l.length ≤ 200 := by
      unfold lightB at hb
      simp only [Bool.and_eq_true, decide_eq_true_eq] at hb
      omega
    obtain ⟨out, ho, hW⟩ := parN_wf t
    have N2 : 4398046511105 < N := by omega
    have hlo : out.length * 32 ≤ 140737488355328 := by have := hW.1; omega
    have hnil : ∀ x ∈ ([] : List C), C.wf tEntry3 x := fun x hx => by cases hx
    have f0 : ∀ k : KD R, law30_to_p N (C.slice l) k = k [.slice l] [] := law30_to_eq l hw hl N2
    have f1 : ∀ k : KD R, journal_Parse_p N (C.str t) k = k [.slice out, .int (parN t).2] [] := fun k => by rw [jParse_eq t hN, ho]
    have f2 : ∀ k : KD R, ref30_Parse_p N (C.str t) k = k [.slice out, .int (parN t).2] [] := fun k => by rw [rParse_eq t hN, ho]
    have f3 : ∀ k : KD R, law30_from_p N (C.slice out) k = k [.slice out] [] := law30_from_eq out hW.2 hlo N2
    have f4 : ∀ k : KD R, ref30_Same_p N (C.slice out) (C.slice out) k = k [.bool true] [] := Same_refl out hW.2 hlo N2
    have t1 : ∀ k : KD R, journal_Journal_Text_p N (C.slice l) k = _ := jText_eq l hw h200 hN
    have t2 : ∀ k : KD R, ref30_Text_p N (C.slice l) k = _ := rText_eq l hw h200 hN
    simp only [Bool.not_true, cond_false, jn_eq, f0, dk_0, dk_1, c_slice, t1, t2]
    cases txtR l with
    | inl x => simp only [f1, f2, f3, f4, dk_0, dk_1, c_str, c_int, c_bool, c_slice, awake30_eq, beq_self_eq_true, decide_true, cond_true]
    | inr e => simp only [f1, f2, f3, f4, dk_0, dk_1, c_str, c_int, c_bool, c_slice, awake30_eq, beq_self_eq_true, decide_true, cond_true]
theorem run_JournalTexts (A : Key → Option O) (l t : C) : DCalls (X0 gl0) 6 [.d (.slice 32 tEntry3) l, .d .str t] A (.d .bool (.bool true)) [] := by
  refine dcalls_wf (ts := [.slice 32 tEntry3, .str]) (cs := [l, t]) fun W => ?_
  have h0 := W 0 _ _ rfl rfl
  have h1 := W 1 _ _ rfl rfl
  simp only [C.wf] at h0 h1
  refine of_gok (law30_JournalTexts_ok 140737488355330) ?_
  show law30_JournalTexts_g 140737488355330 [.d (.slice 32 tEntry3) l, .d .str t] A kR = _
  simp only [law30_JournalTexts_g, and_self, if_true]
  rw [h0.1, h1.1, JournalTexts_eq l.elems t.toStr h0.2.2.2 h0.2.1 (by omega)]
  rfl
end Go.Proofs.YtefppgmopnnphaaDoor

