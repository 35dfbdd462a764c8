/-
  What the functions on the way compute, part 1.
  Conditions: none.
-/
import Derived.Test.YtefppgmopnnphaaDoorTf
import Derived.Laws.Externs
import Derived.Lib.Bytealg
import Derived.Lib.ItoaNum
import Derived.Shelf.LaysM
import Derived.Shelf.Pu.ParseUintPublic10
import Derived.Shelf.Strings.Count
import Derived.Shelf.Strings.Search3
import Derived.Shelf.Strconv.Itoa3
import Derived.Shelf.RegionOpenPlain
import Derived.Lib.Builder
import Derived.Lib.UnsafeStr
import Derived.Lib.ParseIntBCases
import Derived.Lib.SplitLaws
import Derived.Shelf.Strings.SplitCore
set_option linter.all false
namespace Go.Proofs.YtefppgmopnnphaaDoor
open Go Go.E
set_option maxRecDepth 10000
set_option linter.unusedSimpArgs false
variable {gl : Nat → Option (Ty × C)}
theorem clone_Post (A : Key → Option O) (cs : List C) : DCalls (X0 gl) 24 [.d (.slice 32 tPost) (.slice cs)] A (.ts 32 tPost cs) [] := by
  refine dcalls_intro (n := 8) (ok0 gl) Tryd.func24 rfl rfl (by simp) ?_
  intro A' hA
  refine dc_seq (dc_region (ok0 gl) [] (by kernel_rfl) ?_)
  simp only [go_sem, ↓gx_tt, ↓gx_tf, ↓gx_ft, ↓gx_ff, ↓gx_u2, ↓gk_tt, ↓gk_tf, ↓gk_ff, ↓gk_ft, reduceCtorEq, Nat.reduceEqDiff, ↓reduceIte, Nat.reduceAdd, Nat.reduceSub, Nat.reduceLT, Nat.reduceMul, Nat.reduceBEq, Int.reduceLE, Int.reduceLT, Int.reduceAdd, Int.reduceSub, Int.reduceToNat, Int.reduceNeg, Int.reduceMul, Nat.reduceLeDiff]
  refine dc_seq (dc_seq (dc_region (ok0 gl) [] (by kernel_rfl) ?_))
  cases cs with
  | nil =>
    simp only [go_sem, ↓gx_tt, ↓gx_tf, ↓gx_ft, ↓gx_ff, ↓gx_u2, ↓gk_tt, ↓gk_tf, ↓gk_ff, ↓gk_ft, reduceCtorEq, Nat.reduceEqDiff, ↓reduceIte, Nat.reduceAdd, Nat.reduceSub, Nat.reduceLT, Nat.reduceMul, Nat.reduceBEq, Int.reduceLE, Int.reduceLT, Int.reduceAdd, Int.reduceSub, Int.reduceToNat, Int.reduceNeg, Int.reduceMul, Nat.reduceLeDiff]
    refine dc_cond_top rfl ?_ (dc_skip ?_)
    · refine dc_seq (dc_region (ok0 gl) [] (by kernel_rfl) ?_)
      simp only [go_sem, ↓gx_tt, ↓gx_tf, ↓gx_ft, ↓gx_ff, ↓gx_u2, ↓gk_tt, ↓gk_tf, ↓gk_ff, ↓gk_ft, reduceCtorEq, Nat.reduceEqDiff, ↓reduceIte, Nat.reduceAdd, Nat.reduceSub, Nat.reduceLT, Nat.reduceMul, Nat.reduceBEq, Int.reduceLE, Int.reduceLT, Int.reduceAdd, Int.reduceSub, Int.reduceToNat, Int.reduceNeg, Int.reduceMul, Nat.reduceLeDiff]
      refine dc_ret ⟨.inr rfl, ?_⟩
      simp only [retOk, go_sem, ↓gx_tt, ↓gx_tf, ↓gx_ft, ↓gx_ff, ↓gx_u2, ↓gk_tt, ↓gk_tf, ↓gk_ff, ↓gk_ft, reduceCtorEq, Nat.reduceEqDiff, ↓reduceIte, Nat.reduceAdd, Nat.reduceSub, Nat.reduceLT, Nat.reduceMul, Nat.reduceBEq, Int.reduceLE, Int.reduceLT, Int.reduceAdd, Int.reduceSub, Int.reduceToNat, Int.reduceNeg, Int.reduceMul, Nat.reduceLeDiff, Tryd.f24]
    · refine dc_seq (dc_region (ok0 gl) [] (by kernel_rfl) ?_)
      simp only [go_sem, ↓gx_tt, ↓gx_tf, ↓gx_ft, ↓gx_ff, ↓gx_u2, ↓gk_tt, ↓gk_tf, ↓gk_ff, ↓gk_ft, reduceCtorEq, Nat.reduceEqDiff, ↓reduceIte, Nat.reduceAdd, Nat.reduceSub, Nat.reduceLT, Nat.reduceMul, Nat.reduceBEq, Int.reduceLE, Int.reduceLT, Int.reduceAdd, Int.reduceSub, Int.reduceToNat, Int.reduceNeg, Int.reduceMul, Nat.reduceLeDiff]
      refine dc_ret ⟨.inr rfl, ?_⟩
      simp only [retOk, go_sem, ↓gx_tt, ↓gx_tf, ↓gx_ft, ↓gx_ff, ↓gx_u2, ↓gk_tt, ↓gk_tf, ↓gk_ff, ↓gk_ft, reduceCtorEq, Nat.reduceEqDiff, ↓reduceIte, Nat.reduceAdd, Nat.reduceSub, Nat.reduceLT, Nat.reduceMul, Nat.reduceBEq, Int.reduceLE, Int.reduceLT, Int.reduceAdd, Int.reduceSub, Int.reduceToNat, Int.reduceNeg, Int.reduceMul, Nat.reduceLeDiff, Tryd.f24]
  | cons c cs =>
    simp only [go_sem, ↓gx_tt, ↓gx_tf, ↓gx_ft, ↓gx_ff, ↓gx_u2, ↓gk_tt, ↓gk_tf, ↓gk_ff, ↓gk_ft, reduceCtorEq, Nat.reduceEqDiff, ↓reduceIte, Nat.reduceAdd, Nat.reduceSub, Nat.reduceLT, Nat.reduceMul, Nat.reduceBEq, Int.reduceLE, Int.reduceLT, Int.reduceAdd, Int.reduceSub, Int.reduceToNat, Int.reduceNeg, Int.reduceMul, Nat.reduceLeDiff]
    refine dc_cond _ rfl (fun h => by simp at h) (fun _ => dc_skip ?_)
    refine dc_seq (dc_region (ok0 gl) [] (by kernel_rfl) ?_)
    simp only [go_sem, ↓gx_tt, ↓gx_tf, ↓gx_ft, ↓gx_ff, ↓gx_u2, ↓gk_tt, ↓gk_tf, ↓gk_ff, ↓gk_ft, reduceCtorEq, Nat.reduceEqDiff, ↓reduceIte, Nat.reduceAdd, Nat.reduceSub, Nat.reduceLT, Nat.reduceMul, Nat.reduceBEq, Int.reduceLE, Int.reduceLT, Int.reduceAdd, Int.reduceSub, Int.reduceToNat, Int.reduceNeg, Int.reduceMul, Nat.reduceLeDiff]
    refine dc_ret ⟨.inr rfl, ?_⟩
    simp only [retOk, go_sem, ↓gx_tt, ↓gx_tf, ↓gx_ft, ↓gx_ff, ↓gx_u2, ↓gk_tt, ↓gk_tf, ↓gk_ff, ↓gk_ft, reduceCtorEq, Nat.reduceEqDiff, ↓reduceIte, Nat.reduceAdd, Nat.reduceSub, Nat.reduceLT, Nat.reduceMul, Nat.reduceBEq, Int.reduceLE, Int.reduceLT, Int.reduceAdd, Int.reduceSub, Int.reduceToNat, Int.reduceNeg, Int.reduceMul, Nat.reduceLeDiff, Tryd.f24]
theorem clone_Entry3 (A : Key → Option O) (cs : List C) : DCalls (X0 gl) 25 [.d (.slice 32 tEntry3) (.slice cs)] A (.ts 32 tEntry3 cs) [] := by
  refine dcalls_intro (n := 8) (ok0 gl) Tryd.func25 rfl rfl (by simp) ?_
  intro A' hA
  refine dc_seq (dc_region (ok0 gl) [] (by kernel_rfl) ?_)
  simp only [go_sem, ↓gx_tt, ↓gx_tf, ↓gx_ft, ↓gx_ff, ↓gx_u2, ↓gk_tt, ↓gk_tf, ↓gk_ff, ↓gk_ft, reduceCtorEq, Nat.reduceEqDiff, ↓reduceIte, Nat.reduceAdd, Nat.reduceSub, Nat.reduceLT, Nat.reduceMul, Nat.reduceBEq, Int.reduceLE, Int.reduceLT, Int.reduceAdd, Int.reduceSub, Int.reduceToNat, Int.reduceNeg, Int.reduceMul, Nat.reduceLeDiff]
  refine dc_seq (dc_seq (dc_region (ok0 gl) [] (by kernel_rfl) ?_))
  cases cs with
  | nil =>
    simp only [go_sem, ↓gx_tt, ↓gx_tf, ↓gx_ft, ↓gx_ff, ↓gx_u2, ↓gk_tt, ↓gk_tf, ↓gk_ff, ↓gk_ft, reduceCtorEq, Nat.reduceEqDiff, ↓reduceIte, Nat.reduceAdd, Nat.reduceSub, Nat.reduceLT, Nat.reduceMul, Nat.reduceBEq, Int.reduceLE, Int.reduceLT, Int.reduceAdd, Int.reduceSub, Int.reduceToNat, Int.reduceNeg, Int.reduceMul, Nat.reduceLeDiff]
    refine dc_cond_top rfl ?_ (dc_skip ?_)
    · refine dc_seq (dc_region (ok0 gl) [] (by kernel_rfl) ?_)
      simp only [go_sem, ↓gx_tt, ↓gx_tf, ↓gx_ft, ↓gx_ff, ↓gx_u2, ↓gk_tt, ↓gk_tf, ↓gk_ff, ↓gk_ft, reduceCtorEq, Nat.reduceEqDiff, ↓reduceIte, Nat.reduceAdd, Nat.reduceSub, Nat.reduceLT, Nat.reduceMul, Nat.reduceBEq, Int.reduceLE, Int.reduceLT, Int.reduceAdd, Int.reduceSub, Int.reduceToNat, Int.reduceNeg, Int.reduceMul, Nat.reduceLeDiff]
      refine dc_ret ⟨.inr rfl, ?_⟩
      simp only [retOk, go_sem, ↓gx_tt, ↓gx_tf, ↓gx_ft, ↓gx_ff, ↓gx_u2, ↓gk_tt, ↓gk_tf, ↓gk_ff, ↓gk_ft, reduceCtorEq, Nat.reduceEqDiff, ↓reduceIte, Nat.reduceAdd, Nat.reduceSub, Nat.reduceLT, Nat.reduceMul, Nat.reduceBEq, Int.reduceLE, Int.reduceLT, Int.reduceAdd, Int.reduceSub, Int.reduceToNat, Int.reduceNeg, Int.reduceMul, Nat.reduceLeDiff, Tryd.f25]
    · refine dc_seq (dc_region (ok0 gl) [] (by kernel_rfl) ?_)
      simp only [go_sem, ↓gx_tt, ↓gx_tf, ↓gx_ft, ↓gx_ff, ↓gx_u2, ↓gk_tt, ↓gk_tf, ↓gk_ff, ↓gk_ft, reduceCtorEq, Nat.reduceEqDiff, ↓reduceIte, Nat.reduceAdd, Nat.reduceSub, Nat.reduceLT, Nat.reduceMul, Nat.reduceBEq, Int.reduceLE, Int.reduceLT, Int.reduceAdd, Int.reduceSub, Int.reduceToNat, Int.reduceNeg, Int.reduceMul, Nat.reduceLeDiff]
      refine dc_ret ⟨.inr rfl, ?_⟩
      simp only [retOk, go_sem, ↓gx_tt, ↓gx_tf, ↓gx_ft, ↓gx_ff, ↓gx_u2, ↓gk_tt, ↓gk_tf, ↓gk_ff, ↓gk_ft, reduceCtorEq, Nat.reduceEqDiff, ↓reduceIte, Nat.reduceAdd, Nat.reduceSub, Nat.reduceLT, Nat.reduceMul, Nat.reduceBEq, Int.reduceLE, Int.reduceLT, Int.reduceAdd, Int.reduceSub, Int.reduceToNat, Int.reduceNeg, Int.reduceMul, Nat.reduceLeDiff, Tryd.f25]
  | cons c cs =>
    simp only [go_sem, ↓gx_tt, ↓gx_tf, ↓gx_ft, ↓gx_ff, ↓gx_u2, ↓gk_tt, ↓gk_tf, ↓gk_ff, ↓gk_ft, reduceCtorEq, Nat.reduceEqDiff, ↓reduceIte, Nat.reduceAdd, Nat.reduceSub, Nat.reduceLT, Nat.reduceMul, Nat.reduceBEq, Int.reduceLE, Int.reduceLT, Int.reduceAdd, Int.reduceSub, Int.reduceToNat, Int.reduceNeg, Int.reduceMul, Nat.reduceLeDiff]
    refine dc_cond _ rfl (fun h => by simp at h) (fun _ => dc_skip ?_)
    refine dc_seq (dc_region (ok0 gl) [] (by kernel_rfl) ?_)
    simp only [go_sem, ↓gx_tt, ↓gx_tf, ↓gx_ft, ↓gx_ff, ↓gx_u2, ↓gk_tt, ↓gk_tf, ↓gk_ff, ↓gk_ft, reduceCtorEq, Nat.reduceEqDiff, ↓reduceIte, Nat.reduceAdd, Nat.reduceSub, Nat.reduceLT, Nat.reduceMul, Nat.reduceBEq, Int.reduceLE, Int.reduceLT, Int.reduceAdd, Int.reduceSub, Int.reduceToNat, Int.reduceNeg, Int.reduceMul, Nat.reduceLeDiff]
    refine dc_ret ⟨.inr rfl, ?_⟩
    simp only [retOk, go_sem, ↓gx_tt, ↓gx_tf, ↓gx_ft, ↓gx_ff, ↓gx_u2, ↓gk_tt, ↓gk_tf, ↓gk_ff, ↓gk_ft, reduceCtorEq, Nat.reduceEqDiff, ↓reduceIte, Nat.reduceAdd, Nat.reduceSub, Nat.reduceLT, Nat.reduceMul, Nat.reduceBEq, Int.reduceLE, Int.reduceLT, Int.reduceAdd, Int.reduceSub, Int.reduceToNat, Int.reduceNeg, Int.reduceMul, Nat.reduceLeDiff, Tryd.f25]
end Go.Proofs.YtefppgmopnnphaaDoor


namespace Go.Proofs.YtefppgmopnnphaaDoor
open Go Go.E
set_option maxRecDepth 10000
set_option linter.unusedSimpArgs false
variable {gl : Nat → Option (Ty × C)}
theorem bits_Add64 (a b : C) : EDoes (X0 gl) 45 [.d (.int .u64) a, .d (.int .u64) b, .d (.int .u64) (.int 0)] (.tup [.d (.int .u64) (.int ((a.toInt + b.toInt) % 18446744073709551616)), .d (.int .u64) (.int ((a.toInt + b.toInt) / 18446744073709551616))]) := by
  intro Γ w args hl hr
  have hs : args.size = 3 := hl.symm
  obtain ⟨e1, _, l1, m1⟩ := repV_int (hr 0 _ _ rfl (Array.getElem?_eq_getElem (by omega)))
  obtain ⟨e2, _, l2, m2⟩ := repV_int (hr 1 _ _ rfl (Array.getElem?_eq_getElem (by omega)))
  obtain ⟨e3, _, _, _⟩ := repV_int (hr 2 _ _ rfl (Array.getElem?_eq_getElem (by omega)))
  have ea : args = #[.int .u64 a.toInt, .int .u64 b.toInt, .int .u64 0] := by
    apply Array.ext
    · simpa using hs
    · intro i h1 h2
      match i with
      | 0 => simpa using e1
      | 1 => simpa using e2
      | 2 => simpa [C.toInt] using e3
      | i + 3 => omega
  have z : IntKind.u64.min = 0 := by decide
  have z' : IntKind.u64.max = 18446744073709551615 := by decide
  refine ⟨.tuple #[.int .u64 ((a.toInt + b.toInt) % 18446744073709551616), .int .u64 ((a.toInt + b.toInt) / 18446744073709551616)], ?_, #[_, _], rfl, ?_⟩
  · have hrun := run_callFunc_extern (P := (X0 gl).P) (f := 45) (fn := Tryd.f45) (e := add64Entry) Tryd.func45 (by decide) rfl (by kernel_rfl) (by kernel_rfl) args w
    rw [hrun, ea, run_add64 _ _ _ (by omega) (by omega) (by omega) (by omega)]
    simp
  · refine repCaps_of rfl fun i x u hx hu => ?_
    match i with
    | 0 => simp at hx hu; subst hx; subst hu; exact ⟨rfl, repV_mk_int (by omega) (by omega)⟩
    | 1 => simp at hx hu; subst hx; subst hu; exact ⟨rfl, repV_mk_int (by omega) (by omega)⟩
    | i + 2 => simp at hx
end Go.Proofs.YtefppgmopnnphaaDoor


namespace Go.Proofs.YtefppgmopnnphaaDoor
open Go Go.E
set_option maxRecDepth 100000
def indexByteX : List V → Option V := fun xs => match xs with
  | [.d .str s, .d (.int .u8) b] => some (.d (.int .i64) (.int (Go.Lib.indexByte s.toStr b.toInt.toNat.toUInt8)))
  | _ => none
def countX : List V → Option V := fun xs => match xs with
  | [.d .str s, .d (.int .u8) b] => some (.d (.int .i64) (.int (Go.Lib.countByte s.toStr b.toInt.toNat.toUInt8 : Nat)))
  | _ => none
theorem indexByte_lt (c : UInt8) : ∀ l : List UInt8, Go.Lib.indexByte l c < (l.length : Int) ∨ l = []
  | [] => .inr rfl
  | b :: l => by
    left
    unfold Go.Lib.indexByte
    simp only [List.length_cons]
    rcases indexByte_lt c l with h | h
    · split
      · omega
      · split <;> omega
    · subst h
      split
      · simp
      · simp [Go.Lib.indexByte]
theorem indexByteX_ok (gl : Nat → Option (Ty × C)) (xs : List V) (v : V) (h : indexByteX xs = some v) : EDoes (X0 gl) 105 xs v := by
  unfold indexByteX at h
  split at h
  · rename_i s b
    cases h
    intro Γ w args hl hr
    have hs : args.size = 2 := hl.symm
    obtain ⟨e1, _, h1⟩ := repV_str (hr 0 _ _ rfl (Array.getElem?_eq_getElem (by omega)))
    obtain ⟨e2, _, _, _⟩ := repV_int (hr 1 _ _ rfl (Array.getElem?_eq_getElem (by omega)))
    have ea : args = #[.string ⟨s.toStr.toArray⟩, .int .u8 b.toInt] := by
      apply Array.ext
      · simpa using hs
      · intro i h1 h2
        match i with
        | 0 => simpa using e1
        | 1 => simpa using e2
        | i + 2 => omega
    refine ⟨.int .i64 (Go.Lib.indexByte s.toStr b.toInt.toNat.toUInt8), ?_, ?_⟩
    · have hrun := run_callFunc_extern (P := (X0 gl).P) (f := 105) (fn := Tryd.f105) (e := Extern.BytealgIndexByte.indexByte) Tryd.func105 (by decide) rfl (by kernel_rfl) (by kernel_rfl) args w
      rw [hrun, ea, Go.Lib.run_indexByteString]
      simp
    · have m1 : IntKind.i64.min = -9223372036854775808 := by decide
      have m2 : IntKind.i64.max = 9223372036854775807 := by decide
      have q1 := Go.Lib.indexByte_ge s.toStr b.toInt.toNat.toUInt8
      have q2 : Go.Lib.indexByte s.toStr b.toInt.toNat.toUInt8 ≤ 140737488355328 := by
        rcases indexByte_lt b.toInt.toNat.toUInt8 s.toStr with h | h
        · omega
        · rw [h]; simp [Go.Lib.indexByte]
      exact repV_mk_int (by omega) (by omega)
  · cases h
theorem countX_ok (gl : Nat → Option (Ty × C)) (xs : List V) (v : V) (h : countX xs = some v) : EDoes (X0 gl) 87 xs v := by
  unfold countX at h
  split at h
  · rename_i s b
    cases h
    intro Γ w args hl hr
    have hs : args.size = 2 := hl.symm
    obtain ⟨e1, _, h1⟩ := repV_str (hr 0 _ _ rfl (Array.getElem?_eq_getElem (by omega)))
    obtain ⟨e2, _, _, _⟩ := repV_int (hr 1 _ _ rfl (Array.getElem?_eq_getElem (by omega)))
    have ea : args = #[.string ⟨s.toStr.toArray⟩, .int .u8 b.toInt] := by
      apply Array.ext
      · simpa using hs
      · intro i h1 h2
        match i with
        | 0 => simpa using e1
        | 1 => simpa using e2
        | i + 2 => omega
    refine ⟨.int .i64 (Go.Lib.countByte s.toStr b.toInt.toNat.toUInt8 : Nat), ?_, ?_⟩
    · have hrun := run_callFunc_extern (P := (X0 gl).P) (f := 87) (fn := Tryd.f87) (e := Extern.BytealgCount.count) Tryd.func87 (by decide) rfl (by kernel_rfl) (by kernel_rfl) args w
      rw [hrun, ea, Go.Lib.run_countString]
      simp
    · have m1 : IntKind.i64.min = -9223372036854775808 := by decide
      have m2 : IntKind.i64.max = 9223372036854775807 := by decide
      have q : Go.Lib.countByte s.toStr b.toInt.toNat.toUInt8 ≤ s.toStr.length := List.count_le_length
      exact repV_mk_int (by omega) (by omega)
  · cases h
end Go.Proofs.YtefppgmopnnphaaDoor


namespace Go.Proofs.YtefppgmopnnphaaDoor
open Go Go.E
set_option maxRecDepth 100000
def lookG : List (Nat × Ty × C) → Nat → Option (Ty × C)
  | [], _ => none
  | (i, x) :: l, g => bif Nat.beq g i then some x else lookG l g
theorem lookG_sub {gl : Nat → Option (Ty × C)} : ∀ {l : List (Nat × Ty × C)}, l.map (fun p => gl p.1) = l.map (fun p => some p.2) → ∀ g x, lookG l g = some x → gl g = some x
  | [], _, g, x, h => by cases h
  | (i, y) :: l, h0, g, x, h => by
    simp only [List.map_cons, List.cons.injEq] at h0
    simp only [lookG] at h
    cases hb : Nat.beq g i with
    | true =>
      rw [hb, cond_true] at h
      cases h
      rw [Nat.eq_of_beq_eq_true hb]; exact h0.1
    | false =>
      rw [hb, cond_false] at h
      exact lookG_sub h0.2 g x h
def gl0L : List (Nat × Ty × C) :=
  (0, .arr 20 (.int .u64), .agg (Go.Lib.pow10Tab.map C.int)) ::
  (6, .iface, .bool true) ::
  (7, .iface, .bool true) ::
  []
def gl0 : Nat → Option (Ty × C) := lookG gl0L
theorem gl0_sub (gl : Nat → Option (Ty × C)) (h : gl0L.map (fun p => gl p.1) = gl0L.map (fun p => some p.2)) : ∀ g x, gl0 g = some x → gl g = some x := lookG_sub h
def add64X : List V → Option V := fun xs => match xs with
  | [.d (.int .u64) a, .d (.int .u64) b, .d (.int .u64) (.int c)] => if c = 0 then some (.tup [.d (.int .u64) (.int ((a.toInt + b.toInt) % 18446744073709551616)), .d (.int .u64) (.int ((a.toInt + b.toInt) / 18446744073709551616))]) else none
  | _ => none
def extL : List (Nat × (List V → Option V)) := []
  ++ [(45, add64X)]
  ++ [(105, indexByteX)]
  ++ [(87, countX)]
def extX : ExtK := extLook extL
theorem extL_ok (gl : Nat → Option (Ty × C)) : ExtLOk (X0 gl) extL := by
  unfold extL
  repeat' refine ExtLOk.append ?_ ⟨?_, trivial⟩
  · exact trivial
  · intro xs v h
    have h : add64X xs = some v := h
    show EDoes (X0 gl) 45 xs v
    unfold add64X at h
    split at h
    · simp only [Option.ite_none_right_eq_some, Option.some.injEq] at h
      obtain ⟨rfl, rfl⟩ := h
      exact bits_Add64 _ _
    · cases h
  · exact indexByteX_ok gl
  · exact countX_ok gl
theorem extX_ok (gl : Nat → Option (Ty × C)) : ExtKOk (X0 gl) extX := extLook_ok (extL_ok gl)
def noX : FuncId → Nat → List (Nat × Nat) := fun _ _ => []
noncomputable def cl_Post_g (_ : Nat) {R : Type} : OvG R := cloneG 32 tPost
theorem cl_Post_ok (N : Nat) {R : Type} : GOk (X0 gl0) 24 (cl_Post_g N (R := R)) := cloneG_ok fun A cs => clone_Post A cs
noncomputable def cl_Entry3_g (_ : Nat) {R : Type} : OvG R := cloneG 32 tEntry3
theorem cl_Entry3_ok (N : Nat) {R : Type} : GOk (X0 gl0) 25 (cl_Entry3_g N (R := R)) := cloneG_ok fun A cs => clone_Entry3 A cs
end Go.Proofs.YtefppgmopnnphaaDoor


namespace Go.Proofs.YtefppgmopnnphaaDoor
open Go Go.E Go.RowKit
set_option maxRecDepth 100000
set_option maxHeartbeats 4000000
set_option linter.unusedSimpArgs false
def nameB (b : UInt8) : Bool := (decide (97 ≤ b.toNat) && decide (b.toNat ≤ 122)) || (decide (48 ≤ b.toNat) && decide (b.toNat ≤ 57)) || b.toNat == 46
def namedF (l : List UInt8) : Bool := decide (1 ≤ l.length) && decide (l.length ≤ 20) && l.all nameB
theorem drop_at (s : ByteArray) (pos : Nat) (h : pos < s.size) : s.data.toList.drop pos = (s[pos]'h) :: s.data.toList.drop (pos + 1) := by
  have h2 : pos < s.data.toList.length := by rw [Array.length_toList]; exact h
  rw [List.drop_eq_getElem_cons h2]
  congr 1
theorem named_run (s : ByteArray) (w : World) : Calls Tryd.prog 28 #[.string s] w fun e w' => e = .returned (.bool (namedF s.data.toList)) ∧ (w' = w ∨ ∃ pos, w' = w.iter s pos) := by
  go_enter Tryd.func28, Tryd.ntmps28
  go_wp2
  · rename_i h1 h2
    go_ret
    refine ⟨?_, .inl rfl⟩
    have : namedF s.data.toList = false := by
      unfold namedF
      rw [Array.length_toList]
      have e : s.data.size = s.size := rfl
      rw [e]
      rcases h2 with h2 | h2
      · omega
      · rw [decide_eq_false (show ¬ s.size ≤ 20 by omega)]; simp
    rw [this]
    rfl
  · have h2 : 1 ≤ (s.size : Int) ∧ (s.size : Int) ≤ 20 := by assumption
    have hlen : namedF s.data.toList = s.data.toList.all nameB := by
      unfold namedF
      rw [Array.length_toList]
      have e : s.data.size = s.size := rfl
      rw [e, decide_eq_true (show 1 ≤ s.size by omega), decide_eq_true (show s.size ≤ 20 by omega)]; simp
    have hlen0 : (s.data.toList.drop 0).all nameB = namedF s.data.toList := hlen.symm
    clear hlen
    generalize hres : namedF s.data.toList = res at hlen0
    go_loopw [4] (fun _ w' => ∃ (pos : Nat), w' = w.iter s pos ∧ (s.data.toList.drop pos).all nameB = res) (fun _ w' => s.size - w'.iterPos w.heap.size)
    case atStart => exact ⟨0, rfl, hlen0⟩
    case round =>
      obtain ⟨pos, rfl, hc⟩ := hrel
      by_cases hp : pos < s.size
      · have hdec : ∃ (r wd : Nat), 1 ≤ wd ∧ ((r = (s[pos]'hp).toNat ∧ wd = 1) ∨ (128 ≤ r ∧ nameB (s[pos]'hp) = false)) ∧ ∀ ty, (Instr.next (.pointer (some ⟨w.heap.size, 0, none⟩)) true ty).run Tryd.prog (w.iter s pos) = .ok (.tuple #[.bool true, .int .i64 pos, .int .i32 (r : Int)]) (w.iter s (pos + wd)) := by
          by_cases ha : (s[pos]'hp).toNat < 128
          · refine ⟨(s[pos]'hp).toNat, 1, Nat.le_refl _, .inl ⟨rfl, rfl⟩, fun ty => ?_⟩
            exact run_next_ascii w s pos ty hp ha
          · have q := decode_high s pos hp (by omega)
            refine ⟨(Utf8.decode s pos).1, (Utf8.decode s pos).2, q.2, .inr ⟨q.1, ?_⟩, fun ty => run_next_any w s pos ty hp⟩
            unfold nameB
            rw [decide_eq_false (show ¬ (s[pos]'hp).toNat ≤ 122 by omega), decide_eq_false (show ¬ (s[pos]'hp).toNat ≤ 57 by omega), show ((s[pos]'hp).toNat == 46) = false from by simp; omega]
            simp
        rw [drop_at s pos hp, List.all_cons] at hc
        generalize (s[pos]'hp) = b0 at hc hdec
        obtain ⟨r, wd, hwd, hr, hnx⟩ := hdec
        clear h2 hlen0
        have hk : nameB b0 = true ↔ ((97 ≤ (r : Int) ∧ (r : Int) ≤ 122) ∨ (48 ≤ (r : Int) ∧ (r : Int) ≤ 57) ∨ (r : Int) = 46) := by
          rcases hr with ⟨rfl, _⟩ | ⟨h1, h2⟩
          · unfold nameB
            simp
            omega
          · rw [h2]
            simp
            omega
        have hw1 : nameB b0 = true → wd = 1 := fun h => by
          rcases hr with ⟨_, h1⟩ | ⟨_, h2⟩
          · exact h1
          · rw [h] at h2; cases h2
        clear hr
        go_wp2
        all_goals (first
          | (go_ret
             have hb : nameB b0 = false := by
               rw [← Bool.not_eq_true, hk]
               try simp only [bne_iff_ne, ne_eq, bne_eq_false_iff_eq] at *
               omega
             rw [hb, Bool.false_and] at hc
             refine ⟨?_, .inr ⟨_, rfl⟩⟩
             (first | rw [hres, ← hc] | rw [← hc])
             rfl)
          | (have hb : nameB b0 = true := hk.2 (by
               try simp only [bne_iff_ne, ne_eq, bne_eq_false_iff_eq] at *
               omega)
             have := hw1 hb
             subst this
             rw [hb, Bool.true_and] at hc
             refine ⟨⟨pos + 1, rfl, hc⟩, ?_⟩
             simp
             omega))
      · have hnx : ∀ ty, (Instr.next (.pointer (some ⟨w.heap.size, 0, none⟩)) true ty).run Tryd.prog (w.iter s pos) = _ := fun ty => run_next_end w s pos ty hp
        clear h2 hlen0
        go_wp2
        go_ret
        rw [List.drop_eq_nil_of_le (by rw [Array.length_toList]; exact Nat.le_of_not_lt hp)] at hc
        refine ⟨?_, .inr ⟨_, rfl⟩⟩
        (first | rw [hres, ← hc] | rw [← hc])
        rfl
  · rename_i h1
    go_ret
    refine ⟨?_, .inl rfl⟩
    have : namedF s.data.toList = false := by
      unfold namedF
      rw [Array.length_toList]
      have e : s.data.size = s.size := rfl
      rw [e, decide_eq_false (show ¬ 1 ≤ s.size by omega)]; simp
    rw [this]
    rfl
theorem ext_iter (w : World) (s : ByteArray) (pos : Nat) : Ext w (w.iter s pos) := by
  refine ⟨?_, fun b hb => ?_, ?_⟩
  · simp [World.iter]
  · exact heap_alloc_old w _ hb
  · rfl
theorem named_calls (A : Key → Option O) (c : C) : DCalls (X0 gl0) 28 [.d .str c] A (.d .bool (.bool (namedF c.toStr))) [] := by
  intro A' Γ w args hA' hg hc hn hr
  obtain ⟨cc, hok⟩ := hc
  have hs : args.size = 1 := hn.symm
  obtain ⟨e1, _, _⟩ := repV_str (hr 0 _ _ rfl (Array.getElem?_eq_getElem (by omega)))
  have ea : args = #[.string ⟨c.toStr.toArray⟩] := by
    apply Array.ext
    · simpa using hs
    · intro i h1 h2
      match i with
      | 0 => simpa using e1
      | i + 1 => omega
  rw [ea]
  refine (named_run ⟨c.toStr.toArray⟩ w).mono fun e w' he => ?_
  obtain ⟨he1, he2⟩ := he
  have hext : Ext w w' := by
    rcases he2 with rfl | ⟨pos, rfl⟩
    · exact .refl _
    · exact ext_iter _ _ _
  refine ⟨_, Γ, he1, .refl Γ, (cc.ext hext).congr (fun _ => rfl) (fun _ => rfl) (fun _ h => h), ?_⟩
  exact repV_mk_bool
noncomputable def journal_named_g (_ : Nat) {R : Type} : OvG R := fun xs _ K => match xs with
  | [.d .str c] => K (.d .bool (.bool (namedF c.toStr))) []
  | _ => none
theorem journal_named_ok (N : Nat) {R : Type} : GOk (X0 gl0) 28 (journal_named_g N (R := R)) := by
  intro xs A Kr r hr
  unfold journal_named_g at hr
  split at hr
  · exact ⟨_, _, named_calls A _, hr⟩
  · cases hr
end Go.Proofs.YtefppgmopnnphaaDoor


set_option linter.all false
namespace Go.Proofs
open Go.Shelf Go.Lib Go.RowKit
def Tryd.laysM246_ren : Go.Shelf.Ren := ⟨fun | 246 => 111 | 283 => 66 | 284 => 67 | 285 => 68 | 286 => 69 | 129 => 64 | 317 => 81 | 318 => 82 | 319 => 83 | 320 => 84 | 337 => 92 | 338 => 93 | n => n, fun | 2 => 2 | 3 => 3 | 9 => 9 | 4 => 4 | 171 => 129 | 0 => 0 | 53 => 23 | 37 => 88 | 5 => 5 | 173 => 131 | 212 => 144 | 51 => 124 | 20 => 20 | 213 => 145 | 46 => 111 | 232 => 160 | 233 => 161 | n => n, fun | 17 => 0 | 18 => 2 | 19 => 3 | n => n⟩
theorem Tryd.laysM246 : Go.Proofs.LaysM.n246 Tryd.prog Tryd.laysM246_ren := {
  mixed := by kernel_rfl
  f129 := Tryd.func64.trans (congrArg some (by kernel_rfl))
  f246 := Tryd.func111.trans (congrArg some (by kernel_rfl))
  f283 := Tryd.func66.trans (congrArg some (by kernel_rfl))
  f284 := Tryd.func67.trans (congrArg some (by kernel_rfl))
  f285 := Tryd.func68.trans (congrArg some (by kernel_rfl))
  f286 := Tryd.func69.trans (congrArg some (by kernel_rfl))
  f317 := Tryd.func81.trans (congrArg some (by kernel_rfl))
  f318 := Tryd.func82.trans (congrArg some (by kernel_rfl))
  f319 := Tryd.func83.trans (congrArg some (by kernel_rfl))
  f320 := Tryd.func84.trans (congrArg some (by kernel_rfl))
  f337 := Tryd.func92.trans (congrArg some (by kernel_rfl))
  f338 := Tryd.func93.trans (congrArg some (by kernel_rfl))
  t0 := Tryd.underlying0
  a0 := Tryd.isAgg0
  z0 := Tryd.sizeOf0
  v0 := Tryd.zeroValue0
  t2 := Tryd.underlying2
  a2 := Tryd.isAgg2
  z2 := Tryd.sizeOf2
  v2 := Tryd.zeroValue2
  t3 := Tryd.underlying3
  a3 := Tryd.isAgg3
  z3 := Tryd.sizeOf3
  v3 := Tryd.zeroValue3
  t4 := Tryd.underlying4
  a4 := Tryd.isAgg4
  z4 := Tryd.sizeOf4
  v4 := Tryd.zeroValue4
  t5 := Tryd.underlying5
  a5 := Tryd.isAgg5
  z5 := Tryd.sizeOf5
  v5 := Tryd.zeroValue5
  t9 := Tryd.underlying9
  a9 := Tryd.isAgg9
  z9 := Tryd.sizeOf9
  v9 := Tryd.zeroValue9
  t20 := Tryd.underlying20
  a20 := Tryd.isAgg20
  z20 := Tryd.sizeOf20
  v20 := Tryd.zeroValue20
  t37 := Tryd.underlying88
  a37 := Tryd.isAgg88
  z37 := Tryd.sizeOf88
  v37 := Tryd.zeroValue88
  t46 := Tryd.underlying111
  a46 := Tryd.isAgg111
  z46 := Tryd.sizeOf111
  v46 := Tryd.zeroValue111
  t51 := Tryd.underlying124
  a51 := Tryd.isAgg124
  z51 := Tryd.sizeOf124
  v51 := Tryd.zeroValue124
  t53 := Tryd.underlying23
  a53 := Tryd.isAgg23
  z53 := Tryd.sizeOf23
  v53 := Tryd.zeroValue23
  t171 := Tryd.underlying129
  a171 := Tryd.isAgg129
  z171 := Tryd.sizeOf129
  v171 := Tryd.zeroValue129
  t173 := Tryd.underlying131
  a173 := Tryd.isAgg131
  z173 := Tryd.sizeOf131
  v173 := Tryd.zeroValue131
  t212 := Tryd.underlying144
  a212 := Tryd.isAgg144
  z212 := Tryd.sizeOf144
  v212 := Tryd.zeroValue144
  t213 := Tryd.underlying145
  a213 := Tryd.isAgg145
  z213 := Tryd.sizeOf145
  t232 := Tryd.underlying160
  a232 := Tryd.isAgg160
  z232 := Tryd.sizeOf160
  v232 := Tryd.zeroValue160
  t233 := Tryd.underlying161
  a233 := Tryd.isAgg161
  z233 := Tryd.sizeOf161
  v233 := Tryd.zeroValue161
  g17 := by kernel_rfl
  g18 := by kernel_rfl
  g19 := by kernel_rfl
  i0 := by kernel_rfl
  i2 := by kernel_rfl
  i3 := by kernel_rfl
  i4 := by kernel_rfl
  i5 := by kernel_rfl
  i9 := by kernel_rfl
  i20 := by kernel_rfl
  i37 := by kernel_rfl
  i46 := by kernel_rfl
  i51 := by kernel_rfl
  i53 := by kernel_rfl
  i171 := by kernel_rfl
  i173 := by kernel_rfl
  i212 := by kernel_rfl
  i232 := by kernel_rfl
  i233 := by kernel_rfl
  m17 := by kernel_rfl
  m18 := by kernel_rfl
  m19 := by kernel_rfl }
def Tryd.laysPu14_ren : Go.Shelf.Ren := ⟨fun | 14 => 74 | 16 => 89 | 17 => 90 | 19 => 99 | 20 => 100 | 21 => 101 | 22 => 102 | 23 => 103 | 24 => 104 | 25 => 107 | 27 => 109 | 26 => 108 | 28 => 110 | 29 => 111 | 30 => 66 | 31 => 67 | 32 => 68 | 33 => 69 | 35 => 64 | 34 => 81 | 36 => 82 | 37 => 83 | 38 => 84 | 39 => 92 | 40 => 93 | n => n, fun | 9 => 9 | 3 => 3 | 22 => 23 | 24 => 92 | 25 => 134 | 4 => 4 | 34 => 155 | 5 => 5 | 36 => 111 | 37 => 88 | 0 => 0 | 39 => 157 | 21 => 21 | 44 => 170 | 47 => 112 | 50 => 174 | 48 => 172 | 2 => 2 | 52 => 129 | 55 => 131 | 59 => 144 | 60 => 124 | 20 => 20 | 61 => 145 | 65 => 160 | 66 => 161 | 67 => 96 | n => n, fun | 0 => 6 | 1 => 7 | 2 => 0 | 3 => 2 | 4 => 3 | n => n⟩
theorem Tryd.laysPu14 : Go.Proofs.LaysPu.n14 Tryd.prog Tryd.laysPu14_ren := {
  mixed := by kernel_rfl
  f14 := Tryd.func74.trans (congrArg some (by kernel_rfl))
  f16 := Tryd.func89.trans (congrArg some (by kernel_rfl))
  f17 := Tryd.func90.trans (congrArg some (by kernel_rfl))
  f19 := Tryd.func99.trans (congrArg some (by kernel_rfl))
  f20 := Tryd.func100.trans (congrArg some (by kernel_rfl))
  f21 := Tryd.func101.trans (congrArg some (by kernel_rfl))
  f22 := Tryd.func102.trans (congrArg some (by kernel_rfl))
  f23 := Tryd.func103.trans (congrArg some (by kernel_rfl))
  f24 := Tryd.func104.trans (congrArg some (by kernel_rfl))
  f25 := Tryd.func107.trans (congrArg some (by kernel_rfl))
  f26 := Tryd.func108.trans (congrArg some (by kernel_rfl))
  f27 := Tryd.func109.trans (congrArg some (by kernel_rfl))
  f28 := Tryd.func110.trans (congrArg some (by kernel_rfl))
  f29 := Tryd.func111.trans (congrArg some (by kernel_rfl))
  f30 := Tryd.func66.trans (congrArg some (by kernel_rfl))
  f31 := Tryd.func67.trans (congrArg some (by kernel_rfl))
  f32 := Tryd.func68.trans (congrArg some (by kernel_rfl))
  f33 := Tryd.func69.trans (congrArg some (by kernel_rfl))
  f34 := Tryd.func81.trans (congrArg some (by kernel_rfl))
  f35 := Tryd.func64.trans (congrArg some (by kernel_rfl))
  f36 := Tryd.func82.trans (congrArg some (by kernel_rfl))
  f37 := Tryd.func83.trans (congrArg some (by kernel_rfl))
  f38 := Tryd.func84.trans (congrArg some (by kernel_rfl))
  f39 := Tryd.func92.trans (congrArg some (by kernel_rfl))
  f40 := Tryd.func93.trans (congrArg some (by kernel_rfl))
  t0 := Tryd.underlying0
  a0 := Tryd.isAgg0
  z0 := Tryd.sizeOf0
  v0 := Tryd.zeroValue0
  i0 := by kernel_rfl
  t2 := Tryd.underlying2
  a2 := Tryd.isAgg2
  z2 := Tryd.sizeOf2
  v2 := Tryd.zeroValue2
  i2 := by kernel_rfl
  t3 := Tryd.underlying3
  a3 := Tryd.isAgg3
  z3 := Tryd.sizeOf3
  v3 := Tryd.zeroValue3
  i3 := by kernel_rfl
  t4 := Tryd.underlying4
  a4 := Tryd.isAgg4
  z4 := Tryd.sizeOf4
  v4 := Tryd.zeroValue4
  i4 := by kernel_rfl
  t5 := Tryd.underlying5
  a5 := Tryd.isAgg5
  z5 := Tryd.sizeOf5
  v5 := Tryd.zeroValue5
  i5 := by kernel_rfl
  t9 := Tryd.underlying9
  a9 := Tryd.isAgg9
  z9 := Tryd.sizeOf9
  v9 := Tryd.zeroValue9
  i9 := by kernel_rfl
  t20 := Tryd.underlying20
  a20 := Tryd.isAgg20
  z20 := Tryd.sizeOf20
  v20 := Tryd.zeroValue20
  i20 := by kernel_rfl
  t21 := Tryd.underlying21
  a21 := Tryd.isAgg21
  z21 := Tryd.sizeOf21
  v21 := Tryd.zeroValue21
  i21 := by kernel_rfl
  t22 := Tryd.underlying23
  a22 := Tryd.isAgg23
  z22 := Tryd.sizeOf23
  v22 := Tryd.zeroValue23
  i22 := by kernel_rfl
  t24 := Tryd.underlying92
  a24 := Tryd.isAgg92
  z24 := Tryd.sizeOf92
  v24 := Tryd.zeroValue92
  i24 := by kernel_rfl
  t25 := Tryd.underlying134
  a25 := Tryd.isAgg134
  z25 := Tryd.sizeOf134
  v25 := Tryd.zeroValue134
  i25 := by kernel_rfl
  t34 := Tryd.underlying155
  a34 := Tryd.isAgg155
  z34 := Tryd.sizeOf155
  v34 := Tryd.zeroValue155
  i34 := by kernel_rfl
  c34 := by kernel_rfl
  t36 := Tryd.underlying111
  a36 := Tryd.isAgg111
  z36 := Tryd.sizeOf111
  v36 := Tryd.zeroValue111
  i36 := by kernel_rfl
  t37 := Tryd.underlying88
  a37 := Tryd.isAgg88
  z37 := Tryd.sizeOf88
  v37 := Tryd.zeroValue88
  i37 := by kernel_rfl
  t39 := Tryd.underlying157
  a39 := Tryd.isAgg157
  z39 := Tryd.sizeOf157
  v39 := Tryd.zeroValue157
  i39 := by kernel_rfl
  t44 := Tryd.underlying170
  a44 := Tryd.isAgg170
  z44 := Tryd.sizeOf170
  v44 := Tryd.zeroValue170
  i44 := by kernel_rfl
  t47 := Tryd.underlying112
  a47 := Tryd.isAgg112
  z47 := Tryd.sizeOf112
  v47 := Tryd.zeroValue112
  i47 := by kernel_rfl
  t48 := Tryd.underlying172
  a48 := Tryd.isAgg172
  z48 := Tryd.sizeOf172
  v48 := Tryd.zeroValue172
  i48 := by kernel_rfl
  t50 := Tryd.underlying174
  a50 := Tryd.isAgg174
  z50 := Tryd.sizeOf174
  v50 := Tryd.zeroValue174
  i50 := by kernel_rfl
  t52 := Tryd.underlying129
  a52 := Tryd.isAgg129
  z52 := Tryd.sizeOf129
  v52 := Tryd.zeroValue129
  i52 := by kernel_rfl
  t55 := Tryd.underlying131
  a55 := Tryd.isAgg131
  z55 := Tryd.sizeOf131
  v55 := Tryd.zeroValue131
  i55 := by kernel_rfl
  t59 := Tryd.underlying144
  a59 := Tryd.isAgg144
  z59 := Tryd.sizeOf144
  v59 := Tryd.zeroValue144
  i59 := by kernel_rfl
  t60 := Tryd.underlying124
  a60 := Tryd.isAgg124
  z60 := Tryd.sizeOf124
  v60 := Tryd.zeroValue124
  i60 := by kernel_rfl
  t61 := Tryd.underlying145
  a61 := Tryd.isAgg145
  z61 := Tryd.sizeOf145
  t65 := Tryd.underlying160
  a65 := Tryd.isAgg160
  z65 := Tryd.sizeOf160
  v65 := Tryd.zeroValue160
  i65 := by kernel_rfl
  t66 := Tryd.underlying161
  a66 := Tryd.isAgg161
  z66 := Tryd.sizeOf161
  v66 := Tryd.zeroValue161
  i66 := by kernel_rfl
  t67 := Tryd.underlying96
  a67 := Tryd.isAgg96
  z67 := Tryd.sizeOf96
  v67 := Tryd.zeroValue96
  i67 := by kernel_rfl
  g0 := by kernel_rfl
  m0 := by kernel_rfl
  g1 := by kernel_rfl
  m1 := by kernel_rfl
  g2 := by kernel_rfl
  m2 := by kernel_rfl
  g3 := by kernel_rfl
  m3 := by kernel_rfl
  g4 := by kernel_rfl
  m4 := by kernel_rfl }
theorem Tryd.strconv_ParseUint_10_at64_ok (s : ByteArray) (hmax : s.size ≤ 9223372036854775806) (u : Nat) (h : Lib.parseUintB 64 s.data.toList = .ok u) (w : World) :
    Calls Tryd.prog 74 #[.string s, .int .i64 10, .int .i64 64] w fun e w' => e = .returned (.tuple #[.int .u64 u, .nilIface]) ∧ (w' = w ∨ w' = Lib.bytesWorld w 5 s) := Any.strconv_ParseUint_10_at64_ok Tryd.laysPu14 s hmax u h w
theorem Tryd.strconv_ParseUint_10_at64_range (s : ByteArray) (hlim : s.size ≤ 281474976710656) (h : Lib.parseUintB 64 s.data.toList = .range) (ev : Value) (w : World) (hv : w.cell? ⟨7, 0, none⟩ = some ev) (hev : ev = .nilIface ∨ ∃ te pe, ev = .iface te pe) :
    Calls Tryd.prog 74 #[.string s, .int .i64 10, .int .i64 64] w fun e w' => ∃ N, e = .returned (.tuple #[.int .u64 18446744073709551615, .iface 157 (.pointer (some ⟨N, 0, none⟩))]) ∧ w.heap.size ≤ N ∧ w'.heap[N]? = some (.cells #[.string ⟨#[80, 97, 114, 115, 101, 85, 105, 110, 116]⟩, .string s, ev] 170 (0, 0)) ∧ Below w.heap.size w w' := Any.strconv_ParseUint_10_at64_range Tryd.laysPu14 s hlim h ev w hv hev
def Tryd.lays143_ren : Go.Shelf.Ren := ⟨fun | 143 => 73 | 219 => 88 | 217 => 95 | 225 => 96 | 224 => 97 | 267 => 98 | 266 => 105 | 314 => 106 | n => n, fun | 9 => 9 | 3 => 3 | 4 => 4 | 5 => 5 | 46 => 111 | 146 => 166 | 51 => 124 | n => n, fun | 1 => 1 | n => n⟩
theorem Tryd.lays143 : Go.Proofs.Lays.n143 Tryd.prog Tryd.lays143_ren := {
  mixed := by kernel_rfl
  f143 := Tryd.func73.trans (congrArg some (by kernel_rfl))
  f217 := Tryd.func95.trans (congrArg some (by kernel_rfl))
  f219 := Tryd.func88.trans (congrArg some (by kernel_rfl))
  f224 := Tryd.func97.trans (congrArg some (by kernel_rfl))
  f225 := Tryd.func96.trans (congrArg some (by kernel_rfl))
  f266 := Tryd.func105.trans (congrArg some (by kernel_rfl))
  f267 := Tryd.func98.trans (congrArg some (by kernel_rfl))
  f314 := Tryd.func106.trans (congrArg some (by kernel_rfl))
  t3 := Tryd.underlying3
  a3 := Tryd.isAgg3
  z3 := Tryd.sizeOf3
  v3 := Tryd.zeroValue3
  t4 := Tryd.underlying4
  a4 := Tryd.isAgg4
  z4 := Tryd.sizeOf4
  v4 := Tryd.zeroValue4
  t5 := Tryd.underlying5
  a5 := Tryd.isAgg5
  z5 := Tryd.sizeOf5
  v5 := Tryd.zeroValue5
  t9 := Tryd.underlying9
  a9 := Tryd.isAgg9
  z9 := Tryd.sizeOf9
  v9 := Tryd.zeroValue9
  t46 := Tryd.underlying111
  a46 := Tryd.isAgg111
  z46 := Tryd.sizeOf111
  v46 := Tryd.zeroValue111
  t51 := Tryd.underlying124
  a51 := Tryd.isAgg124
  z51 := Tryd.sizeOf124
  v51 := Tryd.zeroValue124
  t146 := Tryd.underlying166
  a146 := Tryd.isAgg166
  z146 := Tryd.sizeOf166
  v146 := Tryd.zeroValue166
  g1 := by kernel_rfl }
theorem Tryd.strings_Index_one (s : ByteArray) (c : UInt8) (w : World) :
    Calls Tryd.prog 73 #[.string s, .string ⟨#[c]⟩] w fun e w' => e = .returned (.int .i64 (Lib.indexByte s.data.toList c)) ∧ w' = w := Any.strings_Index_one Tryd.lays143 s c w
def Tryd.lays138_ren : Go.Shelf.Ren := ⟨fun | 138 => 72 | 195 => 85 | 218 => 87 | 143 => 73 | 219 => 88 | 217 => 95 | 225 => 96 | 224 => 97 | 267 => 98 | 266 => 105 | 314 => 106 | n => n, fun | 9 => 9 | 3 => 3 | 4 => 4 | 5 => 5 | 0 => 0 | 46 => 111 | 146 => 166 | 51 => 124 | n => n, fun | 1 => 1 | n => n⟩
theorem Tryd.lays138 : Go.Proofs.Lays.n138 Tryd.prog Tryd.lays138_ren := {
  mixed := by kernel_rfl
  f138 := Tryd.func72.trans (congrArg some (by kernel_rfl))
  f143 := Tryd.func73.trans (congrArg some (by kernel_rfl))
  f195 := Tryd.func85.trans (congrArg some (by kernel_rfl))
  f217 := Tryd.func95.trans (congrArg some (by kernel_rfl))
  f218 := Tryd.func87.trans (congrArg some (by kernel_rfl))
  f219 := Tryd.func88.trans (congrArg some (by kernel_rfl))
  f224 := Tryd.func97.trans (congrArg some (by kernel_rfl))
  f225 := Tryd.func96.trans (congrArg some (by kernel_rfl))
  f266 := Tryd.func105.trans (congrArg some (by kernel_rfl))
  f267 := Tryd.func98.trans (congrArg some (by kernel_rfl))
  f314 := Tryd.func106.trans (congrArg some (by kernel_rfl))
  t0 := Tryd.underlying0
  a0 := Tryd.isAgg0
  z0 := Tryd.sizeOf0
  v0 := Tryd.zeroValue0
  t3 := Tryd.underlying3
  a3 := Tryd.isAgg3
  z3 := Tryd.sizeOf3
  v3 := Tryd.zeroValue3
  t4 := Tryd.underlying4
  a4 := Tryd.isAgg4
  z4 := Tryd.sizeOf4
  v4 := Tryd.zeroValue4
  t5 := Tryd.underlying5
  a5 := Tryd.isAgg5
  z5 := Tryd.sizeOf5
  v5 := Tryd.zeroValue5
  t9 := Tryd.underlying9
  a9 := Tryd.isAgg9
  z9 := Tryd.sizeOf9
  v9 := Tryd.zeroValue9
  t46 := Tryd.underlying111
  a46 := Tryd.isAgg111
  z46 := Tryd.sizeOf111
  v46 := Tryd.zeroValue111
  t51 := Tryd.underlying124
  a51 := Tryd.isAgg124
  z51 := Tryd.sizeOf124
  v51 := Tryd.zeroValue124
  t146 := Tryd.underlying166
  a146 := Tryd.isAgg166
  z146 := Tryd.sizeOf166
  v146 := Tryd.zeroValue166
  g1 := by kernel_rfl }
theorem Tryd.strings_Count_one (s : ByteArray) (c : UInt8) (w : World) :
    Calls Tryd.prog 72 #[.string s, .string ⟨#[c]⟩] w fun e w' => e = .returned (.int .i64 (Lib.countByte s.data.toList c)) ∧ w' = w := Any.strings_Count_one Tryd.lays138 s c w
def Tryd.lays146_ren : Go.Shelf.Ren := ⟨fun | 146 => 41 | 221 => 52 | 268 => 71 | 138 => 72 | 143 => 73 | 195 => 85 | 197 => 86 | 218 => 87 | 219 => 88 | 260 => 94 | 217 => 95 | 225 => 96 | 224 => 97 | 267 => 98 | 266 => 105 | 314 => 106 | n => n, fun | 9 => 9 | 31 => 100 | 3 => 3 | 4 => 4 | 0 => 0 | 105 => 148 | 21 => 21 | 5 => 5 | 46 => 111 | 119 => 162 | 139 => 165 | 138 => 164 | 146 => 166 | 51 => 124 | n => n, fun | 1 => 1 | 3 => 4 | 4 => 5 | n => n⟩
theorem Tryd.lays146 : Go.Proofs.Lays.n146 Tryd.prog Tryd.lays146_ren := {
  mixed := by kernel_rfl
  f138 := Tryd.func72.trans (congrArg some (by kernel_rfl))
  f143 := Tryd.func73.trans (congrArg some (by kernel_rfl))
  f146 := Tryd.func41.trans (congrArg some (by kernel_rfl))
  f195 := Tryd.func85.trans (congrArg some (by kernel_rfl))
  f197 := Tryd.func86.trans (congrArg some (by kernel_rfl))
  f217 := Tryd.func95.trans (congrArg some (by kernel_rfl))
  f218 := Tryd.func87.trans (congrArg some (by kernel_rfl))
  f219 := Tryd.func88.trans (congrArg some (by kernel_rfl))
  f221 := Tryd.func52.trans (congrArg some (by kernel_rfl))
  f224 := Tryd.func97.trans (congrArg some (by kernel_rfl))
  f225 := Tryd.func96.trans (congrArg some (by kernel_rfl))
  f260 := Tryd.func94.trans (congrArg some (by kernel_rfl))
  f266 := Tryd.func105.trans (congrArg some (by kernel_rfl))
  f267 := Tryd.func98.trans (congrArg some (by kernel_rfl))
  f268 := Tryd.func71.trans (congrArg some (by kernel_rfl))
  f314 := Tryd.func106.trans (congrArg some (by kernel_rfl))
  t0 := Tryd.underlying0
  a0 := Tryd.isAgg0
  z0 := Tryd.sizeOf0
  v0 := Tryd.zeroValue0
  t3 := Tryd.underlying3
  a3 := Tryd.isAgg3
  z3 := Tryd.sizeOf3
  v3 := Tryd.zeroValue3
  t4 := Tryd.underlying4
  a4 := Tryd.isAgg4
  z4 := Tryd.sizeOf4
  v4 := Tryd.zeroValue4
  t5 := Tryd.underlying5
  a5 := Tryd.isAgg5
  z5 := Tryd.sizeOf5
  v5 := Tryd.zeroValue5
  t9 := Tryd.underlying9
  a9 := Tryd.isAgg9
  z9 := Tryd.sizeOf9
  v9 := Tryd.zeroValue9
  t21 := Tryd.underlying21
  a21 := Tryd.isAgg21
  z21 := Tryd.sizeOf21
  v21 := Tryd.zeroValue21
  t31 := Tryd.underlying100
  a31 := Tryd.isAgg100
  z31 := Tryd.sizeOf100
  v31 := Tryd.zeroValue100
  t46 := Tryd.underlying111
  a46 := Tryd.isAgg111
  z46 := Tryd.sizeOf111
  v46 := Tryd.zeroValue111
  t51 := Tryd.underlying124
  a51 := Tryd.isAgg124
  z51 := Tryd.sizeOf124
  v51 := Tryd.zeroValue124
  t105 := Tryd.underlying148
  a105 := Tryd.isAgg148
  z105 := Tryd.sizeOf148
  v105 := Tryd.zeroValue148
  t119 := Tryd.underlying162
  a119 := Tryd.isAgg162
  z119 := Tryd.sizeOf162
  t138 := Tryd.underlying164
  a138 := Tryd.isAgg164
  z138 := Tryd.sizeOf164
  v138 := Tryd.zeroValue164
  t139 := Tryd.underlying165
  a139 := Tryd.isAgg165
  z139 := Tryd.sizeOf165
  v139 := Tryd.zeroValue165
  t146 := Tryd.underlying166
  a146 := Tryd.isAgg166
  z146 := Tryd.sizeOf166
  v146 := Tryd.zeroValue166
  g1 := by kernel_rfl
  g3 := by kernel_rfl
  g4 := by kernel_rfl }
end Go.Proofs


namespace Go.Proofs.YtefppgmopnnphaaDoor
open Go Go.E Go.RowKit Go.Shelf Go.Sort Go.Lib
set_option maxRecDepth 100000
set_option maxHeartbeats 6400000
set_option linter.unusedSimpArgs false
theorem holds_zero0 (w : World) (T : TypeId) (nd : Nat) (hs : nd ≤ 24) : Holds (fun (b : UInt8) => Value.int .u8 (b.toNat : Int)) (w.alloc (.cells zeros24 T)) w.heap.size 0 (Array.replicate nd (0 : UInt8)) := fun j hj => by
  have hj' : j < nd := by simpa using hj
  refine ⟨?_, World.frozen?_alloc_new _ _ _ _⟩
  rw [World.cell?_alloc_new, zeros24_at _ (by omega), getElem!_pos _ j hj]
  simp
theorem fin_pos0 (w : World) (o : Obj) (dk : Array UInt8) (k : Nat) : ∃ os, (putRow (fun (b : UInt8) => Value.int .u8 (b.toNat : Int)) (w.alloc o) w.heap.size 0 dk).drewN k = grow (w.drewN k) os := by
  rw [alloc_eq_grow]
  obtain ⟨os', _, e⟩ := putRow_grow_new (fun (b : UInt8) => Value.int .u8 (b.toNat : Int)) w #[o] w.heap.size 0 dk (Nat.le_refl _)
  exact ⟨os', by rw [e]; rfl⟩
def TabW (w : World) : Prop := ∀ i, i < 20 → w.cell? ⟨0, i, none⟩ = some (.int .u64 ((10 ^ i : Nat) : Int))
theorem tabW_alloc {w : World} (h : TabW w) (o : Obj) : TabW (w.alloc o) := fun i hi => by
  have h' := h i hi
  have hlt : 0 < w.heap.size := by
    rcases Nat.lt_or_ge 0 w.heap.size with h1 | h1
    · exact h1
    · simp [World.cell?, Array.getElem?_eq_none h1] at h'
  unfold World.cell? at h' ⊢
  rw [RowKit.Below.heap_alloc w o _ hlt]
  exact h'
theorem numD_run (u : Nat) (h1 : 1 ≤ u) (h2 : u < 18446744073709551616) (w : World) (htab : TabW w) :
    Calls Tryd.prog 67 #[.int .u64 u] w fun e w' => e = .returned (.int .i64 (Lib.nDigits u)) ∧ w' = w := by
  have e129 : ∀ args w, (callFunc 64 args).run Tryd.prog w = .ok (.enter 64 args) w := enters_of Tryd.func64 (by kernel_rfl) rfl
  have e317 : ∀ args w, (callFunc 81 args).run Tryd.prog w = .ok (.enter 81 args) w := enters_of Tryd.func81 (by kernel_rfl) rfl
  have e318 : ∀ args w, (callFunc 82 args).run Tryd.prog w = .ok (.enter 82 args) w := enters_of Tryd.func82 (by kernel_rfl) rfl
  obtain ⟨hnd, h19⟩ := Lib.numDigits_eq u h1 h2
  have hL : Lib.bitLen u ≤ 64 := Lib.bitLen_le u 64 (Nat.le_refl _) h2
  have hcell := htab (Lib.l10 (Lib.bitLen u)) (by omega)
  have hto : ((u : Int)).toNat = u := by omega
  generalize hq : Lib.l10 (Lib.bitLen u) = q at hnd h19 hcell
  generalize hT : 10 ^ q = T at hnd hcell
  have h20 : q < 20 := by omega
  have Hnd := Lib.hid hnd
  clear hnd htab
  go_enter Tryd.func67, Tryd.ntmps67
  go_wp2_with (first
    | (go_at_fn 64; refine (Any.bits_Len64 (P := Tryd.prog) (ρ := Tryd.laysM246_ren) { Tryd.laysM246 with } _ _ (by omega) (by omega)).mono ?_; rintro e w' ⟨rfl, rfl⟩)
    | (go_at_fn 81; refine (Any.internal_strconv_log10Pow2 (P := Tryd.prog) (ρ := Tryd.laysM246_ren) { Tryd.laysM246 with } _ (by first | exact hL | (rw [hto]; exact hL)) _).mono ?_; rintro e w' ⟨rfl, rfl⟩)
    | (go_at_fn 82; refine (Any.internal_strconv_bool2_int (P := Tryd.prog) (ρ := Tryd.laysM246_ren) { Tryd.laysM246 with } _ _).mono ?_; rintro e w' ⟨rfl, rfl⟩))
  all_goals go_ret
  all_goals (
    refine ⟨?_, rfl⟩
    have hnd := Hnd.out
    congr 2
    split at hnd <;> simp_all <;> omega)
theorem fmtU_run (u : Nat) (h : u < 18446744073709551616) (w : World) (htab : TabW w) :
    Calls Tryd.prog 50 #[.int .u64 u, .int .i64 10] w fun e w' => e = .returned (.string ⟨(Lib.decDigits u).toArray⟩) ∧ ∃ k os, w' = grow (w.drewN k) os := by
  have e283 : ∀ args w, (callFunc 66 args).run Tryd.prog w = .ok (.enter 66 args) w := enters_of Tryd.func66 (by kernel_rfl) rfl
  have e284 : ∀ args w, (callFunc 67 args).run Tryd.prog w = .ok (.enter 67 args) w := enters_of Tryd.func67 (by kernel_rfl) rfl
  have e285 : ∀ args w, (callFunc 68 args).run Tryd.prog w = .ok (.enter 68 args) w := enters_of Tryd.func68 (by kernel_rfl) rfl
  by_cases hs : u < 100
  · go_enter Tryd.func50, Tryd.ntmps50
    go_wp2_with (go_at_fn 66; refine (Any.internal_strconv_small { Tryd.laysM246 with } u hs _).mono ?_; rintro e w' ⟨rfl, rfl⟩)
    go_ret
    exact ⟨rfl, 0, #[], by simp [World.drewN_zero]⟩
  · have hu1 : 1 ≤ u := by omega
    have hnd20 : Lib.nDigits u ≤ 20 := by have := Lib.numDigits_eq u hu1 h; split at this <;> omega
    have hal : Tryd.prog.arrayLen 129 = 24 := by kernel_rfl
    have hsl1 : ∀ W, (Instr.sliceAt 129 (.pointer (some ⟨w.heap.size, 0, none⟩)) none (some (.int .i64 (Lib.nDigits u : Int))) none).run Tryd.prog W = .ok (.slice (some ⟨w.heap.size, 0, none⟩) (Lib.nDigits u) 24) W := fun W => by
      rw [run_sliceAt_array_h W 129 ⟨w.heap.size, 0, none⟩ (by kernel_rfl) .i64 (Lib.nDigits u : Int) (by omega) (by rw [hal]; omega)]
      go_simp
    have hH0 := holds_zero0 w 129 (Lib.nDigits u) (by omega)
    have hfmt := Any.internal_strconv_formatBase10 (P := Tryd.prog) (ρ := Tryd.laysM246_ren) { Tryd.laysM246 with } w.heap.size 0 24 u (Array.replicate (Lib.nDigits u) 0) (w.alloc (.cells Lib.zeros24 129)) hH0 (by rw [Array.size_replicate]; exact Lib.lt_pow_nDigits u) h (by rw [Array.size_replicate]; omega)
    rw [Array.size_replicate] at hfmt
    have HH0 := Lib.hid hH0
    clear hH0 hal
    go_enter Tryd.func50, Tryd.ntmps50
    go_wp2_with (first
      | (go_at_fn 67; refine (numD_run u hu1 h _ (tabW_alloc htab _)).mono ?_; rintro e w' ⟨rfl, rfl⟩))
    go_at_fn 68
    refine hfmt.mono ?_
    rintro e w' ⟨rfl, k, v', dk, rfl, hF⟩
    have hcv : (convert 88 9 (.slice (some ⟨w.heap.size, 0, none⟩) (Lib.nDigits u) 24)).run Tryd.prog ((putRow (fun (b : UInt8) => Value.int .u8 (b.toNat : Int)) (w.alloc (.cells Lib.zeros24 129)) w.heap.size 0 dk).drewN k) = .ok (.string ⟨(Lib.decDigits u).toArray⟩) ((putRow (fun (b : UInt8) => Value.int .u8 (b.toNat : Int)) (w.alloc (.cells Lib.zeros24 129)) w.heap.size 0 dk).drewN k) := by
      have h := run_convert_bytes_back (P := Tryd.prog) ((putRow (fun (b : UInt8) => Value.int .u8 (b.toNat : Int)) (w.alloc (.cells Lib.zeros24 129)) w.heap.size 0 dk).drewN k) 88 9 5 ⟨w.heap.size, 0, none⟩ 24 (Lib.decDigits u) (by kernel_rfl) (by kernel_rfl) (by kernel_rfl) (fun j hj => by
        rw [Lib.row_is_numeral hF j hj, Lib.add_plain, World.cell?_drewN]
        exact cell?_putRow (fun (b : UInt8) => Value.int .u8 (b.toNat : Int)) _ w.heap.size 0 _ dk HH0.out (by rw [hF.size, Array.size_replicate]) j (by rw [hF.size]; rw [Lib.decDigits_length] at hj; exact hj))
      rw [Lib.decDigits_length] at h
      exact h
    go_wp2
    go_ret
    obtain ⟨os, eo⟩ := fin_pos0 w (.cells Lib.zeros24 129) dk k
    exact ⟨rfl, k, os, eo⟩
theorem tabW_of {Γ : G} {w : World} {s : S} (c : Conc Γ w s) (h : Γ.gl 0 = some (.arr 20 (.int .u64), .agg (Go.Lib.pow10Tab.map C.int))) : TabW w := fun i hi => by
  obtain ⟨l, h1, h2, h3⟩ := c.hgl _ _ _ h
  obtain ⟨arr, T, fr, r, h4, h5⟩ := c.hH _ _ h1
  simp only [RepC] at h3
  obtain ⟨cs, e, _, _, _, hr⟩ := h3
  cases e
  have hi' : (Go.Lib.pow10Tab.map C.int)[i]? = some (.int ((10 ^ i : Nat) : Int)) := by
    have h6 := Go.Lib.pow10Tab_at i hi
    have h7 := Go.Lib.pow10Tab_length
    rw [List.getElem?_map]
    rw [List.getD_eq_getElem?_getD] at h6
    cases h8 : Go.Lib.pow10Tab[i]? with
    | none => rw [List.getElem?_eq_none_iff] at h8; omega
    | some z => rw [h8] at h6; simp only [Option.getD_some] at h6; rw [h6]; rfl
  have h9 := hr _ _ hi'
  have m1 : IntKind.u64.min = 0 := by decide
  simp only [RepC, Ty.size, Nat.mul_one] at h9 h2
  obtain ⟨n, h11, h10, _, _⟩ := h9
  cases h11
  have h12 : (chunk (chunk l 0 (20 * 1)) i 1)[0]? = some (.int .u64 ((10 ^ i : Nat) : Int)) := by rw [h10]; rfl
  have h13 : l[i]? = some (.int .u64 ((10 ^ i : Nat) : Int)) := by
    simp only [chunk, List.drop_zero, List.getElem?_take, List.getElem?_drop] at h12
    simp at h12
    exact h12.2
  unfold World.cell?
  simp only [h4]
  have h14 : arr[i]? = some (.int .u64 ((10 ^ i : Nat) : Int)) := by
    have hl : i < l.length := by omega
    rw [← Array.getElem?_toList, h5, List.getElem?_append_left hl]
    exact h13
  simpa using h14
theorem ext_grow (w : World) (k : Nat) (os : Array Obj) : Ext w (grow (w.drewN k) os) := by
  refine ⟨?_, fun b hb => ?_, ?_⟩
  · simp [grow, World.drewN]
  · simp [grow, World.drewN, Array.getElem?_append, hb]
  · rfl
theorem decDigits_le (u : Nat) (h : u < 18446744073709551616) : (Lib.decDigits u).length ≤ 20 := by
  rw [Lib.decDigits_length]
  by_cases h1 : 1 ≤ u
  · have := Lib.numDigits_eq u h1 h; split at this <;> omega
  · have : u = 0 := by omega
    subst this; simp [Lib.nDigits]
def decF : Nat → Nat → List UInt8
  | 0, _ => []
  | f + 1, n => bif Nat.blt n 10 then [UInt8.ofNat (48 + n)] else decF f (n / 10) ++ [UInt8.ofNat (48 + n % 10)]
def decU (n : Nat) : List UInt8 := decF 20 n
theorem decF_eq : ∀ (f n : Nat), n < 10 ^ (f + 1) → decF (f + 1) n = Lib.decDigits n
  | f, n, h => by
    rw [Lib.decDigits, decF]
    by_cases hn : n < 10
    · rw [dif_pos hn, show Nat.blt n 10 = true from by simpa [Nat.blt_eq] using hn]; rfl
    · rw [dif_neg hn, show Nat.blt n 10 = false from by rw [← Bool.not_eq_true, Nat.blt_eq]; exact hn]
      cases f with
      | zero => simp at h; omega
      | succ f =>
        have h' : n / 10 < 10 ^ (f + 1) := by rw [Nat.pow_succ] at h; omega
        rw [cond_false, decF_eq f (n / 10) h']
theorem decU_eq (n : Nat) (h : n < 18446744073709551616) : decU n = Lib.decDigits n := decF_eq 19 n (Nat.lt_of_lt_of_le h (by decide))
theorem fmtU_calls (A : Key → Option O) (c : C) : DCalls (X0 gl0) 50 [.d (.int .u64) c, .d (.int .i64) (.int 10)] A (.d .str (.str (decU c.toInt.toNat))) [] := by
  intro A' Γ w args hA' hg hc hn hr
  obtain ⟨cc, hok⟩ := hc
  have hs : args.size = 2 := hn.symm
  obtain ⟨e1, _, h1, h2⟩ := repV_int (hr 0 _ _ rfl (Array.getElem?_eq_getElem (by omega)))
  obtain ⟨e2, _, _, _⟩ := repV_int (hr 1 _ _ rfl (Array.getElem?_eq_getElem (by omega)))
  have m1 : IntKind.u64.min = 0 := by decide
  have m2 : IntKind.u64.max = 18446744073709551615 := by decide
  have ea : args = #[.int .u64 (c.toInt.toNat : Int), .int .i64 10] := by
    apply Array.ext
    · simpa using hs
    · intro i h1 h2
      match i with
      | 0 =>
        have : ((c.toInt.toNat : Nat) : Int) = c.toInt := by omega
        simpa [this] using e1
      | 1 => simpa [C.toInt] using e2
      | i + 2 => omega
  rw [ea]
  refine (fmtU_run c.toInt.toNat (by omega) w (tabW_of cc (by rw [hg]; rfl))).mono fun e w' he => ?_
  obtain ⟨he1, k, os, he2⟩ := he
  subst he2
  refine ⟨_, Γ, he1, .refl Γ, (cc.ext (ext_grow w k os)).congr (fun _ => rfl) (fun _ => rfl) (fun _ h => h), ?_⟩
  have := decDigits_le c.toInt.toNat (by omega)
  rw [decU_eq _ (by omega)]
  exact repV_mk_str (by omega)
noncomputable def fmtU_g (_ : Nat) {R : Type} : OvG R := fun xs _ K => match xs with
  | [.d (.int .u64) c, .d (.int .i64) (.int b)] => if b = 10 then K (.d .str (.str (decU c.toInt.toNat))) [] else none
  | _ => none
theorem fmtU_ok (N : Nat) {R : Type} : GOk (X0 gl0) 50 (fmtU_g N (R := R)) := by
  intro xs A Kr r hr
  unfold fmtU_g at hr
  split at hr
  · rename_i c b
    by_cases hb : b = 10
    · subst hb
      exact ⟨_, _, fmtU_calls A c, by simpa using hr⟩
    · rw [if_neg hb] at hr; cases hr
  · cases hr
end Go.Proofs.YtefppgmopnnphaaDoor


namespace Go.Proofs.YtefppgmopnnphaaDoor
open Go Go.E Go.RowKit Go.Shelf
set_option maxRecDepth 100000
set_option maxHeartbeats 6400000
set_option linter.unusedSimpArgs false
theorem byte_info : ∃ i z, Tryd.prog.info? 5 = some i ∧ i.zero = some z ∧ i.size = 1 ∧ i.bytes = 1 ∧ z.cells.size = 1 := by
  have h : ((Tryd.prog.info? 5).map fun i => (i.size, i.bytes, i.zero.map fun z => z.cells.size)) = some (1, 1, some 1) := by kernel_rfl
  obtain ⟨i, hi, h2⟩ := Option.map_eq_some_iff.1 h
  simp only [Prod.mk.injEq] at h2
  obtain ⟨h3, h4, h5⟩ := h2
  obtain ⟨z, hz, h6⟩ := Option.map_eq_some_iff.1 h5
  exact ⟨i, z, hi, hz, h3, h4, h6⟩
theorem bld_lies : liesAt Tryd.prog Tryd.prog.depth 90 (2 / Tryd.prog.cellsOf 90) 0 90 1 = true := by kernel_rfl
theorem bld_info : (Tryd.prog.info? 90).map (·.size) = some 2 := by kernel_rfl
theorem copy_fresh (b : Nat) (w : World) (v : Value) (hw : w.heap[b]? = some (.cells #[.pointer none, v] 90 (0, 0))) :
    Calls Tryd.prog 49 #[.pointer (some ⟨b, 0, none⟩)] w fun e w' => e = .returned (.tuple #[]) ∧ w' = w.setCell ⟨b, 0, none⟩ (.pointer (some ⟨b, 0, none⟩)) := by
  obtain ⟨j, hj, hjs⟩ := Option.map_eq_some_iff.1 bld_info
  have h0 : w.cell? ⟨b, 0, none⟩ = some (.pointer none) := by rw [Lib.cell_of_heap hw]; rfl
  have hsh : w.shape? b = some (90, 2) := by simp [World.shape?, hw]
  have hfz : w.frozen? ⟨b, 0, none⟩ = false := Lib.frozen_of_heap hw 0
  go_enter Tryd.func49, Tryd.ntmps49
  go_wp2
  rw [Lib.run_to_unsafe w ⟨b, 0, none⟩ (t := 90) (by kernel_rfl) (by kernel_rfl) hj (by rw [hjs]; decide) hsh (Nat.zero_lt_succ 1)]
  simp only [Result.andThen]
  rw [Oper.upon_value]
  go_wp2
  rw [run_callFunc_extern Tryd.func65 (by kernel_rfl) (by kernel_rfl) (by kernel_rfl) (e := Extern.AbiNoEscape.same) (by kernel_rfl)]
  rw [Lib.run_noEscape]
  simp only [Result.andThen]
  rw [Oper.upon_value]
  go_wp2
  rw [Lib.run_from_unsafe w ⟨b, 0, none⟩ (u := 90) (by kernel_rfl) (by kernel_rfl) hj hsh bld_lies]
  simp only [Result.andThen]
  rw [Oper.upon_value]
  go_wp2
  go_end0
  exact ⟨rfl, rfl⟩
theorem copy_used (b : Nat) (w : World) (v : Value) (hw : w.heap[b]? = some (.cells #[.pointer (some ⟨b, 0, none⟩), v] 90 (0, 0))) :
    Calls Tryd.prog 49 #[.pointer (some ⟨b, 0, none⟩)] w fun e w' => e = .returned (.tuple #[]) ∧ w' = w := by
  obtain ⟨j, hj, hjs⟩ := Option.map_eq_some_iff.1 bld_info
  have h0 : w.cell? ⟨b, 0, none⟩ = some (.pointer (some ⟨b, 0, none⟩)) := by rw [Lib.cell_of_heap hw]; rfl
  go_enter Tryd.func49, Tryd.ntmps49
  go_wp2
  rw [Lib.run_neq_ptr_same w _ (te := 90) (by kernel_rfl) hj]
  go_wp2
  go_end0
  exact ⟨rfl, rfl⟩
theorem copy_any (b : Nat) (w : World) (adr v : Value) (hw : w.heap[b]? = some (.cells #[adr, v] 90 (0, 0))) (ha : adr = .pointer none ∨ adr = .pointer (some ⟨b, 0, none⟩)) :
    Calls Tryd.prog 49 #[.pointer (some ⟨b, 0, none⟩)] w fun e w' => e = .returned (.tuple #[]) ∧ oof w' = oof w ∧ w'.heap.size = w.heap.size ∧ w'.heap[b]? = some (.cells #[.pointer (some ⟨b, 0, none⟩), v] 90 (0, 0)) ∧ ∀ b2, b2 ≠ b → w'.heap[b2]? = w.heap[b2]? := by
  rcases ha with rfl | rfl
  · refine (copy_fresh b w v hw).mono ?_
    rintro e w' ⟨rfl, rfl⟩
    refine ⟨rfl, rfl, by simp [World.setCell], by simp [World.setCell, Array.getElem?_modify, hw], fun b2 h => ?_⟩
    have : b ≠ b2 := fun e => h e.symm
    simp [World.setCell, Array.getElem?_modify, this]
  · refine (copy_used b w v hw).mono ?_
    rintro e w' ⟨rfl, rfl⟩
    exact ⟨rfl, rfl, rfl, hw, fun _ _ => rfl⟩
def Wrote (w w' : World) (b : Nat) (v : Value) (l l' : List UInt8) : Prop := oof w' = oof w ∧ w.heap.size ≤ w'.heap.size ∧ ∃ v', w'.heap[b]? = some (.cells #[.pointer (some ⟨b, 0, none⟩), v'] 90 (0, 0)) ∧
  ((v' = v ∧ l' = l ∧ ∀ b2, b2 < w.heap.size → b2 ≠ b → w'.heap[b2]? = w.heap[b2]?) ∨
      ∃ g cap arr, v' = .slice (some ⟨g, 0, none⟩) l'.length cap ∧ w'.heap[g]? = some (.cells arr 5 (0, 0)) ∧ arr.size = cap ∧ arr.toList.take l'.length = bytesV l' ∧ l'.length ≤ cap ∧ cap ≤ maxLen ∧ 0 < cap ∧
        (w.heap.size ≤ g ∨ v = .slice (some ⟨g, 0, none⟩) l.length cap) ∧ ∀ b2, b2 < w.heap.size → b2 ≠ g → b2 ≠ b → w'.heap[b2]? = w.heap[b2]?)
theorem rowB_other {w w' : World} {v : Value} {l : List UInt8} {b : Nat} (h : RowB w v l) (hb : ∀ g n c, v = .slice (some ⟨g, 0, none⟩) n c → g ≠ b) (hs : ∀ b2, b2 ≠ b → w'.heap[b2]? = w.heap[b2]?) : RowB w' v l := by
  rcases h with h | ⟨g, cap, arr, rfl, h1, h2⟩
  · exact .inl h
  · exact .inr ⟨g, cap, arr, rfl, by rw [hs g (hb g _ _ rfl)]; exact h1, h2⟩
theorem wrote_of {w w1 w2 w3 : World} {b : Nat} {v v' : Value} {l l' : List UInt8} (hlt : b < w.heap.size) (hvb : ∀ g n c, v = .slice (some ⟨g, 0, none⟩) n c → g ≠ b)
    (h1 : oof w1 = oof w) (h2 : w.heap.size ≤ w1.heap.size) (h3 : w1.heap[b]? = some (.cells #[.pointer (some ⟨b, 0, none⟩), v] 90 (0, 0))) (h4 : ∀ b2, b2 < w.heap.size → b2 ≠ b → w1.heap[b2]? = w.heap[b2]?)
    (hg : Grew w1 w2 v v' l l') (h5 : w3 = w2.setCell ⟨b, 1, none⟩ v') : Wrote w w3 b v l l' := by
  obtain ⟨g1, g2, g3⟩ := hg
  have hb2 : w2.heap[b]? = some (.cells #[.pointer (some ⟨b, 0, none⟩), v] 90 (0, 0)) := by
    rcases g3 with ⟨_, _, g4⟩ | ⟨g, cap, arr, _, e2, _, _, _, _, _, e8, e9⟩
    · rw [g4 b (by omega)]; exact h3
    · have hne : b ≠ g := by
        rcases e8 with e8 | e8
        · omega
        · exact (hvb _ _ _ e8).symm
      rw [e9 b (by omega) hne]; exact h3
  have hoth : ∀ b2, b2 ≠ b → w3.heap[b2]? = w2.heap[b2]? := fun b2 h => by
    have : b ≠ b2 := fun e => h e.symm
    rw [h5]; simp [World.setCell, Array.getElem?_modify, this]
  refine ⟨by rw [h5]; exact g1.trans h1, by rw [h5]; simp [World.setCell]; omega, v', by rw [h5]; simp [World.setCell, Array.getElem?_modify, hb2], ?_⟩
  rcases g3 with ⟨rfl, rfl, g4⟩ | ⟨g, cap, arr, e1, e2, e3, e4, e5, e6, e7, e8, e9⟩
  · exact .inl ⟨rfl, rfl, fun b2 hb hn => by rw [hoth b2 hn, g4 b2 (by omega), h4 b2 hb hn]⟩
  · have hne : g ≠ b := by
      rcases e8 with e8 | e8
      · omega
      · exact hvb _ _ _ e8
    refine .inr ⟨g, cap, arr, e1, by rw [hoth g hne]; exact e2, e3, e4, e5, e6, e7, e8.imp (fun h => by omega) id, fun b2 hb hn hn' => ?_⟩
    rw [hoth b2 hn', e9 b2 (by omega) hn, h4 b2 hb hn']
theorem wstr_run (b : Nat) (w : World) (adr v : Value) (l s : List UInt8) (hw : w.heap[b]? = some (.cells #[adr, v] 90 (0, 0))) (ha : adr = .pointer none ∨ adr = .pointer (some ⟨b, 0, none⟩)) (hv : RowB w v l) (hvb : ∀ g n c, v = .slice (some ⟨g, 0, none⟩) n c → g ≠ b) (hl : (l ++ s).length ≤ 140737488355328) :
    Calls Tryd.prog 36 #[.pointer (some ⟨b, 0, none⟩), .string ⟨s.toArray⟩] w fun e w' => e = .returned (.tuple #[.int .i64 s.length, .nilIface]) ∧ Wrote w w' b v l (l ++ s) := by
  obtain ⟨i, z, hi, hz, i1, i2, i3⟩ := byte_info
  have hlt : b < w.heap.size := lt_of_heap hw
  have e240 : ∀ args w, (callFunc 49 args).run Tryd.prog w = .ok (.enter 49 args) w := enters_of Tryd.func49 (by kernel_rfl) rfl
  have hsz : (⟨s.toArray⟩ : ByteArray).size = s.length := by simp [ByteArray.size]
  go_enter Tryd.func36, Tryd.ntmps36
  go_wp2_with (go_at_fn 49; refine (copy_any b w adr v hw ha).mono ?_)
  rintro e w1 ⟨rfl, h1, h2, h3, h4⟩
  have c0 : w1.cell? ⟨b, 0, none⟩ = some (.pointer (some ⟨b, 0, none⟩)) := by rw [Lib.cell_of_heap h3]; rfl
  have c1 : w1.cell? ⟨b, 1, none⟩ = some v := by rw [Lib.cell_of_heap h3]; rfl
  have hv1 := rowB_other hv hvb h4
  go_wp2_with (at_builtin; refine wpList_append_bld rfl _ _ 88 9 rfl (by kernel_rfl) hi hz i1 i2 i3 rfl rfl hl (by have := Src.ofString (P := Tryd.prog) (w := w1) (tx := 9) (by kernel_rfl) (⟨s.toArray⟩ : ByteArray); rw [hsz] at this; exact this) hv1 ?_)
  intro v' w2 hg
  have hb2 : w2.heap[b]? = some (.cells #[.pointer (some ⟨b, 0, none⟩), v] 90 (0, 0)) := by
    rcases hg.2.2 with ⟨_, _, g4⟩ | ⟨g, cap, arr, _, e2, _, _, _, _, _, e8, e9⟩
    · rw [g4 b (by omega)]; exact h3
    · have hne : b ≠ g := by
        rcases e8 with e8 | e8
        · omega
        · exact (hvb _ _ _ e8).symm
      rw [e9 b (by omega) hne]; exact h3
  have d0 : w2.cell? ⟨b, 0, none⟩ = some (.pointer (some ⟨b, 0, none⟩)) := by rw [Lib.cell_of_heap hb2]; rfl
  have d1 : w2.cell? ⟨b, 1, none⟩ = some v := by rw [Lib.cell_of_heap hb2]; rfl
  have f1 : w2.frozen? ⟨b, 1, none⟩ = false := Lib.frozen_of_heap hb2 1
  have hone : v'.oneCell' = true := by
    rcases hg.2.2 with ⟨rfl, _⟩ | ⟨g, cap, arr, rfl, _⟩
    · rcases hv with ⟨rfl, _⟩ | ⟨_, _, _, rfl, _⟩ <;> rfl
    · rfl
  obtain ⟨ao, n', cap, rfl⟩ : ∃ ao n' cap, v' = .slice ao n' cap := by
    rcases hg.2.2 with ⟨rfl, _⟩ | ⟨g, cap, arr, rfl, _⟩
    · rcases hv with ⟨rfl, _⟩ | ⟨_, _, _, rfl, _⟩ <;> exact ⟨_, _, _, rfl⟩
    · exact ⟨_, _, _, rfl⟩
  go_wp2
  go_ret2
  exact ⟨by simp [hsz], wrote_of hlt hvb h1 (by omega) h3 (fun b2 _ h => h4 b2 h) hg rfl⟩
theorem uns_none (W : World) (q : Option Addr) : (Builtin.unsafeString_ #[112, 3] 9 #[.pointer q, .int .i64 0]).run Tryd.prog W = .ok (.string .empty) W :=
  Lib.run_unsafeString_none W _ _ _ q
theorem bstr_run (b : Nat) (w : World) (adr v : Value) (l : List UInt8) (hw : w.heap[b]? = some (.cells #[adr, v] 90 (0, 0))) (hv : RowB w v l) (hlen : l.length ≤ 140737488355328) :
    Calls Tryd.prog 38 #[.pointer (some ⟨b, 0, none⟩)] w fun e w' => e = .returned (.string ⟨l.toArray⟩) ∧ oof w' = oof w ∧ w'.heap.size = w.heap.size ∧
      ((∀ b2 : Nat, w'.heap[b2]? = w.heap[b2]?) ∨ ∃ (g cap : Nat) (arr : Array Value) (fr : Nat × Nat), v = .slice (some ⟨g, 0, none⟩) l.length cap ∧ w.heap[g]? = some (.cells arr 5 (0, 0)) ∧ w'.heap[g]? = some (.cells arr 5 fr) ∧ ∀ b2 : Nat, b2 ≠ g → w'.heap[b2]? = w.heap[b2]?) := by
  have mixed : Tryd.prog.follows Departure.mixedOrders = true := by kernel_rfl
  rcases hv with ⟨rfl, rfl⟩ | ⟨g, cap, arr, rfl, h1, h2, h3, h4, h5, h6⟩
  · have hUS := uns_none
    have c1 : w.drew.cell? ⟨b, 1, none⟩ = some (.slice none 0 0) := by
      have : w.drew.heap[b]? = some (.cells #[adr, .slice none 0 0] 90 (0, 0)) := hw
      rw [Lib.cell_of_heap this]; rfl
    have hSD : (Builtin.unsafeSliceData_ #[88] 112 #[.slice none 0 0]).run Tryd.prog w.drew = .ok (.pointer none) w.drew := rfl
    go_enter Tryd.func38, Tryd.ntmps38
    go_wp2
    go_region_o
    all_goals (go_wp2; go_ret; exact ⟨rfl, rfl, rfl, .inl fun _ => rfl⟩)
  · by_cases hl : l = []
    · subst hl
      have hUS := uns_none
      have c1 : w.drew.cell? ⟨b, 1, none⟩ = some (.slice (some ⟨g, 0, none⟩) 0 cap) := by
        have : w.drew.heap[b]? = some (.cells #[adr, .slice (some ⟨g, 0, none⟩) 0 cap] 90 (0, 0)) := hw
        rw [Lib.cell_of_heap this]; rfl
      have hSD : (Builtin.unsafeSliceData_ #[88] 112 #[.slice (some ⟨g, 0, none⟩) 0 cap]).run Tryd.prog w.drew = .ok (.pointer (some ⟨g, 0, none⟩)) w.drew :=
        Lib.run_unsafeSliceData_row _ _ _ _ _ _ (by omega)
      go_enter Tryd.func38, Tryd.ntmps38
      go_wp2
      go_region_o
      all_goals (go_wp2; go_ret; exact ⟨rfl, rfl, rfl, .inl fun _ => rfl⟩)
    · have c1 : w.drew.cell? ⟨b, 1, none⟩ = some (.slice (some ⟨g, 0, none⟩) l.length cap) := by
        have : w.drew.heap[b]? = some (.cells #[adr, .slice (some ⟨g, 0, none⟩) l.length cap] 90 (0, 0)) := hw
        rw [Lib.cell_of_heap this]; rfl
      have hSD : (Builtin.unsafeSliceData_ #[88] 112 #[.slice (some ⟨g, 0, none⟩) l.length cap]).run Tryd.prog w.drew = .ok (.pointer (some ⟨g, 0, none⟩)) w.drew :=
        Lib.run_unsafeSliceData_row _ _ _ _ _ _ (by omega)
      have hUS : (Builtin.unsafeString_ #[112, 3] 9 #[.pointer (some ⟨g, 0, none⟩), .int .i64 l.length]).run Tryd.prog w.drew = .ok (.string ⟨l.toArray⟩) (w.drew.freeze ⟨g, 0, none⟩ l.length) := by
        refine Lib.run_unsafeString_row w.drew 112 3 9 5 (by kernel_rfl) (by kernel_rfl) g arr.size (by have hg' : w.drew.heap[g]? = some (.cells arr 5 (0, 0)) := h1; simp [World.shape?, hg']) l hl (by omega) (by omega) ?_
        intro j x hx
        have hg' : w.drew.heap[g]? = some (.cells arr 5 (0, 0)) := h1
        have hb : (bytesV l)[j]? = some (.int .u8 (x.toNat : Int)) := by simp [bytesV, hx]
        rw [← h3, List.getElem?_take] at hb
        split at hb
        · rw [Array.getElem?_toList] at hb
          simp [World.cell?, Addr.add_lit, hg', hb]
        · cases hb
      have hll : l.length ≠ 0 := by simpa using hl
      have hfr : ∃ fr, (w.drew.freeze ⟨g, 0, none⟩ l.length).heap[g]? = some (.cells arr 5 fr) := by
        have hg' : w.drew.heap[g]? = some (.cells arr 5 (0, 0)) := h1
        simp [World.freeze, hll, Array.getElem?_modify, hg']
      have hot : ∀ b2, b2 ≠ g → (w.drew.freeze ⟨g, 0, none⟩ l.length).heap[b2]? = w.heap[b2]? := fun b2 h => by
        have : g ≠ b2 := fun e => h e.symm
        simp [World.freeze, hll, Array.getElem?_modify, this]
        rfl
      have hoo : oof (w.drew.freeze ⟨g, 0, none⟩ l.length) = oof w := by simp [World.freeze, hll, oof]; exact ⟨rfl, rfl⟩
      have hsz : (w.drew.freeze ⟨g, 0, none⟩ l.length).heap.size = w.heap.size := by simp [World.freeze, hll]
      go_enter Tryd.func38, Tryd.ntmps38
      go_wp2
      go_region_o
      all_goals (go_wp2; go_ret; exact ⟨rfl, hoo, hsz, .inr (by obtain ⟨fr, h⟩ := hfr; exact ⟨g, cap, arr, fr, rfl, h1, h, hot⟩)⟩)
theorem bld_open {A A' : Key → Option O} {Γ : G} {w : World} {xs : List V} {k : Key} {l : List UInt8} {T : TypeId} {v0 : Value} (c : Conc Γ w (S.start xs A')) (hA' : ∀ k o, A k = some o → A' k = some o) (hA : A k = some (.it l T)) (h0 : RepV Γ (.ptr (.g k) [] tBld) v0) :
    ∃ b adr v, v0 = .pointer (some ⟨b, 0, none⟩) ∧ (S.start xs A').obj (.g k) = some (.it l T) ∧ Γ.ι (.g k) = some (b, tBld) ∧ w.heap[b]? = some (.cells #[adr, v] T (0, 0)) ∧ (adr = .pointer none ∨ adr = .pointer (some ⟨b, 0, none⟩)) ∧ l.length ≤ 140737488355328 ∧ RowB w v l ∧ (∀ g n c, v = .slice (some ⟨g, 0, none⟩) n c → g ≠ b) ∧ OneC [adr, v] ∧
      ((v = .slice none 0 0 ∧ l = []) ∨ ∃ g cap, v = .slice (some ⟨g, 0, none⟩) l.length cap ∧ Γ.H g = some (bytesV l) ∧ Γ.κ g = some (.home (.g k) .bld, cap) ∧ l.length ≤ cap ∧ cap ≤ maxLen ∧ 0 < cap) := by
  have hobj : (S.start xs A').obj (.g k) = some (.it l T) := hA' _ _ hA
  obtain ⟨b, τ0, off, h1, h2, hpv⟩ := repV_ptr h0
  have e : (off, tBld) = (0, τ0) := by simpa [Ty.walk] using h2.symm
  cases e
  obtain ⟨b', adr, v, i1, i2, i3, i4, i5, i6, i7⟩ := c.own h1 hobj
  rw [h1] at i1; cases i1
  refine ⟨b, adr, v, hpv, hobj, h1, i4, i5, i6, c.bldRow i7, fun g n cc hv => ?_, ?_, i7⟩
  · intro e
    subst e
    rcases i7 with ⟨h, _⟩ | ⟨g, cap, h, q, _⟩
    · rw [hv] at h; cases h
    · rw [hv] at h; cases h
      rw [i2] at q; cases q
  · have ha : adr.oneCell' = true := by rcases i5 with rfl | rfl <;> rfl
    have hv : v.oneCell' = true := by rcases i7 with ⟨rfl, _⟩ | ⟨g, cap, rfl, _⟩ <;> rfl
    intro u hu
    simp at hu
    rcases hu with rfl | rfl
    · exact ha
    · exact hv
theorem wrote_conc {Γ : G} {w w' : World} {s : S} (c : Conc Γ w s) {k : Key} {l l' : List UInt8} {b : Nat} {adr v : Value} (ho : s.obj k = some (.it l 90)) (hι : Γ.ι k = some (b, tBld)) (hw : w.heap[b]? = some (.cells #[adr, v] 90 (0, 0)))
    (hv : (v = .slice none 0 0 ∧ l = []) ∨ ∃ g cap, v = .slice (some ⟨g, 0, none⟩) l.length cap ∧ Γ.H g = some (bytesV l) ∧ Γ.κ g = some (.home k .bld, cap) ∧ l.length ≤ cap ∧ cap ≤ maxLen ∧ 0 < cap) (hlen : l'.length ≤ 140737488355328) (hpre : ∃ m, l' = l ++ m) (h : Wrote w w' b v l l') :
    ∃ Γ', GLe Γ Γ' ∧ Pres Γ Γ' ∧ Conc Γ' w' { s with loc := (k, .it l' 90) :: s.loc } := by
  obtain ⟨h1, h2, v', h3, h4⟩ := h
  exact c.bldTo ho hι hw hv h1 h2 h3 (.inr rfl) hlen hpre h4
theorem wstr_calls {A : Key → Option O} {k : Key} {l : List UInt8} (hA : A k = some (.it l 90)) (c : C) (hl : (l ++ c.toStr).length ≤ 140737488355328) :
    DCalls (X0 gl0) 36 [.ptr (.g k) [] tBld, .d .str c] A (.tup [.d (.int .i64) (.int c.toStr.length), .d .iface .nil]) [(.g k, .it (l ++ c.toStr) 90)] := by
  intro A' Γ w args hA' hg hc hn hr
  obtain ⟨cc, hok⟩ := hc
  have hs : args.size = 2 := hn.symm
  obtain ⟨b, adr, v, hpv, hobj, hι, hw, ha, hll, hrow, hvb, h1c, hv⟩ := bld_open cc hA' hA (hr 0 _ _ rfl (Array.getElem?_eq_getElem (by omega)))
  obtain ⟨e1, _, _⟩ := repV_str (hr 1 _ _ rfl (Array.getElem?_eq_getElem (by omega)))
  have ea : args = #[.pointer (some ⟨b, 0, none⟩), .string ⟨c.toStr.toArray⟩] := by
    apply Array.ext
    · simpa using hs
    · intro i h1 h2
      match i with
      | 0 => simpa using hpv
      | 1 => simpa using e1
      | i + 2 => omega
  rw [ea]
  refine (wstr_run b w adr v l c.toStr hw ha hrow hvb hl).mono fun e w' he => ?_
  obtain ⟨he1, he2⟩ := he
  obtain ⟨Γ', g1, g2, g3⟩ := wrote_conc cc hobj hι hw hv hl ⟨_, rfl⟩ he2
  refine ⟨_, Γ', he1, g1, g3.congr (fun _ => rfl) (fun _ => rfl) (fun _ h => h), ?_⟩
  have m1 : IntKind.i64.min = -9223372036854775808 := by decide
  have m2 : IntKind.i64.max = 9223372036854775807 := by decide
  rw [List.length_append] at hl
  show RepV Γ' (.tup [.d (.int .i64) (.int (c.toStr.length : Int)), .d .iface .nil]) (.tuple #[.int .i64 (c.toStr.length : Int), .nilIface])
  refine ⟨#[.int .i64 (c.toStr.length : Int), .nilIface], rfl, ?_⟩
  show RepCaps Γ' [.d (.int .i64) (.int (c.toStr.length : Int)), .d .iface .nil] [.int .i64 (c.toStr.length : Int), .nilIface]
  simp only [RepCaps]
  refine ⟨_, _, rfl, ?_, rfl, _, _, rfl, ?_, rfl, rfl⟩
  · show RepX Γ' none [] (.d (.int .i64) (.int (c.toStr.length : Int))) [.int .i64 (c.toStr.length : Int)]
    have q : RepV Γ' (.d (.int .i64) (.int (c.toStr.length : Int))) (.int .i64 (c.toStr.length : Int)) := repV_mk_int (by omega) (by omega)
    simpa only [RepX, Value.cells] using (repV_d.1 q).1
  · show RepX Γ' none [] (.d .iface .nil) [.nilIface]
    have q : RepV Γ' (.d .iface .nil) .nilIface := repV_d.2 ⟨by simp [RepC, Value.cells], rfl⟩
    simpa only [RepX, Value.cells] using (repV_d.1 q).1
noncomputable def bld_WriteString_g (_ : Nat) {R : Type} : OvG R := fun xs A K => match xs with
  | [.ptr (.g k) [] τ, .d .str c] => (match A k with
    | some (.it l T) => if Ty.beq τ tBld = true ∧ T = 90 ∧ (l ++ c.toStr).length ≤ 140737488355328 then K (.tup [.d (.int .i64) (.int c.toStr.length), .d .iface .nil]) [(.g k, .it (l ++ c.toStr) 90)] else none
    | _ => none)
  | _ => none
theorem bld_WriteString_ok (N : Nat) {R : Type} : GOk (X0 gl0) 36 (bld_WriteString_g N (R := R)) := by
  intro xs A Kr r hr
  unfold bld_WriteString_g at hr
  split at hr
  · split at hr
    · rename_i hA
      simp only [Option.ite_none_right_eq_some] at hr
      obtain ⟨⟨h1, rfl, h3⟩, hr⟩ := hr
      rw [(Ty.beq_iff _ _).1 h1]
      exact ⟨_, _, wstr_calls hA _ h3, hr⟩
    · cases hr
  · cases hr
theorem bstr_calls {A : Key → Option O} {k : Key} {l : List UInt8} (hA : A k = some (.it l 90)) :
    DCalls (X0 gl0) 38 [.ptr (.g k) [] tBld] A (.d .str (.str l)) [(.g k, .box (.top tBld))] := by
  intro A' Γ w args hA' hg hc hn hr
  obtain ⟨cc, hok⟩ := hc
  have hs : args.size = 1 := hn.symm
  obtain ⟨b, adr, v, hpv, hobj, hι, hw, ha, hll, hrow, hvb, h1c, hv⟩ := bld_open cc hA' hA (hr 0 _ _ rfl (Array.getElem?_eq_getElem (by omega)))
  have ea : args = #[.pointer (some ⟨b, 0, none⟩)] := by
    apply Array.ext
    · simpa using hs
    · intro i h1 h2
      match i with
      | 0 => simpa using hpv
      | i + 1 => omega
  rw [ea]
  refine (bstr_run b w adr v l hw hrow hll).mono fun e w' he => ?_
  obtain ⟨he1, he2, he3, he4⟩ := he
  have key : ∃ Γ', GLe Γ Γ' ∧ Pres Γ Γ' ∧ Conc Γ' w' { S.start [.ptr (.g k) [] tBld] A' with loc := (.g k, .box (.top tBld)) :: (S.start [.ptr (.g k) [] tBld] A').loc } := by
    rcases he4 with h | ⟨g, cap, arr, fr, h1, h2, h3, h4⟩
    · exact cc.bldEnd hobj hι hw h1c he2 (by omega) none (fun g h => by cases h) fun b2 _ _ => h b2
    · refine cc.bldEnd hobj hι hw h1c he2 (by omega) (some g) (fun g' h => ?_) fun b2 _ h => h4 b2 fun e => h (by rw [e])
      cases h
      refine ⟨?_, arr, 5, fr, h2, h3⟩
      rcases hv with ⟨q, _⟩ | ⟨g2, cap2, q, _, q3, _⟩
      · rw [h1] at q; cases q
      · rw [h1] at q; cases q
        exact ⟨_, q3⟩
  obtain ⟨Γ', g1, g2, g3⟩ := key
  refine ⟨_, Γ', he1, g1, g3.congr (fun _ => rfl) (fun _ => rfl) (fun _ h => h), ?_⟩
  exact repV_mk_str hll
noncomputable def bld_String_g (_ : Nat) {R : Type} : OvG R := fun xs A K => match xs with
  | [.ptr (.g k) [] τ] => (match A k with
    | some (.it l T) => if Ty.beq τ tBld = true ∧ T = 90 then K (.d .str (.str l)) [(.g k, .box (.top tBld))] else none
    | _ => none)
  | _ => none
theorem bld_String_ok (N : Nat) {R : Type} : GOk (X0 gl0) 38 (bld_String_g N (R := R)) := by
  intro xs A Kr r hr
  unfold bld_String_g at hr
  split at hr
  · split at hr
    · rename_i hA
      simp only [Option.ite_none_right_eq_some] at hr
      obtain ⟨⟨h1, rfl⟩, hr⟩ := hr
      rw [(Ty.beq_iff _ _).1 h1]
      exact ⟨_, _, bstr_calls hA, hr⟩
    · cases hr
  · cases hr
end Go.Proofs.YtefppgmopnnphaaDoor


namespace Go.Proofs.YtefppgmopnnphaaDoor
open Go Go.E Go.RowKit Go.Shelf
set_option maxRecDepth 100000
set_option maxHeartbeats 6400000
set_option linter.unusedSimpArgs false
def splitU (b : UInt8) : List UInt8 → List (List UInt8)
  | [] => [[]]
  | c :: s => if c = b then [] :: splitU b s else match splitU b s with
    | [] => [[c]]
    | x :: l => (c :: x) :: l
theorem splitU_len (b : UInt8) : ∀ s, (splitU b s).length ≤ s.length + 1
  | [] => Nat.le_refl _
  | c :: s => by
    have ih := splitU_len b s
    unfold splitU
    split
    · simp only [List.length_cons]; omega
    · split
      · simp
      · rename_i h; rw [h] at ih; simp only [List.length_cons] at ih ⊢; omega
theorem splitU_mem (b : UInt8) : ∀ s, ∀ x ∈ splitU b s, x.length ≤ s.length
  | [], x, h => by simp [splitU] at h; simp [h]
  | c :: s, x, h => by
    have ih := splitU_mem b s
    unfold splitU at h
    split at h
    · rcases List.mem_cons.1 h with rfl | h
      · simp
      · have := ih x h; simp only [List.length_cons]; omega
    · split at h
      · simp at h; simp [h]
      · rename_i y l e
        rcases List.mem_cons.1 h with rfl | h
        · have := ih y (by rw [e]; simp); simp only [List.length_cons]; omega
        · have := ih x (by rw [e]; simp [h]); simp only [List.length_cons]; omega
theorem splitK_one (b : UInt8) : ∀ s : List UInt8, Lib.splitK [b] 0 (Lib.count s [b]) s = splitU b s
  | [] => by rw [Lib.count_one]; rfl
  | c :: s => by
    have ih := splitK_one b s
    by_cases hc : c = b
    · subst hc
      have hix : Lib.index (c :: s) [c] = ((0 : Nat) : Int) := by rw [Lib.index]; simp [List.isPrefixOf]
      rw [Lib.count_cons_eq, Nat.add_comm]
      unfold Lib.splitK splitU
      rw [hix, if_neg (by decide), if_pos rfl]
      simp [ih]
    · rw [Lib.count_cons_ne _ _ _ hc]
      unfold splitU
      rw [if_neg hc, ← ih]
      have hp : ([b] : List UInt8).isPrefixOf (c :: s) = false := by simp [List.isPrefixOf, Ne.symm hc]
      have hix : Lib.index (c :: s) [b] = if Lib.index s [b] == -1 then -1 else Lib.index s [b] + 1 := by rw [Lib.index, hp]; simp
      by_cases hm : Lib.index s [b] = -1
      · rw [Lib.count_miss hm]; rfl
      · have hge := Lib.index_ge s [b]
        obtain ⟨i, hi⟩ : ∃ i : Nat, Lib.index s [b] = i := ⟨(Lib.index s [b]).toNat, by omega⟩
        rw [Lib.count_hit (by simp) hi, Nat.add_comm]
        unfold Lib.splitK
        rw [hix, hi]
        have h1 : ((i : Int) == -1) = false := by rw [beq_eq_false_iff_ne]; omega
        simp only [h1, Bool.false_eq_true, if_false]
        have h2 : (((i : Int) + 1) == -1) = false := by rw [beq_eq_false_iff_ne]; omega
        simp only [h2, Bool.false_eq_true, if_false]
        have h3 : ((i : Int) + 1).toNat = i + 1 := by omega
        have h4 : (i : Int).toNat = i := by omega
        simp [h3, h4]
theorem split_run (s : ByteArray) (b : UInt8) (w : World) (hs : s.size < 4294967281) :
    Calls Tryd.prog 41 #[.string s, .string ⟨#[b]⟩] w fun e w' =>
      e = .returned (.slice (some ⟨w.heap.size, 0, none⟩) (Lib.countB s ⟨#[b]⟩ + 1) (Lib.countB s ⟨#[b]⟩ + 1)) ∧ w' = w.alloc (.cells ((Lib.splitB ⟨#[b]⟩ 0 (Lib.countB s ⟨#[b]⟩) s).map Value.string).toArray 9) := by
  have h1 : 1 ≤ (⟨#[b]⟩ : ByteArray).size := Nat.le_refl 1
  have hle := Lib.countB_le ⟨#[b]⟩ h1 s.size s (Nat.le_refl _)
  have hlen := Lib.splitB_all ⟨#[b]⟩ h1 0 _ s rfl
  have c := Any.strings_genSplit_core (P := Tryd.prog) (ρ := Tryd.lays146_ren) { Tryd.lays146 with } (by kernel_rfl) s ⟨#[b]⟩ 0 (-1) (Lib.countB s ⟨#[b]⟩ + 1) w hs h1 (Nat.zero_le _)
    (fun x c hx => (Tryd.strings_Index_one x b _).mono fun e w' ⟨he, hw⟩ => ⟨by rw [he]; show _ = Ending.returned (Value.int .i64 (Lib.index x.data.toList [b])); rw [Lib.index_one], hw⟩)
    ((Tryd.strings_Count_one s b w).mono fun e w' ⟨he, hw⟩ => ⟨by rw [he]; show _ = Ending.returned (Value.int .i64 ((Lib.count s.data.toList [b] : Nat) : Int)); rw [Lib.count_one]; rfl, hw⟩)
    (by decide) (by decide) (by rw [if_pos (by decide)]; omega)
  rw [Nat.add_sub_cancel, hlen] at c
  have e2 : Lib.cellsOf (Lib.splitB ⟨#[b]⟩ 0 (Lib.countB s ⟨#[b]⟩) s) (Lib.countB s ⟨#[b]⟩ + 1) = ((Lib.splitB ⟨#[b]⟩ 0 (Lib.countB s ⟨#[b]⟩) s).map Value.string).toArray := by rw [← hlen]; exact Lib.cellsOf_full _
  rw [e2] at c
  have e221 : ∀ args w, (callFunc 52 args).run Tryd.prog w = .ok (.enter 52 args) w := enters_of Tryd.func52 (by kernel_rfl) rfl
  go_enter Tryd.func41, Tryd.ntmps41
  go_wp2_with (go_at_fn 52; refine c.mono ?_; rintro e w' ⟨rfl, hw⟩; rw [hw])
  go_ret
  exact ⟨rfl, rfl⟩
theorem ext_below' {w w' : World} (h : Below w.heap.size w w') : Ext w w' := ⟨h.size, fun b hb => h.block b hb, by unfold oof; rw [h.os, h.output]⟩
theorem one_text {l : List UInt8} (h : l.length = 1) : l = [l.headD 0] := by
  match l, h with
  | [x], _ => rfl
theorem split_calls (A : Key → Option O) (s p : C) (h1 : p.toStr.length = 1) (hl : s.toStr.length < 4294967281) :
    DCalls (X0 gl0) 41 [.d .str s, .d .str p] A (.d (.slice 16 .str) (.slice ((splitU (p.toStr.headD 0) s.toStr).map C.str))) [] := by
  intro A' Γ w args hA' hg hc hn hr
  obtain ⟨cc, hok⟩ := hc
  have hs : args.size = 2 := hn.symm
  obtain ⟨e1, _, hb⟩ := repV_str (hr 0 _ _ rfl (Array.getElem?_eq_getElem (by omega)))
  obtain ⟨e2, _, _⟩ := repV_str (hr 1 _ _ rfl (Array.getElem?_eq_getElem (by omega)))
  rw [one_text h1] at e2
  generalize hbb : p.toStr.headD 0 = b at e2 ⊢
  have ea : args = #[.string ⟨s.toStr.toArray⟩, .string ⟨#[b]⟩] := by
    apply Array.ext
    · simpa using hs
    · intro i h1 h2
      match i with
      | 0 => simpa using e1
      | 1 => simpa using e2
      | i + 2 => omega
  have hsz : (⟨s.toStr.toArray⟩ : ByteArray).size = s.toStr.length := by simp [ByteArray.size]
  rw [ea]
  refine (split_run ⟨s.toStr.toArray⟩ b w (by rw [hsz]; exact hl)).mono fun e w' he => ?_
  obtain ⟨he1, he2⟩ := he
  have hd : (Lib.splitB ⟨#[b]⟩ 0 (Lib.countB ⟨s.toStr.toArray⟩ ⟨#[b]⟩) ⟨s.toStr.toArray⟩).map (·.data.toList) = splitU b s.toStr := by
    rw [Lib.splitB_data]
    exact splitK_one b s.toStr
  have hlen := Lib.splitB_all ⟨#[b]⟩ (Nat.le_refl 1) 0 _ (⟨s.toStr.toArray⟩ : ByteArray) rfl
  have hlen2 : (splitU b s.toStr).length = Lib.countB ⟨s.toStr.toArray⟩ ⟨#[b]⟩ + 1 := by rw [← hd, List.length_map, hlen]
  have hcells : (Lib.splitB ⟨#[b]⟩ 0 (Lib.countB ⟨s.toStr.toArray⟩ ⟨#[b]⟩) ⟨s.toStr.toArray⟩).map Value.string = (splitU b s.toStr).map fun x => Value.string ⟨x.toArray⟩ := by
    rw [← hd, List.map_map]; rfl
  rw [hcells] at he2
  have hnew : w'.heap[w.heap.size]? = some (.cells ((splitU b s.toStr).map fun x => Value.string ⟨x.toArray⟩).toArray 9 (0, 0)) := by rw [he2]; exact heap_alloc_new _ _
  obtain ⟨c1, p1, g1⟩ := cc.addH (he2 ▸ Ext.alloc _ _) (l := (splitU b s.toStr).map fun x => Value.string ⟨x.toArray⟩) (r := []) hnew (by simp)
  refine ⟨_, Γ.addH w.heap.size ((splitU b s.toStr).map fun x => Value.string ⟨x.toArray⟩), he1, g1, ?_, ?_⟩
  · exact c1.congr (fun _ => rfl) (fun _ => rfl) (fun _ h => h)
  have hul := splitU_len b s.toStr
  refine repV_d.2 ⟨?_, rfl⟩
  rw [← hlen2]
  show RepC _ _ [_] _
  refine repC_mk_slice (by simp) (Nat.le_refl _) (by unfold maxLen; omega) (by omega) (.inr ⟨w.heap.size, 0, _, rfl, updN_same _ _ _, by simp [Ty.size], fun i c' hi => ?_⟩)
  rw [List.getElem?_map] at hi
  cases hx : (splitU b s.toStr)[i]? with
  | none => rw [hx] at hi; cases hi
  | some x =>
    rw [hx] at hi
    simp only [Option.map_some, Option.some.injEq] at hi
    subst hi
    simp only [RepC, Ty.size]
    refine ⟨x, rfl, ?_, ?_⟩
    · rw [show 0 + i * 1 = i by omega]
      simp only [chunk]
      have h2 := (List.getElem?_eq_some_iff.1 hx)
      obtain ⟨hi1, hi2⟩ := h2
      rw [List.drop_eq_getElem_cons (by simpa using hi1)]
      simp [hi2]
    · have := splitU_mem b s.toStr x (List.mem_of_getElem? hx); omega
noncomputable def lib_Split_g (_ : Nat) {R : Type} : OvG R := fun xs _ K => match xs with
  | [.d .str s, .d .str p] => if p.toStr.length = 1 ∧ s.toStr.length < 4294967281 then K (.d (.slice 16 .str) (.slice ((splitU (p.toStr.headD 0) s.toStr).map C.str))) [] else none
  | _ => none
theorem lib_Split_ok (N : Nat) {R : Type} : GOk (X0 gl0) 41 (lib_Split_g N (R := R)) := by
  intro xs A Kr r hr
  unfold lib_Split_g at hr
  split at hr
  · simp only [Option.ite_none_right_eq_some] at hr
    obtain ⟨⟨h1, h2⟩, hr⟩ := hr
    exact ⟨_, _, split_calls A _ _ h1 h2, hr⟩
  · cases hr
def numN (s : List UInt8) : Int := match Lib.parseUintB 64 s with
  | .ok u => u
  | .range => 18446744073709551615
  | _ => 0
def numE (s : List UInt8) : C := match Lib.parseUintB 64 s with
  | .ok _ => .nil
  | _ => .bool true
theorem numN_range (s : List UInt8) : 0 ≤ numN s ∧ numN s ≤ 18446744073709551615 := by
  unfold numN
  split
  · rename_i u h; have := Lib.parseUintB_le h; omega
  · omega
  · omega
theorem sent_of {Γ : G} {w : World} {s : S} (c : Conc Γ w s) {g : Nat} (h : Γ.gl g = some (.iface, .bool true)) : ∃ t v, w.cell? ⟨g, 0, none⟩ = some (.iface t v) := by
  obtain ⟨l, h1, h2, h3⟩ := c.hgl _ _ _ h
  obtain ⟨arr, T, fr, r, h4, h5⟩ := c.hH _ _ h1
  simp only [RepC] at h3
  rcases h3 with ⟨h, _⟩ | ⟨_, t, v, h3⟩
  · cases h
  refine ⟨t, v, ?_⟩
  have h12 : (chunk l 0 1)[0]? = some (.iface t v) := by
    have : (Ty.iface).size = 1 := rfl
    rw [this] at h3
    rw [h3]; rfl
  have h13 : l[0]? = some (.iface t v) := by
    simp only [chunk, List.drop_zero, List.getElem?_take] at h12
    simpa using h12
  unfold World.cell?
  simp only [h4]
  have h14 : arr[0]? = some (.iface t v) := by
    have hl : 0 < l.length := by have : (Ty.iface).size = 1 := rfl; omega
    rw [← Array.getElem?_toList, h5, List.getElem?_append_left hl]
    exact h13
  simpa using h14
theorem ext_bytes (w : World) (e : TypeId) (s : ByteArray) : Ext w (Lib.bytesWorld w e s) := by
  refine ⟨?_, fun b hb => ?_, rfl⟩
  · simp [Lib.bytesWorld, World.freeze, World.alloc, World.drew, -World.alloc_eq, -World.drew_eq]
  · have h1 : w.heap.size ≠ b := by omega
    have h2 : b < w.heap.size + 1 := by omega
    simp [Lib.bytesWorld, World.freeze, World.alloc, World.drew, -World.alloc_eq, -World.drew_eq, Array.getElem?_modify, Array.getElem?_push, h1, Ne.symm h1]
theorem pu_syn (s : ByteArray) (hlim : s.size ≤ 281474976710656) (h : Lib.parseUintB 64 s.data.toList = Lib.parseUintB 64 []) (ev : Value) (w : World) (hv : w.cell? ⟨6, 0, none⟩ = some ev) (hev : ev = .nilIface ∨ ∃ te pe, ev = .iface te pe) :
    Calls Tryd.prog 74 #[.string s, .int .i64 10, .int .i64 64] w fun e w' => ∃ t N, e = .returned (.tuple #[.int .u64 0, .iface t (.pointer (some ⟨N, 0, none⟩))]) ∧ Below w.heap.size w w' :=
  (Any.strconv_ParseUint_10_at64_syntax Tryd.laysPu14 s hlim h ev w hv hev).mono fun e w' ⟨N, h1, _, _, h2⟩ => ⟨_, N, h1, h2⟩
theorem num_calls (A : Key → Option O) (s : C) :
    DCalls (X0 gl0) 74 [.d .str s, .d (.int .i64) (.int 10), .d (.int .i64) (.int 64)] A (.tup [.d (.int .u64) (.int (numN s.toStr)), .d .iface (numE s.toStr)]) [] := by
  intro A' Γ w args hA' hg hc hn hr
  obtain ⟨cc, hok⟩ := hc
  have hs : args.size = 3 := hn.symm
  obtain ⟨e1, _, hb⟩ := repV_str (hr 0 _ _ rfl (Array.getElem?_eq_getElem (by omega)))
  obtain ⟨e2, _, _, _⟩ := repV_int (hr 1 _ _ rfl (Array.getElem?_eq_getElem (by omega)))
  obtain ⟨e3, _, _, _⟩ := repV_int (hr 2 _ _ rfl (Array.getElem?_eq_getElem (by omega)))
  have ea : args = #[.string ⟨s.toStr.toArray⟩, .int .i64 10, .int .i64 64] := by
    apply Array.ext
    · simpa using hs
    · intro i h1 h2
      match i with
      | 0 => simpa using e1
      | 1 => simpa [C.toInt] using e2
      | 2 => simpa [C.toInt] using e3
      | i + 3 => omega
  have hsz : (⟨s.toStr.toArray⟩ : ByteArray).size = s.toStr.length := by simp [ByteArray.size]
  rw [ea]
  have m1 : IntKind.u64.min = 0 := by decide
  have m2 : IntKind.u64.max = 18446744073709551615 := by decide
  obtain ⟨n1, n2⟩ := numN_range s.toStr
  have hfin : ∀ (e : Ending) (w' : World) (v : Value), e = .returned (.tuple #[.int .u64 (numN s.toStr), v]) → Ext w w' → RepV Γ (.d .iface (numE s.toStr)) v →
      ∃ u Γ', e = .returned u ∧ GLe Γ Γ' ∧ Conc Γ' w' (S.fin (.tup [.d (.int .u64) (.int (numN s.toStr)), .d .iface (numE s.toStr)]) [] A') ∧ RepV Γ' (V.slotR 2000 (.tup [.d (.int .u64) (.int (numN s.toStr)), .d .iface (numE s.toStr)])) u := by
    intro e w' v he hx hr
    refine ⟨_, Γ, he, .refl Γ, (cc.ext hx).congr (fun _ => rfl) (fun _ => rfl) (fun _ h => h), ?_⟩
    refine ⟨_, rfl, ?_⟩
    have h1 : RepV Γ (.d (.int .u64) (.int (numN s.toStr))) (.int .u64 (numN s.toStr)) := repV_d.2 ⟨by simp only [RepC]; exact ⟨_, rfl, by simp [Value.cells], by omega, by omega⟩, rfl⟩
    obtain ⟨h1, h2⟩ := h1
    obtain ⟨h3, h4⟩ := hr
    refine ⟨_, _, rfl, h1, h2, _, _, rfl, h3, h4, rfl⟩
  cases h : Lib.parseUintB 64 s.toStr with
  | ok u =>
    refine (Tryd.strconv_ParseUint_10_at64_ok ⟨s.toStr.toArray⟩ (by rw [hsz]; omega) u h w).mono fun e w' he => ?_
    obtain ⟨he1, he2⟩ := he
    refine hfin e w' .nilIface ?_ ?_ ?_
    · rw [he1]; unfold numN; rw [h]
    · rcases he2 with rfl | rfl
      · exact .refl _
      · exact ext_bytes w _ _
    · unfold numE; rw [h]; exact repV_d.2 ⟨by simp [RepC, Value.cells], rfl⟩
  | range =>
    obtain ⟨t, v, hv⟩ := sent_of cc (g := 7) (by rw [hg]; rfl)
    refine (Tryd.strconv_ParseUint_10_at64_range ⟨s.toStr.toArray⟩ (by rw [hsz]; omega) h _ w hv (Or.inr ⟨t, v, rfl⟩)).mono fun e w' he => ?_
    obtain ⟨n, he1, _, _, he2⟩ := he
    refine hfin e w' _ (by rw [he1]; unfold numN; rw [h]) (ext_below' he2) ?_
    unfold numE; rw [h]; exact repV_d.2 ⟨by simp [RepC, Value.cells], rfl⟩
  | _ =>
    obtain ⟨t, v, hv⟩ := sent_of cc (g := 6) (by rw [hg]; rfl)
    refine (pu_syn ⟨s.toStr.toArray⟩ (by rw [hsz]; omega) h _ w hv (Or.inr ⟨t, v, rfl⟩)).mono fun e w' he => ?_
    obtain ⟨_, n, he1, he2⟩ := he
    refine hfin e w' _ (by rw [he1]; unfold numN; rw [h]) (ext_below' he2) ?_
    unfold numE; rw [h]; exact repV_d.2 ⟨by simp [RepC, Value.cells], rfl⟩
noncomputable def lib_ParseUint_g (_ : Nat) {R : Type} : OvG R := fun xs _ K => match xs with
  | [.d .str s, .d (.int .i64) (.int b), .d (.int .i64) (.int z)] => if b = 10 ∧ z = 64 then K (.tup [.d (.int .u64) (.int (numN s.toStr)), .d .iface (numE s.toStr)]) [] else none
  | _ => none
theorem lib_ParseUint_ok (N : Nat) {R : Type} : GOk (X0 gl0) 74 (lib_ParseUint_g N (R := R)) := by
  intro xs A Kr r hr
  unfold lib_ParseUint_g at hr
  split at hr
  · simp only [Option.ite_none_right_eq_some] at hr
    obtain ⟨⟨rfl, rfl⟩, hr⟩ := hr
    exact ⟨_, _, num_calls A _, hr⟩
  · cases hr
end Go.Proofs.YtefppgmopnnphaaDoor


namespace Go.Proofs.YtefppgmopnnphaaDoor
open Go Go.E
set_option maxRecDepth 100000
set_option maxHeartbeats 4000000
set_option linter.unusedVariables false
noncomputable def law30_to_hs : Hints := [([1, 0, 1, 1], ⟨[], [(3, .sl 32 tEntry3 5003)], [], [], [], []⟩),
    ([4, 1, 0, 1, 1], ⟨[9, 10], [(3, .sl 32 tEntry3 5003), (11, .d (.int .i64))], [], [], [], []⟩),
    ([1, 0, 1, 1, 4, 0, 1, 1, 5, 4, 1, 0, 1, 1], ⟨[6, 9, 10, 11], [(3, .sl 32 tEntry3 5003)], [], [(.l 6, .box (.agg tEntry3 [.d (.int .u64), (.ts 32 tPost)]))], [], []⟩),
    ([4, 1, 0, 1, 1, 4, 0, 1, 1, 5, 4, 1, 0, 1, 1], ⟨[6, 9, 10, 11, 19, 20], [(3, .sl 32 tEntry3 5003), (21, .d (.int .i64))], [], [(.l 6, .box (.agg tEntry3 [.d (.int .u64), (.ts 32 tPost)]))], [], []⟩),
    ([9], ⟨[], [(2, .sl 32 tEntry3 5002)], [], [], [], []⟩)]
noncomputable def law30_to_ov (N : Nat) : OvS (X0 gl0) where
  g R := []
  ok := fun R => fun _ h => nomatch h
noncomputable def law30_to_l1 {R : Type} (N : Nat) (k4 : KD R) : KD R → List C → List Es → Option R := (fun k5 d2 m2 => (bif decide (C.toInt (dk d2 6) < C.toInt (dk d2 4)) then (if 0 ≤ C.toInt (dk d2 6) ∧ C.toInt (dk d2 6) < (↑(List.length (C.elems (dk d2 3))) : Int) then (bif Nat.beq (List.length (C.elems (dk d2 8))) (List.length (C.elems (dk d2 8))) then (if (List.length (C.elems (dk d2 8)) + 1) * 32 ≤ 140737488355328 ∧ List.length (C.elems (dk d2 8)) + 1 ≤ 9223372036854775807 then (bif Nat.beq (List.length (C.elems (dk d2 8)) + 1) (List.length (C.elems (dk d2 8) ++ [C.set (C.set (C.set (C.agg [C.str [], C.int 0, C.bool false]) 0 (C.get (List.getD (C.elems (dk d2 3)) (Int.toNat (C.toInt (dk d2 6))) C.nil) 0)) 1 (C.get (List.getD (C.elems (dk d2 3)) (Int.toNat (C.toInt (dk d2 6))) C.nil) 1)) 2 (C.get (List.getD (C.elems (dk d2 3)) (Int.toNat (C.toInt (dk d2 6))) C.nil) 2)])) then (bif Nat.beq (List.length (C.elems (dk d2 5))) (List.length (C.elems (dk d2 5))) then (k5 [dk d2 0, dk d2 1, dk d2 2, dk d2 3, dk d2 4, C.slice (C.elems (dk d2 5)), C.int (IntKind.wrap IntKind.i64 (C.toInt (dk d2 6) + 1)), dk d2 7, C.slice (C.elems (dk d2 8) ++ [C.set (C.set (C.set (C.agg [C.str [], C.int 0, C.bool false]) 0 (C.get (List.getD (C.elems (dk d2 3)) (Int.toNat (C.toInt (dk d2 6))) C.nil) 0)) 1 (C.get (List.getD (C.elems (dk d2 3)) (Int.toNat (C.toInt (dk d2 6))) C.nil) 1)) 2 (C.get (List.getD (C.elems (dk d2 3)) (Int.toNat (C.toInt (dk d2 6))) C.nil) 2)])] []) else none) else none) else none) else none) else none) else (bif Nat.beq (List.length (C.elems (dk d2 5))) (List.length (C.elems (dk d2 5))) then (k4 [dk d2 0, dk d2 1, dk d2 2, C.slice (C.elems (dk d2 5)), dk d2 7, C.slice (C.elems (dk d2 8))] []) else none)))
noncomputable def law30_to_l2 {R : Type} (N : Nat) (k2 : KD R) : KD R → List C → List Es → Option R := (fun k3 d1 m1 => (bif decide (C.toInt (dk d1 3) < C.toInt (dk d1 1)) then (if 0 ≤ C.toInt (dk d1 3) ∧ C.toInt (dk d1 3) < (↑(List.length (C.elems (dk d1 0))) : Int) then (jn (fun d2 m2 => (bif Nat.beq (List.length (C.elems (dk d2 3))) (List.length (C.elems (dk d2 3))) then (if (List.length (C.elems (dk d2 3)) + 1) * 32 ≤ 140737488355328 ∧ List.length (C.elems (dk d2 3)) + 1 ≤ 9223372036854775807 then (bif Nat.beq (List.length (C.elems (dk d2 3)) + 1) (List.length (C.elems (dk d2 3) ++ [C.agg [dk d2 4, C.slice (C.elems (dk d2 5))]])) then (k3 [dk d2 0, dk d2 1, C.slice (C.elems (dk d2 3) ++ [C.agg [dk d2 4, C.slice (C.elems (dk d2 5))]]), C.int (IntKind.wrap IntKind.i64 (C.toInt (dk d2 2) + 1))] []) else none) else none) else none)) (fun k4 => (bif Nat.beq (List.length (C.elems (dk d1 2))) (List.length (C.elems (dk d1 2))) then (loopK N (law30_to_l1 N k4) [dk d1 0, dk d1 1, dk d1 3, C.get (List.getD (C.elems (dk d1 0)) (Int.toNat (C.toInt (dk d1 3))) C.nil) 1, C.int (↑(List.length (C.elems (C.get (List.getD (C.elems (dk d1 0)) (Int.toNat (C.toInt (dk d1 3))) C.nil) 1))) : Int), C.slice (C.elems (dk d1 2)), C.int 0, C.get (List.getD (C.elems (dk d1 0)) (Int.toNat (C.toInt (dk d1 3))) C.nil) 0, C.slice []] []) else none))) else none) else (bif Nat.beq (List.length (C.elems (dk d1 2))) (List.length (C.elems (dk d1 2))) then (k2 [C.slice (C.elems (dk d1 2))] []) else none)))
noncomputable def law30_to_p0 {R : Type} (N : Nat) (a0 : C) (k1 : KD R) : Option R := (jn (fun d1 m1 => (bif Nat.beq (List.length (C.elems (dk d1 0))) (List.length (C.elems (dk d1 0))) then (k1 [C.slice (C.elems (dk d1 0))] []) else none)) (fun k2 => (loopK N (law30_to_l2 N k2) [a0, C.int (↑(List.length (C.elems a0)) : Int), C.slice [], C.int 0] [])))
noncomputable def law30_to_p {R : Type} (N : Nat) : C → KD R → Option R := lid "law30_to_p N" (law30_to_p0 N)
theorem law30_to_pe {R : Type} (N : Nat) (a0 : C) (k : KD R) : law30_to_p N a0 k = law30_to_p0 N a0 k := by unfold law30_to_p; rw [lid_eq]
theorem law30_to_run {R : Type} (N : Nat) (a0 : C) (K : V → List (Key × O) → Option R) : exF (X0 gl0) ((law30_to_ov N).ov R) extX noX (fun f => bif Nat.beq f 10 then law30_to_hs else []) N 400 8 10 [.d (.slice 32 tEntry3) a0] A0 K =
    law30_to_p N a0 (fun d1 m1 => K (V.ts 32 tEntry3 (C.elems (dk d1 0))) []) := by
  rw [law30_to_pe]
  exact (show _ = jn (fun d1 m1 => (bif Nat.beq (List.length (C.elems (dk d1 0))) (List.length (C.elems (dk d1 0))) then
    (K (V.ts 32 tEntry3 (C.elems (dk d1 0))) [])
  else
    none)) (law30_to_p0 N a0) by kernel_rfl).trans ((jn_eq _ _).trans (congrArg (law30_to_p0 N a0) (funext fun _ => funext fun _ => by simp only [Nat.beq_refl, cond_true])))
noncomputable def law30_to_g (N : Nat) {R : Type} : OvG R := fun xs _ K => match xs with
  | [.d t0 a0] => if t0 = (.slice 32 tEntry3) then law30_to_p N a0 (fun d1 m1 => K (V.ts 32 tEntry3 (C.elems (dk d1 0))) []) else none
  | _ => none
theorem law30_to_ok (N : Nat) {R : Type} : GOk (X0 gl0) 10 (law30_to_g N (R := R)) := by
  intro xs A Kr r hr
  unfold law30_to_g at hr
  split at hr
  · simp only [Option.ite_none_right_eq_some] at hr
    obtain ⟨hty, hr⟩ := hr
    subst hty
    rw [← law30_to_run] at hr
    obtain ⟨v, L, h1, h2⟩ := exF_ok (ok0 gl0) (mo gl0) ((law30_to_ov N).ov_ok _) (extX_ok gl0) _ _ _ _ _ _ hr
    exact ⟨v, L, h1.mono (leA_none fun _ => rfl), h2⟩
  · cases hr
end Go.Proofs.YtefppgmopnnphaaDoor


namespace Go.Proofs.YtefppgmopnnphaaDoor
open Go Go.E
set_option maxRecDepth 100000
set_option maxHeartbeats 4000000
set_option linter.unusedVariables false
noncomputable def law30_from_hs : Hints := [([1, 0, 1, 1], ⟨[], [(3, .sl 32 tEntry3 5003)], [], [], [], []⟩),
    ([4, 1, 0, 1, 1], ⟨[9, 10], [(3, .sl 32 tEntry3 5003), (11, .d (.int .i64))], [], [], [], []⟩),
    ([1, 0, 1, 1, 4, 0, 1, 1, 5, 4, 1, 0, 1, 1], ⟨[6, 9, 10, 11], [(3, .sl 32 tEntry3 5003)], [], [(.l 6, .box (.agg tEntry3 [.d (.int .u64), (.ts 32 tPost)]))], [], []⟩),
    ([4, 1, 0, 1, 1, 4, 0, 1, 1, 5, 4, 1, 0, 1, 1], ⟨[6, 9, 10, 11, 19, 20], [(3, .sl 32 tEntry3 5003), (21, .d (.int .i64))], [], [(.l 6, .box (.agg tEntry3 [.d (.int .u64), (.ts 32 tPost)]))], [], []⟩),
    ([9], ⟨[], [(2, .sl 32 tEntry3 5002)], [], [], [], []⟩)]
noncomputable def law30_from_ov (N : Nat) : OvS (X0 gl0) where
  g R := []
  ok := fun R => fun _ h => nomatch h
noncomputable def law30_from_l1 {R : Type} (N : Nat) (k4 : KD R) : KD R → List C → List Es → Option R := (fun k5 d2 m2 => (bif decide (C.toInt (dk d2 6) < C.toInt (dk d2 4)) then (if 0 ≤ C.toInt (dk d2 6) ∧ C.toInt (dk d2 6) < (↑(List.length (C.elems (dk d2 3))) : Int) then (bif Nat.beq (List.length (C.elems (dk d2 8))) (List.length (C.elems (dk d2 8))) then (if (List.length (C.elems (dk d2 8)) + 1) * 32 ≤ 140737488355328 ∧ List.length (C.elems (dk d2 8)) + 1 ≤ 9223372036854775807 then (bif Nat.beq (List.length (C.elems (dk d2 8)) + 1) (List.length (C.elems (dk d2 8) ++ [C.set (C.set (C.set (C.agg [C.str [], C.int 0, C.bool false]) 0 (C.get (List.getD (C.elems (dk d2 3)) (Int.toNat (C.toInt (dk d2 6))) C.nil) 0)) 1 (C.get (List.getD (C.elems (dk d2 3)) (Int.toNat (C.toInt (dk d2 6))) C.nil) 1)) 2 (C.get (List.getD (C.elems (dk d2 3)) (Int.toNat (C.toInt (dk d2 6))) C.nil) 2)])) then (bif Nat.beq (List.length (C.elems (dk d2 5))) (List.length (C.elems (dk d2 5))) then (k5 [dk d2 0, dk d2 1, dk d2 2, dk d2 3, dk d2 4, C.slice (C.elems (dk d2 5)), C.int (IntKind.wrap IntKind.i64 (C.toInt (dk d2 6) + 1)), dk d2 7, C.slice (C.elems (dk d2 8) ++ [C.set (C.set (C.set (C.agg [C.str [], C.int 0, C.bool false]) 0 (C.get (List.getD (C.elems (dk d2 3)) (Int.toNat (C.toInt (dk d2 6))) C.nil) 0)) 1 (C.get (List.getD (C.elems (dk d2 3)) (Int.toNat (C.toInt (dk d2 6))) C.nil) 1)) 2 (C.get (List.getD (C.elems (dk d2 3)) (Int.toNat (C.toInt (dk d2 6))) C.nil) 2)])] []) else none) else none) else none) else none) else none) else (bif Nat.beq (List.length (C.elems (dk d2 5))) (List.length (C.elems (dk d2 5))) then (k4 [dk d2 0, dk d2 1, dk d2 2, C.slice (C.elems (dk d2 5)), dk d2 7, C.slice (C.elems (dk d2 8))] []) else none)))
noncomputable def law30_from_l2 {R : Type} (N : Nat) (k2 : KD R) : KD R → List C → List Es → Option R := (fun k3 d1 m1 => (bif decide (C.toInt (dk d1 3) < C.toInt (dk d1 1)) then (if 0 ≤ C.toInt (dk d1 3) ∧ C.toInt (dk d1 3) < (↑(List.length (C.elems (dk d1 0))) : Int) then (jn (fun d2 m2 => (bif Nat.beq (List.length (C.elems (dk d2 3))) (List.length (C.elems (dk d2 3))) then (if (List.length (C.elems (dk d2 3)) + 1) * 32 ≤ 140737488355328 ∧ List.length (C.elems (dk d2 3)) + 1 ≤ 9223372036854775807 then (bif Nat.beq (List.length (C.elems (dk d2 3)) + 1) (List.length (C.elems (dk d2 3) ++ [C.agg [dk d2 4, C.slice (C.elems (dk d2 5))]])) then (k3 [dk d2 0, dk d2 1, C.slice (C.elems (dk d2 3) ++ [C.agg [dk d2 4, C.slice (C.elems (dk d2 5))]]), C.int (IntKind.wrap IntKind.i64 (C.toInt (dk d2 2) + 1))] []) else none) else none) else none)) (fun k4 => (bif Nat.beq (List.length (C.elems (dk d1 2))) (List.length (C.elems (dk d1 2))) then (loopK N (law30_from_l1 N k4) [dk d1 0, dk d1 1, dk d1 3, C.get (List.getD (C.elems (dk d1 0)) (Int.toNat (C.toInt (dk d1 3))) C.nil) 1, C.int (↑(List.length (C.elems (C.get (List.getD (C.elems (dk d1 0)) (Int.toNat (C.toInt (dk d1 3))) C.nil) 1))) : Int), C.slice (C.elems (dk d1 2)), C.int 0, C.get (List.getD (C.elems (dk d1 0)) (Int.toNat (C.toInt (dk d1 3))) C.nil) 0, C.slice []] []) else none))) else none) else (bif Nat.beq (List.length (C.elems (dk d1 2))) (List.length (C.elems (dk d1 2))) then (k2 [C.slice (C.elems (dk d1 2))] []) else none)))
noncomputable def law30_from_p0 {R : Type} (N : Nat) (a0 : C) (k1 : KD R) : Option R := (jn (fun d1 m1 => (bif Nat.beq (List.length (C.elems (dk d1 0))) (List.length (C.elems (dk d1 0))) then (k1 [C.slice (C.elems (dk d1 0))] []) else none)) (fun k2 => (loopK N (law30_from_l2 N k2) [a0, C.int (↑(List.length (C.elems a0)) : Int), C.slice [], C.int 0] [])))
noncomputable def law30_from_p {R : Type} (N : Nat) : C → KD R → Option R := lid "law30_from_p N" (law30_from_p0 N)
theorem law30_from_pe {R : Type} (N : Nat) (a0 : C) (k : KD R) : law30_from_p N a0 k = law30_from_p0 N a0 k := by unfold law30_from_p; rw [lid_eq]
theorem law30_from_run {R : Type} (N : Nat) (a0 : C) (K : V → List (Key × O) → Option R) : exF (X0 gl0) ((law30_from_ov N).ov R) extX noX (fun f => bif Nat.beq f 15 then law30_from_hs else []) N 400 8 15 [.d (.slice 32 tEntry3) a0] A0 K =
    law30_from_p N a0 (fun d1 m1 => K (V.ts 32 tEntry3 (C.elems (dk d1 0))) []) := by
  rw [law30_from_pe]
  exact (show _ = jn (fun d1 m1 => (bif Nat.beq (List.length (C.elems (dk d1 0))) (List.length (C.elems (dk d1 0))) then
    (K (V.ts 32 tEntry3 (C.elems (dk d1 0))) [])
  else
    none)) (law30_from_p0 N a0) by kernel_rfl).trans ((jn_eq _ _).trans (congrArg (law30_from_p0 N a0) (funext fun _ => funext fun _ => by simp only [Nat.beq_refl, cond_true])))
noncomputable def law30_from_g (N : Nat) {R : Type} : OvG R := fun xs _ K => match xs with
  | [.d t0 a0] => if t0 = (.slice 32 tEntry3) then law30_from_p N a0 (fun d1 m1 => K (V.ts 32 tEntry3 (C.elems (dk d1 0))) []) else none
  | _ => none
theorem law30_from_ok (N : Nat) {R : Type} : GOk (X0 gl0) 15 (law30_from_g N (R := R)) := by
  intro xs A Kr r hr
  unfold law30_from_g at hr
  split at hr
  · simp only [Option.ite_none_right_eq_some] at hr
    obtain ⟨hty, hr⟩ := hr
    subst hty
    rw [← law30_from_run] at hr
    obtain ⟨v, L, h1, h2⟩ := exF_ok (ok0 gl0) (mo gl0) ((law30_from_ov N).ov_ok _) (extX_ok gl0) _ _ _ _ _ _ hr
    exact ⟨v, L, h1.mono (leA_none fun _ => rfl), h2⟩
  · cases hr
end Go.Proofs.YtefppgmopnnphaaDoor


namespace Go.Proofs.YtefppgmopnnphaaDoor
open Go Go.E
set_option maxRecDepth 100000
set_option maxHeartbeats 4000000
set_option linter.unusedVariables false
noncomputable def law30_light_hs : Hints := [([1, 0, 1, 1], ⟨[0], [(3, .d (.int .i64))], [], [], [], []⟩),
    ([4, 1, 0, 1, 1], ⟨[0, 8, 9], [(3, .d (.int .i64)), (10, .d (.int .i64))], [], [], [], []⟩),
    ([1, 1, 4, 0, 1, 1, 5, 4, 1, 0, 1, 1], ⟨[0, 8, 9, 10], [(3, .d (.int .i64))], [], [], [], []⟩),
    ([4, 1, 1, 4, 0, 1, 1, 5, 4, 1, 0, 1, 1], ⟨[0, 8, 9, 10, 15, 16], [(3, .d (.int .i64)), (17, .d (.int .i64))], [], [], [], []⟩),
    ([0, 1, 1, 1], ⟨[], [(2, .d .bool)], [], [], [], []⟩),
    ([9], ⟨[], [(2, .d .bool)], [], [], [], []⟩)]
noncomputable def law30_light_ov (N : Nat) : OvS (X0 gl0) where
  g R := []
  ok := fun R => fun _ h => nomatch h
noncomputable def law30_light_l1 {R : Type} (N : Nat) (k4 : KD R) : KD R → List C → List Es → Option R := (fun k5 d2 m2 => (bif decide (C.toInt (dk d2 7) < C.toInt (dk d2 5)) then (if 0 ≤ C.toInt (dk d2 7) ∧ C.toInt (dk d2 7) < (↑(List.length (C.elems (dk d2 4))) : Int) then (k5 [dk d2 0, dk d2 1, dk d2 2, dk d2 3, dk d2 4, dk d2 5, C.int (IntKind.wrap IntKind.i64 (C.toInt (dk d2 6) + IntKind.wrap IntKind.i64 (1 + (↑(List.length (C.toStr (C.get (List.getD (C.elems (dk d2 4)) (Int.toNat (C.toInt (dk d2 7))) C.nil) 0))) : Int)))), C.int (IntKind.wrap IntKind.i64 (C.toInt (dk d2 7) + 1))] []) else none) else (k4 [dk d2 0, dk d2 1, dk d2 2, dk d2 3, dk d2 6] [])))
noncomputable def law30_light_l2 {R : Type} (N : Nat) (k2 : KD R) : KD R → List C → List Es → Option R := (fun k3 d1 m1 => (bif decide (C.toInt (dk d1 4) < C.toInt (dk d1 2)) then (if 0 ≤ C.toInt (dk d1 4) ∧ C.toInt (dk d1 4) < (↑(List.length (C.elems (dk d1 1))) : Int) then (jn (fun d2 m2 => (k3 [dk d2 0, dk d2 1, dk d2 2, dk d2 4, C.int (IntKind.wrap IntKind.i64 (C.toInt (dk d2 3) + 1))] [])) (fun k4 => (loopK N (law30_light_l1 N k4) [dk d1 0, dk d1 1, dk d1 2, dk d1 4, C.get (List.getD (C.elems (dk d1 1)) (Int.toNat (C.toInt (dk d1 4))) C.nil) 1, C.int (↑(List.length (C.elems (C.get (List.getD (C.elems (dk d1 1)) (Int.toNat (C.toInt (dk d1 4))) C.nil) 1))) : Int), dk d1 3, C.int 0] []))) else none) else (k2 [dk d1 0, dk d1 3] [])))
noncomputable def law30_light_p0 {R : Type} (N : Nat) (a0 : C) (k1 : KD R) : Option R := (jn (fun d1 m1 => (jn (fun d2 m2 => (k1 [C.bool (C.toBool (dk d2 0))] [])) (fun k2 => (bif decide (C.toInt (dk d1 1) ≤ 5000) then (k2 [C.bool (decide ((↑(List.length (C.elems (dk d1 0))) : Int) ≤ 200))] []) else (k2 [C.bool false] []))))) (fun k2 => (loopK N (law30_light_l2 N k2) [a0, a0, C.int (↑(List.length (C.elems a0)) : Int), C.int 0, C.int 0] [])))
noncomputable def law30_light_p {R : Type} (N : Nat) : C → KD R → Option R := lid "law30_light_p N" (law30_light_p0 N)
theorem law30_light_pe {R : Type} (N : Nat) (a0 : C) (k : KD R) : law30_light_p N a0 k = law30_light_p0 N a0 k := by unfold law30_light_p; rw [lid_eq]
theorem law30_light_run {R : Type} (N : Nat) (a0 : C) (K : V → List (Key × O) → Option R) : exF (X0 gl0) ((law30_light_ov N).ov R) extX noX (fun f => bif Nat.beq f 8 then law30_light_hs else []) N 400 8 8 [.d (.slice 32 tEntry3) a0] A0 K =
    law30_light_p N a0 (fun d1 m1 => K (V.d Ty.bool (C.bool (C.toBool (dk d1 0)))) []) := by
  rw [law30_light_pe]
  exact (show _ = jn (fun d1 m1 => (K (V.d Ty.bool (C.bool (C.toBool (dk d1 0)))) [])) (law30_light_p0 N a0) by kernel_rfl).trans (jn_eq _ _)
noncomputable def law30_light_g (N : Nat) {R : Type} : OvG R := fun xs _ K => match xs with
  | [.d t0 a0] => if t0 = (.slice 32 tEntry3) then law30_light_p N a0 (fun d1 m1 => K (V.d Ty.bool (C.bool (C.toBool (dk d1 0)))) []) else none
  | _ => none
theorem law30_light_ok (N : Nat) {R : Type} : GOk (X0 gl0) 8 (law30_light_g N (R := R)) := by
  intro xs A Kr r hr
  unfold law30_light_g at hr
  split at hr
  · simp only [Option.ite_none_right_eq_some] at hr
    obtain ⟨hty, hr⟩ := hr
    subst hty
    rw [← law30_light_run] at hr
    obtain ⟨v, L, h1, h2⟩ := exF_ok (ok0 gl0) (mo gl0) ((law30_light_ov N).ov_ok _) (extX_ok gl0) _ _ _ _ _ _ hr
    exact ⟨v, L, h1.mono (leA_none fun _ => rfl), h2⟩
  · cases hr
end Go.Proofs.YtefppgmopnnphaaDoor


namespace Go.Proofs.YtefppgmopnnphaaDoor
open Go Go.E
set_option maxRecDepth 100000
set_option maxHeartbeats 4000000
set_option linter.unusedVariables false
noncomputable def money_Add_hs : Hints := [([9], ⟨[], [(4, .d (.int .u64)), (5, .d (.int .i64))], [], [], [], []⟩)]
noncomputable def money_Add_ov (N : Nat) : OvS (X0 gl0) where
  g R := []
  ok := fun R => fun _ h => nomatch h
noncomputable def money_Add_p0 {R : Type} (N : Nat) (a0 a1 : C) (k1 : KD R) : Option R := (bif !decide ((C.toInt a0 + C.toInt a1) / 18446744073709551616 = 0) then (k1 [C.int 0, C.int 11] []) else (k1 [C.int ((C.toInt a0 + C.toInt a1) % 18446744073709551616), C.int 0] []))
noncomputable def money_Add_p {R : Type} (N : Nat) : C → C → KD R → Option R := lid "money_Add_p N" (money_Add_p0 N)
theorem money_Add_pe {R : Type} (N : Nat) (a0 a1 : C) (k : KD R) : money_Add_p N a0 a1 k = money_Add_p0 N a0 a1 k := by unfold money_Add_p; rw [lid_eq]
theorem money_Add_run {R : Type} (N : Nat) (a0 a1 : C) (K : V → List (Key × O) → Option R) : exF (X0 gl0) ((money_Add_ov N).ov R) extX noX (fun f => bif Nat.beq f 30 then money_Add_hs else []) N 400 8 30 [.d (.int .u64) a0, .d (.int .u64) a1] A0 K =
    money_Add_p N a0 a1 (fun d1 m1 => K (V.tup [V.d (Ty.int IntKind.u64) (dk d1 0), V.d (Ty.int IntKind.i64) (dk d1 1)]) []) := by
  rw [money_Add_pe]
  exact (show _ = jn (fun d1 m1 => (K (V.tup [V.d (Ty.int IntKind.u64) (dk d1 0), V.d (Ty.int IntKind.i64) (dk d1 1)]) [])) (money_Add_p0 N a0 a1) by kernel_rfl).trans (jn_eq _ _)
noncomputable def money_Add_g (N : Nat) {R : Type} : OvG R := fun xs _ K => match xs with
  | [.d t0 a0, .d t1 a1] => if t0 = (.int .u64) ∧ t1 = (.int .u64) then money_Add_p N a0 a1 (fun d1 m1 => K (V.tup [V.d (Ty.int IntKind.u64) (dk d1 0), V.d (Ty.int IntKind.i64) (dk d1 1)]) []) else none
  | _ => none
theorem money_Add_ok (N : Nat) {R : Type} : GOk (X0 gl0) 30 (money_Add_g N (R := R)) := by
  intro xs A Kr r hr
  unfold money_Add_g at hr
  split at hr
  · simp only [Option.ite_none_right_eq_some] at hr
    obtain ⟨hty, hr⟩ := hr
    obtain ⟨rfl, rfl⟩ := hty
    rw [← money_Add_run] at hr
    obtain ⟨v, L, h1, h2⟩ := exF_ok (ok0 gl0) (mo gl0) ((money_Add_ov N).ov_ok _) (extX_ok gl0) _ _ _ _ _ _ hr
    exact ⟨v, L, h1.mono (leA_none fun _ => rfl), h2⟩
  · cases hr
end Go.Proofs.YtefppgmopnnphaaDoor


namespace Go.Proofs.YtefppgmopnnphaaDoor
open Go Go.E
set_option maxRecDepth 100000
set_option maxHeartbeats 4000000
set_option linter.unusedVariables false
noncomputable def journal_Entry_sides_hs : Hints := [([1, 0, 1], ⟨[2, 3], [], [], [], [], []⟩),
    ([4, 1, 0, 1], ⟨[2, 3, 9, 10], [(11, .d (.int .i64))], [], [], [], []⟩),
    ([9], ⟨[], [(2, .as (.ptr (.l 2) [] (.int .u64))), (3, .as (.ptr (.l 3) [] (.int .u64))), (4, .d (.int .i64))], [], [(.l 2, .box (.d (.int .u64))), (.l 3, .box (.d (.int .u64)))], [], []⟩)]
noncomputable def journal_Entry_sides_ov (N : Nat) : OvS (X0 gl0) where
  g R := [(30, money_Add_g N)]
  ok := fun R => List.forall_mem_cons.2 ⟨money_Add_ok N, fun _ h => nomatch h⟩
noncomputable def journal_Entry_sides_l1 {R : Type} (N : Nat) (k1 : KD R) (k2 : KD R) : KD R → List C → List Es → Option R := (fun k3 d1 m1 => (bif decide (C.toInt (dk d1 2) < C.toInt (dk d1 1)) then (if 0 ≤ C.toInt (dk d1 2) ∧ C.toInt (dk d1 2) < (↑(List.length (C.elems (dk d1 0))) : Int) then (bif C.toBool (C.get (List.getD (C.elems (dk d1 0)) (Int.toNat (C.toInt (dk d1 2))) C.nil) 2) then (money_Add_p N (dk d1 4) (C.get (List.getD (C.elems (dk d1 0)) (Int.toNat (C.toInt (dk d1 2))) C.nil) 1) (fun d2 m2 => (bif !decide (C.toInt (dk d2 1) = 0) then (k1 [dk d2 1, C.int 0, C.int 0] []) else (k3 [dk d1 0, dk d1 1, C.int (IntKind.wrap IntKind.i64 (C.toInt (dk d1 2) + 1)), dk d1 3, dk d2 0] [])))) else (money_Add_p N (dk d1 3) (C.get (List.getD (C.elems (dk d1 0)) (Int.toNat (C.toInt (dk d1 2))) C.nil) 1) (fun d2 m2 => (bif !decide (C.toInt (dk d2 1) = 0) then (k1 [dk d2 1, C.int 0, C.int 0] []) else (k3 [dk d1 0, dk d1 1, C.int (IntKind.wrap IntKind.i64 (C.toInt (dk d1 2) + 1)), dk d2 0, dk d1 4] []))))) else none) else (k2 [dk d1 3, dk d1 4] [])))
noncomputable def journal_Entry_sides_p0 {R : Type} (N : Nat) (a0 : C) (k1 : KD R) : Option R := (jn (fun d1 m1 => (k1 [C.int 0, dk d1 0, dk d1 1] [])) (fun k2 => (loopK N (journal_Entry_sides_l1 N k1 k2) [C.get a0 1, C.int (↑(List.length (C.elems (C.get a0 1))) : Int), C.int 0, zeroC (Ty.int IntKind.u64), zeroC (Ty.int IntKind.u64)] [])))
noncomputable def journal_Entry_sides_p {R : Type} (N : Nat) : C → KD R → Option R := lid "journal_Entry_sides_p N" (journal_Entry_sides_p0 N)
theorem journal_Entry_sides_pe {R : Type} (N : Nat) (a0 : C) (k : KD R) : journal_Entry_sides_p N a0 k = journal_Entry_sides_p0 N a0 k := by unfold journal_Entry_sides_p; rw [lid_eq]
theorem journal_Entry_sides_run {R : Type} (N : Nat) (a0 : C) (K : V → List (Key × O) → Option R) : exF (X0 gl0) ((journal_Entry_sides_ov N).ov R) extX (fun f r => bif Nat.beq f 29 then (bif Nat.beq r 0 then [(1, 5)] else bif Nat.beq r 7 then [(24, 7), (6, 6)] else []) else []) (fun f => bif Nat.beq f 29 then journal_Entry_sides_hs else []) N 400 8 29 [.d tEntry3 a0] A0 K =
    journal_Entry_sides_p N a0 (fun d1 m1 => K (V.tup [V.d (Ty.int IntKind.u64) (dk d1 1), V.d (Ty.int IntKind.u64) (dk d1 2), V.d (Ty.int IntKind.i64) (dk d1 0)]) []) := by
  rw [journal_Entry_sides_pe]
  exact (show _ = jn (fun d1 m1 => (K (V.tup [V.d (Ty.int IntKind.u64) (dk d1 1), V.d (Ty.int IntKind.u64) (dk d1 2), V.d (Ty.int IntKind.i64) (dk d1 0)]) [])) (journal_Entry_sides_p0 N a0) by kernel_rfl).trans (jn_eq _ _)
noncomputable def journal_Entry_sides_g (N : Nat) {R : Type} : OvG R := fun xs _ K => match xs with
  | [.d t0 a0] => if t0 = tEntry3 then journal_Entry_sides_p N a0 (fun d1 m1 => K (V.tup [V.d (Ty.int IntKind.u64) (dk d1 1), V.d (Ty.int IntKind.u64) (dk d1 2), V.d (Ty.int IntKind.i64) (dk d1 0)]) []) else none
  | _ => none
theorem journal_Entry_sides_ok (N : Nat) {R : Type} : GOk (X0 gl0) 29 (journal_Entry_sides_g N (R := R)) := by
  intro xs A Kr r hr
  unfold journal_Entry_sides_g at hr
  split at hr
  · simp only [Option.ite_none_right_eq_some] at hr
    obtain ⟨hty, hr⟩ := hr
    subst hty
    rw [← journal_Entry_sides_run] at hr
    obtain ⟨v, L, h1, h2⟩ := exF_ok (ok0 gl0) (mo gl0) ((journal_Entry_sides_ov N).ov_ok _) (extX_ok gl0) _ _ _ _ _ _ hr
    exact ⟨v, L, h1.mono (leA_none fun _ => rfl), h2⟩
  · cases hr
end Go.Proofs.YtefppgmopnnphaaDoor


namespace Go.Proofs.YtefppgmopnnphaaDoor
open Go Go.E
set_option maxRecDepth 100000
set_option maxHeartbeats 4000000
set_option linter.unusedVariables false
noncomputable def journal_Entry_Right_hs : Hints := [([0, 0, 1], ⟨[1], [(17, .d .bool)], [], [], [], []⟩),
    ([1, 0, 1, 1], ⟨[1], [], [], [], [], []⟩),
    ([4, 1, 0, 1, 1], ⟨[1, 19, 20], [(21, .d (.int .i64))], [], [], [], []⟩),
    ([0, 1, 4, 0, 1, 1, 5, 4, 1, 0, 1, 1], ⟨[1, 19, 20, 21], [(33, .d .bool)], [], [], [], []⟩),
    ([9], ⟨[], [(2, .d (.int .i64))], [], [], [], []⟩)]
noncomputable def journal_Entry_Right_ov (N : Nat) : OvS (X0 gl0) where
  g R := [(28, journal_named_g N), (29, journal_Entry_sides_g N)]
  ok := fun R => List.forall_mem_cons.2 ⟨journal_named_ok N, List.forall_mem_cons.2 ⟨journal_Entry_sides_ok N, fun _ h => nomatch h⟩⟩
noncomputable def journal_Entry_Right_l1 {R : Type} (N : Nat) (k1 : KD R) (k2 : KD R) : KD R → List C → List Es → Option R := (fun k3 d2 m2 => (bif decide (C.toInt (dk d2 3) < C.toInt (dk d2 2)) then (if 0 ≤ C.toInt (dk d2 3) ∧ C.toInt (dk d2 3) < (↑(List.length (C.elems (dk d2 1))) : Int) then (jn (fun d3 m3 => (bif C.toBool (dk d3 4) then (k1 [C.int 10] []) else (k3 [dk d3 0, dk d3 1, dk d3 2, C.int (IntKind.wrap IntKind.i64 (C.toInt (dk d3 3) + 1))] []))) (fun k4 => (bif !namedF (C.toStr (C.get (List.getD (C.elems (dk d2 1)) (Int.toNat (C.toInt (dk d2 3))) C.nil) 0)) then (k4 [dk d2 0, dk d2 1, dk d2 2, dk d2 3, C.bool true] []) else (k4 [dk d2 0, dk d2 1, dk d2 2, dk d2 3, C.bool (decide (C.toInt (C.get (List.getD (C.elems (dk d2 1)) (Int.toNat (C.toInt (dk d2 3))) C.nil) 1) = 0))] [])))) else none) else (k2 [dk d2 0] [])))
noncomputable def journal_Entry_Right_p0 {R : Type} (N : Nat) (a0 : C) (k1 : KD R) : Option R := (jn (fun d1 m1 => (bif C.toBool (dk d1 1) then (k1 [C.int 1] []) else (jn (fun d2 m2 => (journal_Entry_sides_p N (dk d2 0) (fun d3 m3 => (bif !decide (C.toInt (dk d3 0) = 0) then (k1 [dk d3 0] []) else (bif !decide (C.toInt (dk d3 1) = C.toInt (dk d3 2)) then (k1 [C.int 12] []) else (k1 [C.int 0] [])))))) (fun k2 => (loopK N (journal_Entry_Right_l1 N k1 k2) [dk d1 0, C.get (dk d1 0) 1, C.int (↑(List.length (C.elems (C.get (dk d1 0) 1))) : Int), C.int 0] []))))) (fun k2 => (bif decide ((↑(List.length (C.elems (C.get a0 1))) : Int) < 2) then (k2 [a0, C.bool true] []) else (k2 [a0, C.bool (decide (8 < (↑(List.length (C.elems (C.get a0 1))) : Int)))] []))))
noncomputable def journal_Entry_Right_p {R : Type} (N : Nat) : C → KD R → Option R := lid "journal_Entry_Right_p N" (journal_Entry_Right_p0 N)
theorem journal_Entry_Right_pe {R : Type} (N : Nat) (a0 : C) (k : KD R) : journal_Entry_Right_p N a0 k = journal_Entry_Right_p0 N a0 k := by unfold journal_Entry_Right_p; rw [lid_eq]
theorem journal_Entry_Right_run {R : Type} (N : Nat) (a0 : C) (K : V → List (Key × O) → Option R) : exF (X0 gl0) ((journal_Entry_Right_ov N).ov R) extX (fun f r => bif Nat.beq f 13 then (bif Nat.beq r 0 then [(1, 5)] else []) else []) (fun f => bif Nat.beq f 13 then journal_Entry_Right_hs else []) N 400 8 13 [.d tEntry3 a0] A0 K =
    journal_Entry_Right_p N a0 (fun d1 m1 => K (V.d (Ty.int IntKind.i64) (dk d1 0)) []) := by
  rw [journal_Entry_Right_pe]
  exact (show _ = jn (fun d1 m1 => (K (V.d (Ty.int IntKind.i64) (dk d1 0)) [])) (journal_Entry_Right_p0 N a0) by kernel_rfl).trans (jn_eq _ _)
noncomputable def journal_Entry_Right_g (N : Nat) {R : Type} : OvG R := fun xs _ K => match xs with
  | [.d t0 a0] => if t0 = tEntry3 then journal_Entry_Right_p N a0 (fun d1 m1 => K (V.d (Ty.int IntKind.i64) (dk d1 0)) []) else none
  | _ => none
theorem journal_Entry_Right_ok (N : Nat) {R : Type} : GOk (X0 gl0) 13 (journal_Entry_Right_g N (R := R)) := by
  intro xs A Kr r hr
  unfold journal_Entry_Right_g at hr
  split at hr
  · simp only [Option.ite_none_right_eq_some] at hr
    obtain ⟨hty, hr⟩ := hr
    subst hty
    rw [← journal_Entry_Right_run] at hr
    obtain ⟨v, L, h1, h2⟩ := exF_ok (ok0 gl0) (mo gl0) ((journal_Entry_Right_ov N).ov_ok _) (extX_ok gl0) _ _ _ _ _ _ hr
    exact ⟨v, L, h1.mono (leA_none fun _ => rfl), h2⟩
  · cases hr
end Go.Proofs.YtefppgmopnnphaaDoor


namespace Go.Proofs.YtefppgmopnnphaaDoor
open Go Go.E
set_option maxRecDepth 100000
set_option maxHeartbeats 4000000
set_option linter.unusedVariables false
noncomputable def ref30_Named_hs : Hints := [([1, 0, 1], ⟨[0], [], [], [], [], []⟩),
    ([4, 1, 0, 1], ⟨[0], [(3, .d (.int .i64))], [], [], [], []⟩),
    ([0, 1, 4, 0, 1, 5, 4, 1, 0, 1], ⟨[0, 3], [(5, .d .bool)], [], [], [], []⟩),
    ([0, 1, 1], ⟨[], [(2, .d .bool)], [], [], [], []⟩),
    ([9], ⟨[], [(2, .d .bool)], [], [], [], []⟩)]
noncomputable def ref30_Named_ov (N : Nat) : OvS (X0 gl0) where
  g R := []
  ok := fun R => fun _ h => nomatch h
noncomputable def ref30_Named_l1 {R : Type} (N : Nat) (k1 : KD R) (k2 : KD R) : KD R → List C → List Es → Option R := (fun k3 d1 m1 => (bif decide (C.toInt (dk d1 1) < (↑(List.length (C.toStr (dk d1 0))) : Int)) then (if 0 ≤ C.toInt (dk d1 1) ∧ C.toInt (dk d1 1) < (↑(List.length (C.toStr (dk d1 0))) : Int) then (jn (fun d2 m2 => (bif !C.toBool (dk d2 2) then (k1 [C.bool false] []) else (k3 [dk d2 0, C.int (IntKind.wrap IntKind.i64 (C.toInt (dk d2 1) + 1))] []))) (fun k4 => (bif decide ((↑(UInt8.toNat (List.getD (C.toStr (dk d1 0)) (Int.toNat (C.toInt (dk d1 1))) (UInt8.ofNat 0))) : Int) = 46) then (k4 [dk d1 0, dk d1 1, C.bool true] []) else (bif decide (97 ≤ (↑(UInt8.toNat (List.getD (C.toStr (dk d1 0)) (Int.toNat (C.toInt (dk d1 1))) (UInt8.ofNat 0))) : Int)) then (bif decide ((↑(UInt8.toNat (List.getD (C.toStr (dk d1 0)) (Int.toNat (C.toInt (dk d1 1))) (UInt8.ofNat 0))) : Int) ≤ 122) then (k4 [dk d1 0, dk d1 1, C.bool true] []) else (bif decide (48 ≤ (↑(UInt8.toNat (List.getD (C.toStr (dk d1 0)) (Int.toNat (C.toInt (dk d1 1))) (UInt8.ofNat 0))) : Int)) then (k4 [dk d1 0, dk d1 1, C.bool (decide ((↑(UInt8.toNat (List.getD (C.toStr (dk d1 0)) (Int.toNat (C.toInt (dk d1 1))) (UInt8.ofNat 0))) : Int) ≤ 57))] []) else (k4 [dk d1 0, dk d1 1, C.bool false] []))) else (bif decide (48 ≤ (↑(UInt8.toNat (List.getD (C.toStr (dk d1 0)) (Int.toNat (C.toInt (dk d1 1))) (UInt8.ofNat 0))) : Int)) then (k4 [dk d1 0, dk d1 1, C.bool (decide ((↑(UInt8.toNat (List.getD (C.toStr (dk d1 0)) (Int.toNat (C.toInt (dk d1 1))) (UInt8.ofNat 0))) : Int) ≤ 57))] []) else (k4 [dk d1 0, dk d1 1, C.bool false] [])))))) else none) else (k2 [dk d1 0] [])))
noncomputable def ref30_Named_p0 {R : Type} (N : Nat) (a0 : C) (k1 : KD R) : Option R := (jn (fun d1 m1 => (jn (fun d2 m2 => (k1 [C.bool (C.toBool (dk d2 0))] [])) (fun k2 => (bif decide (1 ≤ (↑(List.length (C.toStr (dk d1 0))) : Int)) then (k2 [C.bool (decide ((↑(List.length (C.toStr (dk d1 0))) : Int) ≤ 20))] []) else (k2 [C.bool false] []))))) (fun k2 => (loopK N (ref30_Named_l1 N k1 k2) [a0, C.int 0] [])))
noncomputable def ref30_Named_p {R : Type} (N : Nat) : C → KD R → Option R := lid "ref30_Named_p N" (ref30_Named_p0 N)
theorem ref30_Named_pe {R : Type} (N : Nat) (a0 : C) (k : KD R) : ref30_Named_p N a0 k = ref30_Named_p0 N a0 k := by unfold ref30_Named_p; rw [lid_eq]
theorem ref30_Named_run {R : Type} (N : Nat) (a0 : C) (K : V → List (Key × O) → Option R) : exF (X0 gl0) ((ref30_Named_ov N).ov R) extX noX (fun f => bif Nat.beq f 26 then ref30_Named_hs else []) N 400 8 26 [.d .str a0] A0 K =
    ref30_Named_p N a0 (fun d1 m1 => K (V.d Ty.bool (C.bool (C.toBool (dk d1 0)))) []) := by
  rw [ref30_Named_pe]
  exact (show _ = jn (fun d1 m1 => (K (V.d Ty.bool (C.bool (C.toBool (dk d1 0)))) [])) (ref30_Named_p0 N a0) by kernel_rfl).trans (jn_eq _ _)
noncomputable def ref30_Named_g (N : Nat) {R : Type} : OvG R := fun xs _ K => match xs with
  | [.d t0 a0] => if t0 = .str then ref30_Named_p N a0 (fun d1 m1 => K (V.d Ty.bool (C.bool (C.toBool (dk d1 0)))) []) else none
  | _ => none
theorem ref30_Named_ok (N : Nat) {R : Type} : GOk (X0 gl0) 26 (ref30_Named_g N (R := R)) := by
  intro xs A Kr r hr
  unfold ref30_Named_g at hr
  split at hr
  · simp only [Option.ite_none_right_eq_some] at hr
    obtain ⟨hty, hr⟩ := hr
    subst hty
    rw [← ref30_Named_run] at hr
    obtain ⟨v, L, h1, h2⟩ := exF_ok (ok0 gl0) (mo gl0) ((ref30_Named_ov N).ov_ok _) (extX_ok gl0) _ _ _ _ _ _ hr
    exact ⟨v, L, h1.mono (leA_none fun _ => rfl), h2⟩
  · cases hr
end Go.Proofs.YtefppgmopnnphaaDoor


namespace Go.Proofs.YtefppgmopnnphaaDoor
open Go Go.E
set_option maxRecDepth 100000
set_option maxHeartbeats 4000000
set_option linter.unusedVariables false
noncomputable def ref02_Add_hs : Hints := [([9], ⟨[], [(4, .d (.int .u64)), (5, .d (.int .i64))], [], [], [], []⟩)]
noncomputable def ref02_Add_ov (N : Nat) : OvS (X0 gl0) where
  g R := []
  ok := fun R => fun _ h => nomatch h
noncomputable def ref02_Add_p0 {R : Type} (N : Nat) (a0 a1 : C) (k1 : KD R) : Option R := (bif decide (IntKind.wrap IntKind.u64 (18446744073709551615 - C.toInt a0) < C.toInt a1) then (k1 [C.int 0, C.int 11] []) else (k1 [C.int (IntKind.wrap IntKind.u64 (C.toInt a0 + C.toInt a1)), C.int 0] []))
noncomputable def ref02_Add_p {R : Type} (N : Nat) : C → C → KD R → Option R := lid "ref02_Add_p N" (ref02_Add_p0 N)
theorem ref02_Add_pe {R : Type} (N : Nat) (a0 a1 : C) (k : KD R) : ref02_Add_p N a0 a1 k = ref02_Add_p0 N a0 a1 k := by unfold ref02_Add_p; rw [lid_eq]
theorem ref02_Add_run {R : Type} (N : Nat) (a0 a1 : C) (K : V → List (Key × O) → Option R) : exF (X0 gl0) ((ref02_Add_ov N).ov R) extX noX (fun f => bif Nat.beq f 27 then ref02_Add_hs else []) N 400 8 27 [.d (.int .u64) a0, .d (.int .u64) a1] A0 K =
    ref02_Add_p N a0 a1 (fun d1 m1 => K (V.tup [V.d (Ty.int IntKind.u64) (dk d1 0), V.d (Ty.int IntKind.i64) (dk d1 1)]) []) := by
  rw [ref02_Add_pe]
  exact (show _ = jn (fun d1 m1 => (K (V.tup [V.d (Ty.int IntKind.u64) (dk d1 0), V.d (Ty.int IntKind.i64) (dk d1 1)]) [])) (ref02_Add_p0 N a0 a1) by kernel_rfl).trans (jn_eq _ _)
noncomputable def ref02_Add_g (N : Nat) {R : Type} : OvG R := fun xs _ K => match xs with
  | [.d t0 a0, .d t1 a1] => if t0 = (.int .u64) ∧ t1 = (.int .u64) then ref02_Add_p N a0 a1 (fun d1 m1 => K (V.tup [V.d (Ty.int IntKind.u64) (dk d1 0), V.d (Ty.int IntKind.i64) (dk d1 1)]) []) else none
  | _ => none
theorem ref02_Add_ok (N : Nat) {R : Type} : GOk (X0 gl0) 27 (ref02_Add_g N (R := R)) := by
  intro xs A Kr r hr
  unfold ref02_Add_g at hr
  split at hr
  · simp only [Option.ite_none_right_eq_some] at hr
    obtain ⟨hty, hr⟩ := hr
    obtain ⟨rfl, rfl⟩ := hty
    rw [← ref02_Add_run] at hr
    obtain ⟨v, L, h1, h2⟩ := exF_ok (ok0 gl0) (mo gl0) ((ref02_Add_ov N).ov_ok _) (extX_ok gl0) _ _ _ _ _ _ hr
    exact ⟨v, L, h1.mono (leA_none fun _ => rfl), h2⟩
  · cases hr
end Go.Proofs.YtefppgmopnnphaaDoor


namespace Go.Proofs.YtefppgmopnnphaaDoor
open Go Go.E
set_option maxRecDepth 100000
set_option maxHeartbeats 4000000
set_option linter.unusedVariables false
noncomputable def ref30_Right_hs : Hints := [([0, 0, 1], ⟨[1], [(17, .d .bool)], [], [], [], []⟩),
    ([1, 0, 1, 1], ⟨[1], [], [], [], [], []⟩),
    ([4, 1, 0, 1, 1], ⟨[1], [(3, .d (.int .i64))], [], [], [], []⟩),
    ([0, 4, 0, 1, 5, 4, 1, 0, 1, 1], ⟨[1, 3], [(41, .d .bool)], [], [], [], []⟩),
    ([1, 0, 1, 1, 1, 1], ⟨[], [(4, .d (.int .u64)), (5, .d (.int .u64))], [], [], [], []⟩),
    ([4, 1, 0, 1, 1, 1, 1], ⟨[1], [(4, .d (.int .u64)), (5, .d (.int .u64)), (7, .d (.int .i64))], [], [], [], []⟩),
    ([1, 0, 4, 0, 1, 5, 4, 1, 0, 1, 1, 1, 1], ⟨[1, 7], [(4, .d (.int .u64)), (5, .d (.int .u64)), (6, .d (.int .i64))], [], [], [], []⟩),
    ([9], ⟨[], [(2, .d (.int .i64))], [], [], [], []⟩)]
noncomputable def ref30_Right_ov (N : Nat) : OvS (X0 gl0) where
  g R := [(26, ref30_Named_g N), (27, ref02_Add_g N)]
  ok := fun R => List.forall_mem_cons.2 ⟨ref30_Named_ok N, List.forall_mem_cons.2 ⟨ref02_Add_ok N, fun _ h => nomatch h⟩⟩
noncomputable def ref30_Right_l1 {R : Type} (N : Nat) (k1 : KD R) (k2 : KD R) : KD R → List C → List Es → Option R := (fun k3 d3 m3 => (bif decide (C.toInt (dk d3 3) < (↑(List.length (C.elems (C.get (dk d3 0) 1))) : Int)) then (if 0 ≤ C.toInt (dk d3 3) ∧ C.toInt (dk d3 3) < (↑(List.length (C.elems (C.get (dk d3 0) 1))) : Int) then (jn (fun d4 m4 => (bif !decide (C.toInt (dk d4 4) = 0) then (k1 [dk d4 4] []) else (k3 [dk d4 0, dk d4 2, dk d4 3, C.int (IntKind.wrap IntKind.i64 (C.toInt (dk d4 1) + 1))] []))) (fun k4 => (bif C.toBool (C.get (List.getD (C.elems (C.get (dk d3 0) 1)) (Int.toNat (C.toInt (dk d3 3))) C.nil) 2) then (if 0 ≤ C.toInt (dk d3 3) ∧ C.toInt (dk d3 3) < (↑(List.length (C.elems (C.get (dk d3 0) 1))) : Int) then (ref02_Add_p N (dk d3 2) (C.get (List.getD (C.elems (C.get (dk d3 0) 1)) (Int.toNat (C.toInt (dk d3 3))) C.nil) 1) (fun d4 m4 => (k4 [dk d3 0, dk d3 3, dk d3 1, dk d4 0, dk d4 1] []))) else none) else (if 0 ≤ C.toInt (dk d3 3) ∧ C.toInt (dk d3 3) < (↑(List.length (C.elems (C.get (dk d3 0) 1))) : Int) then (ref02_Add_p N (dk d3 1) (C.get (List.getD (C.elems (C.get (dk d3 0) 1)) (Int.toNat (C.toInt (dk d3 3))) C.nil) 1) (fun d4 m4 => (k4 [dk d3 0, dk d3 3, dk d4 0, dk d3 2, dk d4 1] []))) else none)))) else none) else (k2 [dk d3 1, dk d3 2] [])))
noncomputable def ref30_Right_l2 {R : Type} (N : Nat) (k1 : KD R) (k2 : KD R) : KD R → List C → List Es → Option R := (fun k3 d2 m2 => (bif decide (C.toInt (dk d2 1) < (↑(List.length (C.elems (C.get (dk d2 0) 1))) : Int)) then (jn (fun d3 m3 => (bif C.toBool (dk d3 2) then (k1 [C.int 10] []) else (k3 [dk d3 0, C.int (IntKind.wrap IntKind.i64 (C.toInt (dk d3 1) + 1))] []))) (fun k4 => (if 0 ≤ C.toInt (dk d2 1) ∧ C.toInt (dk d2 1) < (↑(List.length (C.elems (C.get (dk d2 0) 1))) : Int) then (ref30_Named_p N (C.get (List.getD (C.elems (C.get (dk d2 0) 1)) (Int.toNat (C.toInt (dk d2 1))) C.nil) 0) (fun d3 m3 => (bif !C.toBool (dk d3 0) then (k4 [dk d2 0, dk d2 1, C.bool true] []) else (if 0 ≤ C.toInt (dk d2 1) ∧ C.toInt (dk d2 1) < (↑(List.length (C.elems (C.get (dk d2 0) 1))) : Int) then (k4 [dk d2 0, dk d2 1, C.bool (decide (C.toInt (C.get (List.getD (C.elems (C.get (dk d2 0) 1)) (Int.toNat (C.toInt (dk d2 1))) C.nil) 1) = 0))] []) else none)))) else none))) else (k2 [dk d2 0] [])))
noncomputable def ref30_Right_p0 {R : Type} (N : Nat) (a0 : C) (k1 : KD R) : Option R := (jn (fun d1 m1 => (bif C.toBool (dk d1 1) then (k1 [C.int 1] []) else (jn (fun d2 m2 => (jn (fun d3 m3 => (bif !decide (C.toInt (dk d3 0) = C.toInt (dk d3 1)) then (k1 [C.int 12] []) else (k1 [C.int 0] []))) (fun k2 => (loopK N (ref30_Right_l1 N k1 k2) [dk d2 0, C.int 0, C.int 0, C.int 0] [])))) (fun k2 => (loopK N (ref30_Right_l2 N k1 k2) [dk d1 0, C.int 0] []))))) (fun k2 => (bif decide ((↑(List.length (C.elems (C.get a0 1))) : Int) < 2) then (k2 [a0, C.bool true] []) else (k2 [a0, C.bool (decide (8 < (↑(List.length (C.elems (C.get a0 1))) : Int)))] []))))
noncomputable def ref30_Right_p {R : Type} (N : Nat) : C → KD R → Option R := lid "ref30_Right_p N" (ref30_Right_p0 N)
theorem ref30_Right_pe {R : Type} (N : Nat) (a0 : C) (k : KD R) : ref30_Right_p N a0 k = ref30_Right_p0 N a0 k := by unfold ref30_Right_p; rw [lid_eq]
theorem ref30_Right_run {R : Type} (N : Nat) (a0 : C) (K : V → List (Key × O) → Option R) : exF (X0 gl0) ((ref30_Right_ov N).ov R) extX (fun f r => bif Nat.beq f 12 then (bif Nat.beq r 0 then [(1, 5)] else []) else []) (fun f => bif Nat.beq f 12 then ref30_Right_hs else []) N 400 8 12 [.d tEntry3 a0] A0 K =
    ref30_Right_p N a0 (fun d1 m1 => K (V.d (Ty.int IntKind.i64) (dk d1 0)) []) := by
  rw [ref30_Right_pe]
  exact (show _ = jn (fun d1 m1 => (K (V.d (Ty.int IntKind.i64) (dk d1 0)) [])) (ref30_Right_p0 N a0) by kernel_rfl).trans (jn_eq _ _)
noncomputable def ref30_Right_g (N : Nat) {R : Type} : OvG R := fun xs _ K => match xs with
  | [.d t0 a0] => if t0 = tEntry3 then ref30_Right_p N a0 (fun d1 m1 => K (V.d (Ty.int IntKind.i64) (dk d1 0)) []) else none
  | _ => none
theorem ref30_Right_ok (N : Nat) {R : Type} : GOk (X0 gl0) 12 (ref30_Right_g N (R := R)) := by
  intro xs A Kr r hr
  unfold ref30_Right_g at hr
  split at hr
  · simp only [Option.ite_none_right_eq_some] at hr
    obtain ⟨hty, hr⟩ := hr
    subst hty
    rw [← ref30_Right_run] at hr
    obtain ⟨v, L, h1, h2⟩ := exF_ok (ok0 gl0) (mo gl0) ((ref30_Right_ov N).ov_ok _) (extX_ok gl0) _ _ _ _ _ _ hr
    exact ⟨v, L, h1.mono (leA_none fun _ => rfl), h2⟩
  · cases hr
end Go.Proofs.YtefppgmopnnphaaDoor


namespace Go.Proofs.YtefppgmopnnphaaDoor
open Go Go.E
set_option maxRecDepth 100000
set_option maxHeartbeats 4000000
set_option linter.unusedVariables false
noncomputable def ref30_Same_hs : Hints := [([1, 0, 1, 1], ⟨[], [], [], [], [], []⟩),
    ([4, 1, 0, 1, 1], ⟨[0, 1], [(5, .d (.int .i64))], [], [], [], []⟩),
    ([0, 0, 4, 0, 1, 5, 4, 1, 0, 1, 1], ⟨[0, 1, 5], [(43, .d .bool)], [], [], [], []⟩),
    ([1, 1, 4, 0, 1, 5, 4, 1, 0, 1, 1], ⟨[0, 1, 5], [], [], [], [], []⟩),
    ([4, 1, 1, 4, 0, 1, 5, 4, 1, 0, 1, 1], ⟨[0, 1, 5], [(6, .d (.int .i64))], [], [], [], []⟩),
    ([9], ⟨[], [(4, .d .bool)], [], [], [], []⟩)]
noncomputable def ref30_Same_ov (N : Nat) : OvS (X0 gl0) where
  g R := []
  ok := fun R => fun _ h => nomatch h
noncomputable def ref30_Same_l1 {R : Type} (N : Nat) (k1 : KD R) (k4 : KD R) : KD R → List C → List Es → Option R := (fun k5 d3 m3 => (if 0 ≤ C.toInt (dk d3 2) ∧ C.toInt (dk d3 2) < (↑(List.length (C.elems (dk d3 0))) : Int) then (bif decide (C.toInt (dk d3 3) < (↑(List.length (C.elems (C.get (List.getD (C.elems (dk d3 0)) (Int.toNat (C.toInt (dk d3 2))) C.nil) 1))) : Int)) then (if 0 ≤ C.toInt (dk d3 2) ∧ C.toInt (dk d3 2) < (↑(List.length (C.elems (dk d3 0))) : Int) then (if 0 ≤ C.toInt (dk d3 3) ∧ C.toInt (dk d3 3) < (↑(List.length (C.elems (C.get (List.getD (C.elems (dk d3 0)) (Int.toNat (C.toInt (dk d3 2))) C.nil) 1))) : Int) then (if 0 ≤ C.toInt (dk d3 2) ∧ C.toInt (dk d3 2) < (↑(List.length (C.elems (dk d3 1))) : Int) then (if 0 ≤ C.toInt (dk d3 3) ∧ C.toInt (dk d3 3) < (↑(List.length (C.elems (C.get (List.getD (C.elems (dk d3 1)) (Int.toNat (C.toInt (dk d3 2))) C.nil) 1))) : Int) then (bif !C.beq (List.getD (C.elems (C.get (List.getD (C.elems (dk d3 0)) (Int.toNat (C.toInt (dk d3 2))) C.nil) 1)) (Int.toNat (C.toInt (dk d3 3))) C.nil) (List.getD (C.elems (C.get (List.getD (C.elems (dk d3 1)) (Int.toNat (C.toInt (dk d3 2))) C.nil) 1)) (Int.toNat (C.toInt (dk d3 3))) C.nil) then (k1 [C.bool false] []) else (k5 [dk d3 0, dk d3 1, dk d3 2, C.int (IntKind.wrap IntKind.i64 (C.toInt (dk d3 3) + 1))] [])) else none) else none) else none) else none) else (k4 [dk d3 0, dk d3 1, dk d3 2] [])) else none))
noncomputable def ref30_Same_l2 {R : Type} (N : Nat) (k1 : KD R) (k2 : KD R) : KD R → List C → List Es → Option R := (fun k3 d1 m1 => (bif decide (C.toInt (dk d1 2) < (↑(List.length (C.elems (dk d1 0))) : Int)) then (jn (fun d2 m2 => (bif C.toBool (dk d2 3) then (k1 [C.bool false] []) else (jn (fun d3 m3 => (k3 [dk d3 0, dk d3 1, C.int (IntKind.wrap IntKind.i64 (C.toInt (dk d3 2) + 1))] [])) (fun k4 => (loopK N (ref30_Same_l1 N k1 k4) [dk d2 0, dk d2 1, dk d2 2, C.int 0] []))))) (fun k4 => (if 0 ≤ C.toInt (dk d1 2) ∧ C.toInt (dk d1 2) < (↑(List.length (C.elems (dk d1 0))) : Int) then (if 0 ≤ C.toInt (dk d1 2) ∧ C.toInt (dk d1 2) < (↑(List.length (C.elems (dk d1 1))) : Int) then (bif !decide (C.toInt (C.get (List.getD (C.elems (dk d1 0)) (Int.toNat (C.toInt (dk d1 2))) C.nil) 0) = C.toInt (C.get (List.getD (C.elems (dk d1 1)) (Int.toNat (C.toInt (dk d1 2))) C.nil) 0)) then (k4 [dk d1 0, dk d1 1, dk d1 2, C.bool true] []) else (if 0 ≤ C.toInt (dk d1 2) ∧ C.toInt (dk d1 2) < (↑(List.length (C.elems (dk d1 0))) : Int) then (if 0 ≤ C.toInt (dk d1 2) ∧ C.toInt (dk d1 2) < (↑(List.length (C.elems (dk d1 1))) : Int) then (k4 [dk d1 0, dk d1 1, dk d1 2, C.bool !decide ((↑(List.length (C.elems (C.get (List.getD (C.elems (dk d1 0)) (Int.toNat (C.toInt (dk d1 2))) C.nil) 1))) : Int) = (↑(List.length (C.elems (C.get (List.getD (C.elems (dk d1 1)) (Int.toNat (C.toInt (dk d1 2))) C.nil) 1))) : Int))] []) else none) else none)) else none) else none))) else (k2 [] [])))
noncomputable def ref30_Same_p0 {R : Type} (N : Nat) (a0 a1 : C) (k1 : KD R) : Option R := (bif !decide ((↑(List.length (C.elems a0)) : Int) = (↑(List.length (C.elems a1)) : Int)) then (k1 [C.bool false] []) else (jn (fun d1 m1 => (k1 [C.bool true] [])) (fun k2 => (loopK N (ref30_Same_l2 N k1 k2) [a0, a1, C.int 0] []))))
noncomputable def ref30_Same_p {R : Type} (N : Nat) : C → C → KD R → Option R := lid "ref30_Same_p N" (ref30_Same_p0 N)
theorem ref30_Same_pe {R : Type} (N : Nat) (a0 a1 : C) (k : KD R) : ref30_Same_p N a0 a1 k = ref30_Same_p0 N a0 a1 k := by unfold ref30_Same_p; rw [lid_eq]
theorem ref30_Same_run {R : Type} (N : Nat) (a0 a1 : C) (K : V → List (Key × O) → Option R) : exF (X0 gl0) ((ref30_Same_ov N).ov R) extX noX (fun f => bif Nat.beq f 14 then ref30_Same_hs else []) N 400 8 14 [.d (.slice 32 tEntry3) a0, .d (.slice 32 tEntry3) a1] A0 K =
    ref30_Same_p N a0 a1 (fun d1 m1 => K (V.d Ty.bool (C.bool (C.toBool (dk d1 0)))) []) := by
  rw [ref30_Same_pe]
  exact (show _ = jn (fun d1 m1 => (K (V.d Ty.bool (C.bool (C.toBool (dk d1 0)))) [])) (ref30_Same_p0 N a0 a1) by kernel_rfl).trans (jn_eq _ _)
noncomputable def ref30_Same_g (N : Nat) {R : Type} : OvG R := fun xs _ K => match xs with
  | [.d t0 a0, .d t1 a1] => if t0 = (.slice 32 tEntry3) ∧ t1 = (.slice 32 tEntry3) then ref30_Same_p N a0 a1 (fun d1 m1 => K (V.d Ty.bool (C.bool (C.toBool (dk d1 0)))) []) else none
  | _ => none
theorem ref30_Same_ok (N : Nat) {R : Type} : GOk (X0 gl0) 14 (ref30_Same_g N (R := R)) := by
  intro xs A Kr r hr
  unfold ref30_Same_g at hr
  split at hr
  · simp only [Option.ite_none_right_eq_some] at hr
    obtain ⟨hty, hr⟩ := hr
    obtain ⟨rfl, rfl⟩ := hty
    rw [← ref30_Same_run] at hr
    obtain ⟨v, L, h1, h2⟩ := exF_ok (ok0 gl0) (mo gl0) ((ref30_Same_ov N).ov_ok _) (extX_ok gl0) _ _ _ _ _ _ hr
    exact ⟨v, L, h1.mono (leA_none fun _ => rfl), h2⟩
  · cases hr
end Go.Proofs.YtefppgmopnnphaaDoor


namespace Go.Proofs.YtefppgmopnnphaaDoor
open Go Go.E
def W64 (a : Int) : Prop := 0 ≤ a ∧ a < 18446744073709551616
theorem wrap_u8 (x : Int) : IntKind.u8.wrap x = x % 256 := by simp [IntKind.wrap, IntKind.bits, IntKind.signed]
theorem getD_mem {l : List C} {i : Nat} (h : i < l.length) : l.getD i .nil ∈ l := by
  rw [List.getD_eq_getElem?_getD, List.getElem?_eq_getElem h]; exact List.getElem_mem h
end Go.Proofs.YtefppgmopnnphaaDoor


namespace Go.Proofs.YtefppgmopnnphaaDoor
open Go Go.E
set_option maxRecDepth 100000
set_option maxHeartbeats 4000000
set_option linter.unusedSimpArgs false
variable {R : Type} {N : Nat}
theorem entW {x : C} (h : C.wf tEntry3 x) : x.get 1 = .slice (x.get 1).elems ∧ (x.get 1).elems.length * 32 ≤ 140737488355328 ∧ ∀ p ∈ (x.get 1).elems, C.wf tPost p := by
  have t := C.wf_field (i := 1) (f := .slice 32 tPost) h rfl
  simp only [C.wf] at t
  exact ⟨t.1, t.2.1, t.2.2.2⟩
theorem law30_to_in (ps acc : List C) (a b c h : C) (hp : ∀ p ∈ ps, C.wf tPost p) (hl : ps.length * 32 ≤ 140737488355328) (hN : 4398046511105 < N) (k : KD R) :
    loopK N (law30_to_l1 N k) [a, b, c, .slice ps, .int (ps.length : Int), .slice acc, .int 0, h, .slice []] [] = k [a, b, c, .slice acc, h, .slice ps] [] := by
  refine loopK_count (fun i => [a, b, c, .slice ps, .int (ps.length : Int), .slice acc, .int (i : Int), h, .slice (ps.take i)]) (fun _ => []) ps.length (k [a, b, c, .slice acc, h, .slice ps] []) ?_ ?_ (by omega)
  · intro i hi rec
    have h1 : (i : Int) < (ps.length : Int) := by omega
    have h2 : (ps.take i).length = i := by simp; omega
    have h3 : IntKind.i64.wrap ((i : Int) + 1) = ((i + 1 : Nat) : Int) := wrap_succ (by omega)
    have h4 : ps.take (i + 1) = ps.take i ++ [ps.getD i .nil] := by
      rw [List.take_add_one, List.getElem?_eq_getElem hi, List.getD_eq_getElem?_getD, List.getElem?_eq_getElem hi]; rfl
    have h5 : C.agg [(ps.getD i .nil).get 0, (ps.getD i .nil).get 1, (ps.getD i .nil).get 2] = ps.getD i .nil := C.wf_eta (hp _ (getD_mem hi))
    unfold law30_to_l1
    simp only [go_sem, c_int, c_slice, c_bool, h1, h2, h3, h4, h5, List.length_append, List.length_cons, List.length_nil, Nat.zero_add, decide_true, cond_true, Int.natCast_nonneg, and_self, if_true, Int.toNat_natCast]
    rw [if_pos (by omega)]
  · intro rec
    unfold law30_to_l1
    simp only [go_sem, c_int, c_slice, c_bool, List.take_length, Int.lt_irrefl, decide_false, cond_false]
theorem law30_to_eq (l : List C) (hw : ∀ x ∈ l, C.wf tEntry3 x) (hl : l.length * 32 ≤ 140737488355328) (hN : 4398046511105 < N) (k : KD R) : law30_to_p N (.slice l) k = k [.slice l] [] := by
  rw [law30_to_pe]
  unfold law30_to_p0
  simp only [jn_eq, c_slice]
  refine loopK_count (fun i => [.slice l, .int (l.length : Int), .slice (l.take i), .int (i : Int)]) (fun _ => []) l.length (k [.slice l] []) ?_ ?_ (by omega)
  · intro i hi rec
    have h1 : (i : Int) < (l.length : Int) := by omega
    have h2 : (l.take i).length = i := by simp; omega
    have h3 : IntKind.i64.wrap ((i : Int) + 1) = ((i + 1 : Nat) : Int) := wrap_succ (by omega)
    have h4 : l.take (i + 1) = l.take i ++ [l.getD i .nil] := by
      rw [List.take_add_one, List.getElem?_eq_getElem hi, List.getD_eq_getElem?_getD, List.getElem?_eq_getElem hi]; rfl
    have hx := hw _ (getD_mem hi)
    have h5 : C.agg [(l.getD i .nil).get 0, (l.getD i .nil).get 1] = l.getD i .nil := C.wf_eta hx
    obtain ⟨p1, p2, p3⟩ := entW hx
    unfold law30_to_l2
    simp only [go_sem, c_int, c_slice, c_bool, h1, h2, h3, h4, List.length_append, List.length_cons, List.length_nil, Nat.zero_add, decide_true, cond_true, Int.natCast_nonneg, and_self, if_true, Int.toNat_natCast]
    rw [p1, c_slice, law30_to_in _ _ _ _ _ _ p3 p2 hN]
    simp only [go_sem, c_int, c_slice, c_bool, h2, h3, List.length_append, List.length_cons, List.length_nil, Nat.zero_add, if_true]
    rw [if_pos (by omega), ← p1, h5]
  · intro rec
    unfold law30_to_l2
    simp only [go_sem, c_int, c_slice, c_bool, List.take_length, Int.lt_irrefl, decide_false, cond_false]
theorem law30_from_in (ps acc : List C) (a b c h : C) (hp : ∀ p ∈ ps, C.wf tPost p) (hl : ps.length * 32 ≤ 140737488355328) (hN : 4398046511105 < N) (k : KD R) :
    loopK N (law30_from_l1 N k) [a, b, c, .slice ps, .int (ps.length : Int), .slice acc, .int 0, h, .slice []] [] = k [a, b, c, .slice acc, h, .slice ps] [] := by
  refine loopK_count (fun i => [a, b, c, .slice ps, .int (ps.length : Int), .slice acc, .int (i : Int), h, .slice (ps.take i)]) (fun _ => []) ps.length (k [a, b, c, .slice acc, h, .slice ps] []) ?_ ?_ (by omega)
  · intro i hi rec
    have h1 : (i : Int) < (ps.length : Int) := by omega
    have h2 : (ps.take i).length = i := by simp; omega
    have h3 : IntKind.i64.wrap ((i : Int) + 1) = ((i + 1 : Nat) : Int) := wrap_succ (by omega)
    have h4 : ps.take (i + 1) = ps.take i ++ [ps.getD i .nil] := by
      rw [List.take_add_one, List.getElem?_eq_getElem hi, List.getD_eq_getElem?_getD, List.getElem?_eq_getElem hi]; rfl
    have h5 : C.agg [(ps.getD i .nil).get 0, (ps.getD i .nil).get 1, (ps.getD i .nil).get 2] = ps.getD i .nil := C.wf_eta (hp _ (getD_mem hi))
    unfold law30_from_l1
    simp only [go_sem, c_int, c_slice, c_bool, h1, h2, h3, h4, h5, List.length_append, List.length_cons, List.length_nil, Nat.zero_add, decide_true, cond_true, Int.natCast_nonneg, and_self, if_true, Int.toNat_natCast]
    rw [if_pos (by omega)]
  · intro rec
    unfold law30_from_l1
    simp only [go_sem, c_int, c_slice, c_bool, List.take_length, Int.lt_irrefl, decide_false, cond_false]
theorem law30_from_eq (l : List C) (hw : ∀ x ∈ l, C.wf tEntry3 x) (hl : l.length * 32 ≤ 140737488355328) (hN : 4398046511105 < N) (k : KD R) : law30_from_p N (.slice l) k = k [.slice l] [] := by
  rw [law30_from_pe]
  unfold law30_from_p0
  simp only [jn_eq, c_slice]
  refine loopK_count (fun i => [.slice l, .int (l.length : Int), .slice (l.take i), .int (i : Int)]) (fun _ => []) l.length (k [.slice l] []) ?_ ?_ (by omega)
  · intro i hi rec
    have h1 : (i : Int) < (l.length : Int) := by omega
    have h2 : (l.take i).length = i := by simp; omega
    have h3 : IntKind.i64.wrap ((i : Int) + 1) = ((i + 1 : Nat) : Int) := wrap_succ (by omega)
    have h4 : l.take (i + 1) = l.take i ++ [l.getD i .nil] := by
      rw [List.take_add_one, List.getElem?_eq_getElem hi, List.getD_eq_getElem?_getD, List.getElem?_eq_getElem hi]; rfl
    have hx := hw _ (getD_mem hi)
    have h5 : C.agg [(l.getD i .nil).get 0, (l.getD i .nil).get 1] = l.getD i .nil := C.wf_eta hx
    obtain ⟨p1, p2, p3⟩ := entW hx
    unfold law30_from_l2
    simp only [go_sem, c_int, c_slice, c_bool, h1, h2, h3, h4, List.length_append, List.length_cons, List.length_nil, Nat.zero_add, decide_true, cond_true, Int.natCast_nonneg, and_self, if_true, Int.toNat_natCast]
    rw [p1, c_slice, law30_from_in _ _ _ _ _ _ p3 p2 hN]
    simp only [go_sem, c_int, c_slice, c_bool, h2, h3, List.length_append, List.length_cons, List.length_nil, Nat.zero_add, if_true]
    rw [if_pos (by omega), ← p1, h5]
  · intro rec
    unfold law30_from_l2
    simp only [go_sem, c_int, c_slice, c_bool, List.take_length, Int.lt_irrefl, decide_false, cond_false]
theorem runE_foldl {α σ ε : Type} (g : σ → α → σ) : ∀ (l : List α) (i : Nat) (s : σ), runE (ε := ε) (fun _ s c => .inl (g s c)) i s l = .inl (l.foldl g s)
  | [], _, _ => rfl
  | c :: l, i, s => by simp only [runE, List.foldl_cons]; exact runE_foldl g l (i + 1) (g s c)
def stepL (s : Int) (p : C) : Int := IntKind.wrap IntKind.i64 (s + IntKind.wrap IntKind.i64 (1 + ((p.get 0).toStr.length : Int)))
def cntL (l : List C) : Int := l.foldl (fun n x => (x.get 1).elems.foldl stepL n) 0
def lightB (l : List C) : Bool := decide (cntL l ≤ 5000) && decide ((l.length : Int) ≤ 200)
theorem law30_light_in (ps : List C) (a b c d : C) (n : Int) (hl : ps.length * 32 ≤ 140737488355328) (hN : 4398046511105 < N) (k : KD R) :
    loopK N (law30_light_l1 N k) [a, b, c, d, .slice ps, .int (ps.length : Int), .int n, .int 0] [] = k [a, b, c, d, .int (ps.foldl stepL n)] [] := by
  have key := loopK_run0 (ε := Unit) (N := N) (F := law30_light_l1 N k) (fun i (s : Int) => [a, b, c, d, .slice ps, .int (ps.length : Int), .int s, .int (i : Int)]) (fun _ _ => []) ps
      (fun _ s p => .inl (stepL s p)) (fun s => k [a, b, c, d, .int s] []) (fun _ => none) (s0 := n)
      (fun i s p hp hi rec => by
        have h1 : (i : Int) < (ps.length : Int) := by omega
        unfold law30_light_l1 stepL
        simp only [go_sem, c_int, c_slice, c_bool, h1, getD_of hp, decide_true, cond_true, Int.natCast_nonneg, and_self, if_true, Int.toNat_natCast, wrap_succ (show i < 4611686018427387904 by omega)])
      (fun s rec => by
        unfold law30_light_l1
        simp only [go_sem, c_int, c_slice, c_bool, Int.lt_irrefl, decide_false, cond_false]) (by omega)
  rw [runE_foldl] at key
  exact key
theorem law30_light_eq (l : List C) (hw : ∀ x ∈ l, C.wf tEntry3 x) (hl : l.length * 32 ≤ 140737488355328) (hN : 4398046511105 < N) (k : KD R) : law30_light_p N (.slice l) k = k [.bool (lightB l)] [] := by
  rw [law30_light_pe]
  unfold law30_light_p0
  simp only [jn_eq, c_slice]
  have key := loopK_run0 (ε := Unit) (N := N) (F := law30_light_l2 N (fun d1 m1 => (fun k2 : KD R => (bif decide (C.toInt (dk d1 1) ≤ 5000) then (k2 [C.bool (decide ((↑(List.length (C.elems (dk d1 0))) : Int) ≤ 200))] []) else (k2 [C.bool false] []))) (fun d2 m2 => k [C.bool (C.toBool (dk d2 0))] [])))
      (fun i (s : Int) => [.slice l, .slice l, .int (l.length : Int), .int s, .int (i : Int)]) (fun _ _ => []) l
      (fun _ s x => .inl ((x.get 1).elems.foldl stepL s)) (fun s => k [.bool (decide (s ≤ 5000) && decide ((l.length : Int) ≤ 200))] []) (fun _ => none) (s0 := 0)
      (fun i s x hx hi rec => by
        have h1 : (i : Int) < (l.length : Int) := by omega
        obtain ⟨p1, p2, p3⟩ := entW (hw x (List.mem_of_getElem? hx))
        unfold law30_light_l2
        simp only [go_sem, c_int, c_slice, c_bool, h1, getD_of hx, decide_true, cond_true, Int.natCast_nonneg, and_self, if_true, Int.toNat_natCast]
        rw [p1, c_slice, law30_light_in _ _ _ _ _ _ p2 hN]
        simp only [go_sem, c_int, wrap_succ (show i < 4611686018427387904 by omega)])
      (fun s rec => by
        unfold law30_light_l2
        simp only [go_sem, c_int, c_slice, c_bool, Int.lt_irrefl, decide_false, cond_false]
        by_cases h : s ≤ 5000 <;> simp [h, c_bool] <;> rfl) (by omega)
  rw [runE_foldl] at key
  exact key
theorem nameB_dec (b : UInt8) : nameB b = (decide ((b.toNat : Int) = 46) || ((decide (97 ≤ (b.toNat : Int)) && decide ((b.toNat : Int) ≤ 122)) || (decide (48 ≤ (b.toNat : Int)) && decide ((b.toNat : Int) ≤ 57)))) := by
  unfold nameB
  by_cases h1 : b.toNat = 46
  · simp [h1]
  · have : ¬ ((b.toNat : Int) = 46) := by omega
    simp only [this, decide_false, Bool.false_or]
    have e1 : decide (97 ≤ (b.toNat : Int)) = decide (97 ≤ b.toNat) := by congr 1; simp; omega
    have e2 : decide ((b.toNat : Int) ≤ 122) = decide (b.toNat ≤ 122) := by congr 1; simp; omega
    have e3 : decide (48 ≤ (b.toNat : Int)) = decide (48 ≤ b.toNat) := by congr 1; simp; omega
    have e4 : decide ((b.toNat : Int) ≤ 57) = decide (b.toNat ≤ 57) := by congr 1; simp; omega
    have e5 : (b.toNat == 46) = false := by simpa using h1
    rw [e1, e2, e3, e4, e5, Bool.or_false]
theorem runE_all {α : Type} (p : α → Bool) : ∀ (l : List α) (i : Nat), runE (σ := Unit) (ε := Unit) (fun _ _ c => bif p c then .inl () else .inr ()) i () l = bif l.all p then .inl () else .inr ()
  | [], _ => rfl
  | c :: l, i => by
    simp only [runE, List.all_cons]
    cases p c with
    | true => simpa using runE_all p l (i + 1)
    | false => rfl
theorem ref30_Named_eq (s : C) (hl : s.toStr.length ≤ 140737488355328) (hN : 140737488355329 < N) (k : KD R) : ref30_Named_p N s k = k [.bool (namedF s.toStr)] [] := by
  rw [ref30_Named_pe]
  unfold ref30_Named_p0
  simp only [jn_eq]
  have key := loopK_run0 (σ := Unit) (ε := Unit) (N := N) (F := ref30_Named_l1 N k (fun d1 m1 => (fun k2 : KD R => (bif decide (1 ≤ (↑(List.length (C.toStr (dk d1 0))) : Int)) then (k2 [C.bool (decide ((↑(List.length (C.toStr (dk d1 0))) : Int) ≤ 20))] []) else (k2 [C.bool false] []))) (fun d2 m2 => k [C.bool (C.toBool (dk d2 0))] [])))
      (fun i _ => [s, .int (i : Int)]) (fun _ _ => []) s.toStr (fun _ _ c => bif nameB c then .inl () else .inr ())
      (fun _ => k [.bool (decide (1 ≤ s.toStr.length) && decide (s.toStr.length ≤ 20))] []) (fun _ => k [.bool false] []) (s0 := ())
      (fun i _ b hb hi rec => by
        have h1 : (i : Int) < (s.toStr.length : Int) := by omega
        have h2 : ∀ d, s.toStr.getD i d = b := fun d => by rw [List.getD_eq_getElem?_getD, hb]; rfl
        unfold ref30_Named_l1
        rw [nameB_dec]
        simp only [go_sem, jn_eq, c_int, c_slice, c_bool, h1, h2, decide_true, cond_true, Int.natCast_nonneg, and_self, if_true, Int.toNat_natCast, wrap_succ (show i < 4611686018427387904 by omega)]
        generalize (b.toNat : Int) = n
        by_cases a1 : n = 46
        · simp [a1, c_bool]
        · by_cases a2 : 97 ≤ n <;> by_cases a3 : n ≤ 122 <;> by_cases a4 : 48 ≤ n <;> by_cases a5 : n ≤ 57 <;> simp [a1, a2, a3, a4, a5, c_bool])
      (fun _ rec => by
        unfold ref30_Named_l1
        simp only [go_sem, c_int, c_slice, c_bool, Int.lt_irrefl, decide_false, cond_false]
        by_cases h : 1 ≤ s.toStr.length
        · have h' : (1 : Int) ≤ (s.toStr.length : Int) := by omega
          have e : decide ((s.toStr.length : Int) ≤ 20) = decide (s.toStr.length ≤ 20) := by congr 1; simp; omega
          rw [← e]
          simp [h, h', c_bool]
          rfl
        · have h' : ¬ (1 : Int) ≤ (s.toStr.length : Int) := by omega
          simp [h, h', c_bool]) (by omega)
  rw [runE_all] at key
  refine key.trans ?_
  unfold namedF
  cases s.toStr.all nameB with
  | true => simp [endE]
  | false => simp [endE]
def addS (s : Int × Int) (p : C) : (Int × Int) ⊕ Unit :=
  bif (p.get 2).toBool then (if s.2 + (p.get 1).toInt < 18446744073709551616 then .inl (s.1, s.2 + (p.get 1).toInt) else .inr ())
  else (if s.1 + (p.get 1).toInt < 18446744073709551616 then .inl (s.1 + (p.get 1).toInt, s.2) else .inr ())
theorem postW {p : C} (h : C.wf tPost p) : W64 (p.get 1).toInt := by
  have t := C.wf_field (i := 1) (f := .int .u64) h rfl
  simp only [C.wf] at t
  have m1 : IntKind.u64.min = 0 := by decide
  have m2 : IntKind.u64.max = 18446744073709551615 := by decide
  exact ⟨by omega, by omega⟩
theorem postN {p : C} (h : C.wf tPost p) : (p.get 0).toStr.length ≤ 140737488355328 := by
  have t := C.wf_field (i := 0) (f := .str) h rfl
  simp only [C.wf] at t
  exact t.2
theorem money_add (a b : C) (ha : W64 a.toInt) (hb : W64 b.toInt) (k : KD R) : money_Add_p N a b k = if a.toInt + b.toInt < 18446744073709551616 then k [.int (a.toInt + b.toInt), .int 0] [] else k [.int 0, .int 11] [] := by
  obtain ⟨a1, a2⟩ := ha
  obtain ⟨b1, b2⟩ := hb
  rw [money_Add_pe]
  unfold money_Add_p0
  by_cases h : a.toInt + b.toInt < 18446744073709551616
  · rw [if_pos h, show (a.toInt + b.toInt) / 18446744073709551616 = 0 from by omega, show (a.toInt + b.toInt) % 18446744073709551616 = a.toInt + b.toInt from by omega]
    rfl
  · rw [if_neg h, show decide ((a.toInt + b.toInt) / 18446744073709551616 = 0) = false from by rw [decide_eq_false_iff_not]; omega]
    rfl
theorem ref02_add (a b : C) (ha : W64 a.toInt) (hb : W64 b.toInt) (k : KD R) : ref02_Add_p N a b k = if a.toInt + b.toInt < 18446744073709551616 then k [.int (a.toInt + b.toInt), .int 0] [] else k [.int 0, .int 11] [] := by
  obtain ⟨a1, a2⟩ := ha
  obtain ⟨b1, b2⟩ := hb
  rw [ref02_Add_pe]
  unfold ref02_Add_p0
  rw [wrap_u64 (by omega) (by omega)]
  by_cases h : a.toInt + b.toInt < 18446744073709551616
  · rw [if_pos h, show decide (18446744073709551615 - a.toInt < b.toInt) = false from by rw [decide_eq_false_iff_not]; omega, wrap_u64 (by omega) h]
    rfl
  · rw [if_neg h, show decide (18446744073709551615 - a.toInt < b.toInt) = true from by rw [decide_eq_true_iff]; omega]
    rfl
def sidesR (ps : List C) : (Int × Int) ⊕ Unit := runE (fun _ s p => addS s p) 0 (0, 0) ps
def SidesP (s : Int × Int) : Prop := W64 s.1 ∧ W64 s.2
theorem addS_ok {s s' : Int × Int} {p : C} (h : SidesP s) (hp : W64 (p.get 1).toInt) (e : addS s p = .inl s') : SidesP s' := by
  obtain ⟨⟨a1, a2⟩, b1, b2⟩ := h
  obtain ⟨c1, c2⟩ := hp
  unfold addS at e
  cases hb : (p.get 2).toBool with
  | true =>
    rw [hb, cond_true] at e
    split at e
    · cases e; exact ⟨⟨a1, a2⟩, by dsimp only; omega, by dsimp only; omega⟩
    · cases e
  | false =>
    rw [hb, cond_false] at e
    split at e
    · cases e; exact ⟨⟨by dsimp only; omega, by dsimp only; omega⟩, b1, b2⟩
    · cases e
theorem sides_eq (x : C) (hx : C.wf tEntry3 x) (hN : 4398046511105 < N) (k : KD R) : journal_Entry_sides_p N x k = (match sidesR (x.get 1).elems with | .inl s => k [.int 0, .int s.1, .int s.2] [] | .inr _ => k [.int 11, .int 0, .int 0] []) := by
  obtain ⟨p1, p2, p3⟩ := entW hx
  rw [journal_Entry_sides_pe]
  unfold journal_Entry_sides_p0
  simp only [jn_eq]
  generalize (x.get 1).elems = ps at p1 p2 p3 ⊢
  rw [p1]
  have key := loopK_run (N := N) (F := journal_Entry_sides_l1 N k (fun d1 m1 => k [C.int 0, dk d1 0, dk d1 1] [])) (fun i (s : Int × Int) => [.slice ps, .int (ps.length : Int), .int (i : Int), .int s.1, .int s.2]) (fun _ _ => []) ps
      (fun _ s p => addS s p) (fun s => k [.int 0, .int s.1, .int s.2] []) (fun _ => k [.int 11, .int 0, .int 0] []) (fun i s => i ≤ ps.length ∧ SidesP s) (s0 := (0, 0)) ⟨Nat.zero_le _, by unfold W64; decide, by unfold W64; decide⟩
      (fun i s p hp hi => ⟨fun rec => by
        have hi2 := (List.getElem?_eq_some_iff.1 hp).1
        have h1 : (i : Int) < (ps.length : Int) := by omega
        have hw := postW (p3 p (List.mem_of_getElem? hp))
        obtain ⟨_, ⟨a1, a2⟩, b1, b2⟩ := hi
        unfold journal_Entry_sides_l1 addS
        simp only [go_sem, c_int, c_slice, c_bool, h1, getD_of hp, decide_true, cond_true, Int.natCast_nonneg, and_self, if_true, Int.toNat_natCast, wrap_succ (show i < 4611686018427387904 by omega)]
        rw [money_add _ _ (by simpa [c_int] using ⟨b1, b2⟩) hw, money_add _ _ (by simpa [c_int] using ⟨a1, a2⟩) hw]
        simp only [c_int]
        cases hb : (p.get 2).toBool with
        | true =>
          simp only [cond_true]
          by_cases h : s.2 + (p.get 1).toInt < 18446744073709551616 <;> simp [h, c_int, dk_0, dk_1]
        | false =>
          simp only [cond_false]
          by_cases h : s.1 + (p.get 1).toInt < 18446744073709551616 <;> simp [h, c_int, dk_0, dk_1], fun s' e => ⟨(List.getElem?_eq_some_iff.1 hp).1, addS_ok hi.2 (postW (p3 p (List.mem_of_getElem? hp))) e⟩⟩)
      (fun s hs rec => by
        unfold journal_Entry_sides_l1
        simp only [go_sem, c_int, c_slice, c_bool, Int.lt_irrefl, decide_false, cond_false]) (by omega)
  refine Eq.trans ?_ (key.trans ?_)
  · rfl
  · unfold sidesR
    cases runE (fun _ s p => addS s p) 0 (0, 0) ps <;> rfl
def postOk (p : C) : Bool := namedF (p.get 0).toStr && !decide ((p.get 1).toInt = 0)
def rightN (ps : List C) : Int :=
  if ps.length < 2 ∨ 8 < ps.length then 1
  else bif ps.all postOk then (match sidesR ps with | .inl s => if s.1 = s.2 then 0 else 12 | .inr _ => 11) else 10
theorem Right_eq (x : C) (hx : C.wf tEntry3 x) (hN : 4398046511105 < N) (k : KD R) : journal_Entry_Right_p N x k = k [.int (rightN (x.get 1).elems)] [] := by
  obtain ⟨p1, p2, p3⟩ := entW hx
  rw [journal_Entry_Right_pe]
  unfold journal_Entry_Right_p0 rightN
  simp only [jn_eq]
  by_cases h2 : (x.get 1).elems.length < 2
  · have h2' : ((x.get 1).elems.length : Int) < 2 := by omega
    simp [h2, h2', c_bool, dk_0, dk_1]
  · have h2' : ¬ ((x.get 1).elems.length : Int) < 2 := by omega
    by_cases h8 : 8 < (x.get 1).elems.length
    · have h8' : (8 : Int) < ((x.get 1).elems.length : Int) := by omega
      simp [h2, h2', h8, h8', c_bool, dk_0, dk_1]
    · have h8' : ¬ (8 : Int) < ((x.get 1).elems.length : Int) := by omega
      rw [if_neg (by omega)]
      simp only [h2', h8', decide_false, cond_false, dk_0, dk_1, c_bool]
      have e1 : x.get 1 = .slice (x.get 1).elems := p1
      have es := sides_eq (R := R) x hx hN
      generalize hps : (x.get 1).elems = ps at *
      rw [e1]
      have key := loopK_run0 (σ := Unit) (ε := Unit) (N := N) (F := journal_Entry_Right_l1 N k (fun d2 m2 => journal_Entry_sides_p N (dk d2 0) (fun d3 m3 => (bif !decide (C.toInt (dk d3 0) = 0) then (k [dk d3 0] []) else (bif !decide (C.toInt (dk d3 1) = C.toInt (dk d3 2)) then (k [C.int 12] []) else (k [C.int 0] []))))))
        (fun i _ => [x, .slice ps, .int (ps.length : Int), .int (i : Int)]) (fun _ _ => []) ps (fun _ _ p => bif postOk p then .inl () else .inr ())
        (fun _ => k [.int (match sidesR ps with | .inl s => if s.1 = s.2 then 0 else 12 | .inr _ => 11)] []) (fun _ => k [.int 10] []) (s0 := ())
        (fun i _ p hp hi rec => by
          have h1 : (i : Int) < (ps.length : Int) := by omega
          unfold journal_Entry_Right_l1 postOk
          simp only [go_sem, jn_eq, c_int, c_slice, c_bool, h1, getD_of hp, decide_true, cond_true, Int.natCast_nonneg, and_self, if_true, Int.toNat_natCast, wrap_succ (show i < 4611686018427387904 by omega)]
          cases namedF (p.get 0).toStr with
          | false => rfl
          | true =>
            by_cases h : (p.get 1).toInt = 0 <;> simp [h, c_bool, dk_0, dk_1, dk_2, dk_3, dk_4])
        (fun _ rec => by
          unfold journal_Entry_Right_l1
          simp only [go_sem, c_int, c_slice, c_bool, Int.lt_irrefl, decide_false, cond_false, es]
          cases sidesR ps with
          | inr _ => simp [c_int, dk_0]
          | inl s => by_cases h : s.1 = s.2 <;> simp [h, c_int, dk_0, dk_1, dk_2]) (by omega)
      rw [runE_all postOk] at key
      refine key.trans ?_
      cases ps.all postOk <;> rfl
theorem rRight_eq (x : C) (hx : C.wf tEntry3 x) (hN : 140737488355329 < N) (k : KD R) : ref30_Right_p N x k = k [.int (rightN (x.get 1).elems)] [] := by
  obtain ⟨p1, p2, p3⟩ := entW hx
  rw [ref30_Right_pe]
  unfold ref30_Right_p0 rightN
  simp only [jn_eq]
  by_cases h2 : (x.get 1).elems.length < 2
  · have h2' : ((x.get 1).elems.length : Int) < 2 := by omega
    simp [h2, h2', c_bool, dk_0, dk_1]
  · have h2' : ¬ ((x.get 1).elems.length : Int) < 2 := by omega
    by_cases h8 : 8 < (x.get 1).elems.length
    · have h8' : (8 : Int) < ((x.get 1).elems.length : Int) := by omega
      simp [h2, h2', h8, h8', c_bool, dk_0, dk_1]
    · have h8' : ¬ (8 : Int) < ((x.get 1).elems.length : Int) := by omega
      rw [if_neg (by omega)]
      simp only [h2', h8', decide_false, cond_false, dk_0, dk_1, c_bool]
      generalize hps : (x.get 1).elems = ps at *
      have key1 := loopK_run (N := N) (F := ref30_Right_l1 N k (fun d3 m3 => (bif !decide (C.toInt (dk d3 0) = C.toInt (dk d3 1)) then (k [C.int 12] []) else (k [C.int 0] [])))) (fun i (s : Int × Int) => [x, .int s.1, .int s.2, .int (i : Int)]) (fun _ _ => []) ps
        (fun _ s p => addS s p) (fun s => k [.int (if s.1 = s.2 then 0 else 12)] []) (fun _ => k [.int 11] []) (fun i s => i ≤ ps.length ∧ SidesP s) (s0 := (0, 0)) ⟨Nat.zero_le _, by unfold W64; decide, by unfold W64; decide⟩
        (fun i s p hp hi => ⟨fun rec => by
          have hi2 := (List.getElem?_eq_some_iff.1 hp).1
          have h1 : (i : Int) < (ps.length : Int) := by omega
          have hw := postW (p3 p (List.mem_of_getElem? hp))
          obtain ⟨_, ⟨a1, a2⟩, b1, b2⟩ := hi
          unfold ref30_Right_l1 addS
          simp only [go_sem, jn_eq, c_int, c_slice, c_bool, hps, h1, getD_of hp, decide_true, cond_true, Int.natCast_nonneg, and_self, if_true, Int.toNat_natCast, wrap_succ (show i < 4611686018427387904 by omega)]
          rw [ref02_add _ _ (by simpa [c_int] using ⟨b1, b2⟩) hw, ref02_add _ _ (by simpa [c_int] using ⟨a1, a2⟩) hw]
          simp only [c_int]
          cases hb : (p.get 2).toBool with
          | true =>
            simp only [cond_true]
            by_cases h : s.2 + (p.get 1).toInt < 18446744073709551616 <;> simp [h, c_int, dk_0, dk_1, dk_2, dk_3, dk_4, wrap_succ (show i < 4611686018427387904 by omega)]
          | false =>
            simp only [cond_false]
            by_cases h : s.1 + (p.get 1).toInt < 18446744073709551616 <;> simp [h, c_int, dk_0, dk_1, dk_2, dk_3, dk_4, wrap_succ (show i < 4611686018427387904 by omega)], fun s' e => ⟨(List.getElem?_eq_some_iff.1 hp).1, addS_ok hi.2 (postW (p3 p (List.mem_of_getElem? hp))) e⟩⟩)
        (fun s hs rec => by
          unfold ref30_Right_l1
          simp only [go_sem, c_int, c_slice, c_bool, hps, Int.lt_irrefl, decide_false, cond_false]
          by_cases h : s.1 = s.2 <;> simp [h]) (by omega)
      have key := loopK_run0 (σ := Unit) (ε := Unit) (N := N) (F := ref30_Right_l2 N k (fun d2 m2 => loopK N (ref30_Right_l1 N k (fun d3 m3 => (bif !decide (C.toInt (dk d3 0) = C.toInt (dk d3 1)) then (k [C.int 12] []) else (k [C.int 0] [])))) [dk d2 0, C.int 0, C.int 0, C.int 0] []))
        (fun i _ => [x, .int (i : Int)]) (fun _ _ => []) ps (fun _ _ p => bif postOk p then .inl () else .inr ())
        (fun _ => k [.int (match sidesR ps with | .inl s => if s.1 = s.2 then 0 else 12 | .inr _ => 11)] []) (fun _ => k [.int 10] []) (s0 := ())
        (fun i _ p hp hi rec => by
          have h1 : (i : Int) < (ps.length : Int) := by omega
          have hn := postN (p3 p (List.mem_of_getElem? hp))
          unfold ref30_Right_l2 postOk
          simp only [go_sem, jn_eq, c_int, c_slice, c_bool, hps, h1, getD_of hp, decide_true, cond_true, Int.natCast_nonneg, and_self, if_true, Int.toNat_natCast, wrap_succ (show i < 4611686018427387904 by omega)]
          rw [ref30_Named_eq _ hn hN]
          simp only [go_sem, c_int, c_bool]
          cases namedF (p.get 0).toStr with
          | false => rfl
          | true =>
            by_cases h : (p.get 1).toInt = 0 <;> simp [h, c_int, c_bool, dk_0, dk_1, dk_2, dk_3, dk_4, wrap_succ (show i < 4611686018427387904 by omega)])
        (fun _ rec => by
          unfold ref30_Right_l2
          simp only [go_sem, c_int, c_slice, c_bool, hps, Int.lt_irrefl, decide_false, cond_false]
          refine Eq.trans ?_ (key1.trans ?_)
          · rfl
          · unfold sidesR
            cases runE (fun _ s p => addS s p) 0 (0, 0) ps <;> rfl) (by omega)
      rw [runE_all postOk] at key
      refine Eq.trans ?_ (key.trans ?_)
      · rfl
      · cases ps.all postOk <;> rfl
theorem Same_refl (l : List C) (hw : ∀ x ∈ l, C.wf tEntry3 x) (hl : l.length * 32 ≤ 140737488355328) (hN : 4398046511105 < N) (k : KD R) : ref30_Same_p N (.slice l) (.slice l) k = k [.bool true] [] := by
  rw [ref30_Same_pe]
  unfold ref30_Same_p0
  simp only [jn_eq, c_slice, decide_true, Bool.not_true, cond_false]
  refine loopK_count (fun i => [.slice l, .slice l, .int (i : Int)]) (fun _ => []) l.length (k [.bool true] []) ?_ ?_ (by omega)
  · intro i hi rec
    have h1 : (i : Int) < (l.length : Int) := by omega
    obtain ⟨p1, p2, p3⟩ := entW (hw _ (getD_mem hi))
    unfold ref30_Same_l2
    simp only [go_sem, jn_eq, c_int, c_slice, c_bool, h1, decide_true, cond_true, Int.natCast_nonneg, and_self, if_true, Int.toNat_natCast, Bool.not_true, cond_false]
    refine (loopK_count (fun j => [.slice l, .slice l, .int (i : Int), .int (j : Int)]) (fun _ => []) ((l.getD i .nil).get 1).elems.length (rec [.slice l, .slice l, .int ((i + 1 : Nat) : Int)] []) ?_ ?_ (by omega))
    · intro j hj rec2
      have h2 : (j : Int) < (((l.getD i .nil).get 1).elems.length : Int) := by omega
      unfold ref30_Same_l1
      simp only [go_sem, jn_eq, c_int, c_slice, c_bool, h1, h2, decide_true, cond_true, Int.natCast_nonneg, and_self, if_true, Int.toNat_natCast, Bool.not_true, cond_false, wrap_succ (show j < 4611686018427387904 by omega)]
    · intro rec2
      unfold ref30_Same_l1
      simp only [go_sem, jn_eq, c_int, c_slice, c_bool, h1, Int.lt_irrefl, decide_false, decide_true, cond_true, Int.natCast_nonneg, and_self, if_true, Int.toNat_natCast, Bool.not_true, cond_false, wrap_succ (show i < 4611686018427387904 by omega)]
  · intro rec
    unfold ref30_Same_l2
    simp only [go_sem, c_int, c_slice, c_bool, Int.lt_irrefl, decide_false, cond_false]
end Go.Proofs.YtefppgmopnnphaaDoor


namespace Go.Proofs.YtefppgmopnnphaaDoor
open Go Go.E
set_option maxRecDepth 100000
set_option maxHeartbeats 4000000
set_option linter.unusedVariables false
noncomputable def ref11_Decimal_hs : Hints := [([0, 1, 1], ⟨[], [(0, .d (.int .u64)), (3, .d .str)], [], [], [], []⟩),
    ([4, 0, 1, 1], ⟨[], [(0, .d (.int .u64)), (3, .d .str)], [], [], [], []⟩),
    ([9], ⟨[], [(2, .d .str)], [], [], [], []⟩)]
noncomputable def ref11_Decimal_ov (N : Nat) : OvS (X0 gl0) where
  g R := []
  ok := fun R => fun _ h => nomatch h
noncomputable def ref11_Decimal_l1 {R : Type} (N : Nat) (k2 : KD R) : KD R → List C → List Es → Option R := (fun k3 d1 m1 => (bif decide (9 < C.toInt (dk d1 0)) then (if 1 + List.length (C.toStr (dk d1 1)) ≤ 140737488355328 then (k3 [C.int (IntKind.wrap IntKind.u64 (Int.tdiv (C.toInt (dk d1 0)) 10)), C.str ([{ toBitVec := { toFin := ⟨Int.toNat (IntKind.wrap IntKind.u8 (IntKind.wrap IntKind.u64 (48 + Int.tmod (C.toInt (dk d1 0)) 10))) % 256, Nat.mod_lt (Int.toNat (C.toInt (C.int (IntKind.wrap IntKind.u8 (IntKind.wrap IntKind.u64 (48 + Int.tmod (C.toInt (dk d1 0)) 10)))))) (BitVec.ofNat._proof_1 8)⟩ } }] ++ C.toStr (dk d1 1))] []) else none) else (k2 [dk d1 0, dk d1 1] [])))
noncomputable def ref11_Decimal_p0 {R : Type} (N : Nat) (a0 : C) (k1 : KD R) : Option R := (jn (fun d1 m1 => (if 1 + List.length (C.toStr (dk d1 1)) ≤ 140737488355328 then (k1 [C.str ([{ toBitVec := { toFin := ⟨Int.toNat (IntKind.wrap IntKind.u8 (IntKind.wrap IntKind.u64 (48 + C.toInt (dk d1 0)))) % 256, Nat.mod_lt (Int.toNat (C.toInt (C.int (IntKind.wrap IntKind.u8 (IntKind.wrap IntKind.u64 (48 + C.toInt (dk d1 0))))))) (BitVec.ofNat._proof_1 8)⟩ } }] ++ C.toStr (dk d1 1))] []) else none)) (fun k2 => (loopK N (ref11_Decimal_l1 N k2) [a0, C.str []] [])))
noncomputable def ref11_Decimal_p {R : Type} (N : Nat) : C → KD R → Option R := lid "ref11_Decimal_p N" (ref11_Decimal_p0 N)
theorem ref11_Decimal_pe {R : Type} (N : Nat) (a0 : C) (k : KD R) : ref11_Decimal_p N a0 k = ref11_Decimal_p0 N a0 k := by unfold ref11_Decimal_p; rw [lid_eq]
theorem ref11_Decimal_run {R : Type} (N : Nat) (a0 : C) (K : V → List (Key × O) → Option R) : exF (X0 gl0) ((ref11_Decimal_ov N).ov R) extX noX (fun f => bif Nat.beq f 39 then ref11_Decimal_hs else []) N 400 8 39 [.d (.int .u64) a0] A0 K =
    ref11_Decimal_p N a0 (fun d1 m1 => K (V.d Ty.str (dk d1 0)) []) := by
  rw [ref11_Decimal_pe]
  exact (show _ = jn (fun d1 m1 => (K (V.d Ty.str (dk d1 0)) [])) (ref11_Decimal_p0 N a0) by kernel_rfl).trans (jn_eq _ _)
noncomputable def ref11_Decimal_g (N : Nat) {R : Type} : OvG R := fun xs _ K => match xs with
  | [.d t0 a0] => if t0 = (.int .u64) then ref11_Decimal_p N a0 (fun d1 m1 => K (V.d Ty.str (dk d1 0)) []) else none
  | _ => none
theorem ref11_Decimal_ok (N : Nat) {R : Type} : GOk (X0 gl0) 39 (ref11_Decimal_g N (R := R)) := by
  intro xs A Kr r hr
  unfold ref11_Decimal_g at hr
  split at hr
  · simp only [Option.ite_none_right_eq_some] at hr
    obtain ⟨hty, hr⟩ := hr
    subst hty
    rw [← ref11_Decimal_run] at hr
    obtain ⟨v, L, h1, h2⟩ := exF_ok (ok0 gl0) (mo gl0) ((ref11_Decimal_ov N).ov_ok _) (extX_ok gl0) _ _ _ _ _ _ hr
    exact ⟨v, L, h1.mono (leA_none fun _ => rfl), h2⟩
  · cases hr
end Go.Proofs.YtefppgmopnnphaaDoor


namespace Go.Proofs.YtefppgmopnnphaaDoor
open Go Go.E
set_option maxRecDepth 100000
set_option maxHeartbeats 4000000
set_option linter.unusedVariables false
noncomputable def ref30_number_hs : Hints := [([1, 0, 1, 1], ⟨[0], [(4, .d (.int .u64))], [], [], [], []⟩),
    ([4, 1, 0, 1, 1], ⟨[0], [(4, .d (.int .u64)), (5, .d (.int .i64))], [], [], [], []⟩),
    ([0, 0, 4, 0, 1, 5, 4, 1, 0, 1, 1], ⟨[0, 4, 5], [(32, .d .bool)], [], [], [], []⟩),
    ([0, 1, 1, 1], ⟨[], [(2, .d (.int .u64)), (3, .d .bool)], [], [], [], []⟩),
    ([9], ⟨[], [(2, .d (.int .u64)), (3, .d .bool)], [], [], [], []⟩)]
noncomputable def ref30_number_ov (N : Nat) : OvS (X0 gl0) where
  g R := [(39, ref11_Decimal_g N)]
  ok := fun R => List.forall_mem_cons.2 ⟨ref11_Decimal_ok N, fun _ h => nomatch h⟩
noncomputable def ref30_number_l1 {R : Type} (N : Nat) (k1 : KD R) (k2 : KD R) : KD R → List C → List Es → Option R := (fun k3 d1 m1 => (bif decide (C.toInt (dk d1 2) < (↑(List.length (C.toStr (dk d1 0))) : Int)) then (jn (fun d2 m2 => (bif C.toBool (dk d2 3) then (k1 [C.int 0, C.bool false] []) else (if 0 ≤ C.toInt (dk d2 2) ∧ C.toInt (dk d2 2) < (↑(List.length (C.toStr (dk d2 0))) : Int) then (k3 [dk d2 0, C.int (IntKind.wrap IntKind.u64 (IntKind.wrap IntKind.u64 (C.toInt (dk d2 1) * 10) + IntKind.wrap IntKind.u64 (IntKind.wrap IntKind.u8 ((↑(UInt8.toNat (List.getD (C.toStr (dk d2 0)) (Int.toNat (C.toInt (dk d2 2))) (UInt8.ofNat 0))) : Int) - 48)))), C.int (IntKind.wrap IntKind.i64 (C.toInt (dk d2 2) + 1))] []) else none))) (fun k4 => (if 0 ≤ C.toInt (dk d1 2) ∧ C.toInt (dk d1 2) < (↑(List.length (C.toStr (dk d1 0))) : Int) then (bif decide ((↑(UInt8.toNat (List.getD (C.toStr (dk d1 0)) (Int.toNat (C.toInt (dk d1 2))) (UInt8.ofNat 0))) : Int) < 48) then (k4 [dk d1 0, dk d1 1, dk d1 2, C.bool true] []) else (if 0 ≤ C.toInt (dk d1 2) ∧ C.toInt (dk d1 2) < (↑(List.length (C.toStr (dk d1 0))) : Int) then (bif decide (57 < (↑(UInt8.toNat (List.getD (C.toStr (dk d1 0)) (Int.toNat (C.toInt (dk d1 2))) (UInt8.ofNat 0))) : Int)) then (k4 [dk d1 0, dk d1 1, dk d1 2, C.bool true] []) else (if 0 ≤ C.toInt (dk d1 2) ∧ C.toInt (dk d1 2) < (↑(List.length (C.toStr (dk d1 0))) : Int) then (k4 [dk d1 0, dk d1 1, dk d1 2, C.bool (decide (IntKind.wrap IntKind.u64 (Int.tdiv (IntKind.wrap IntKind.u64 (18446744073709551615 - IntKind.wrap IntKind.u64 (IntKind.wrap IntKind.u8 ((↑(UInt8.toNat (List.getD (C.toStr (dk d1 0)) (Int.toNat (C.toInt (dk d1 2))) (UInt8.ofNat 0))) : Int) - 48)))) 10) < C.toInt (dk d1 1)))] []) else none)) else none)) else none))) else (k2 [dk d1 0, dk d1 1] [])))
noncomputable def ref30_number_p0 {R : Type} (N : Nat) (a0 : C) (k1 : KD R) : Option R := (jn (fun d1 m1 => (jn (fun d2 m2 => (k1 [dk d2 0, C.bool (C.toBool (dk d2 1))] [])) (fun k2 => (bif decide (0 < (↑(List.length (C.toStr (dk d1 0))) : Int)) then (ref11_Decimal_p N (dk d1 1) (fun d2 m2 => (k2 [dk d1 1, C.bool (C.toStr (dk d2 0) == C.toStr (dk d1 0))] []))) else (k2 [dk d1 1, C.bool false] []))))) (fun k2 => (loopK N (ref30_number_l1 N k1 k2) [a0, C.int 0, C.int 0] [])))
noncomputable def ref30_number_p {R : Type} (N : Nat) : C → KD R → Option R := lid "ref30_number_p N" (ref30_number_p0 N)
theorem ref30_number_pe {R : Type} (N : Nat) (a0 : C) (k : KD R) : ref30_number_p N a0 k = ref30_number_p0 N a0 k := by unfold ref30_number_p; rw [lid_eq]
theorem ref30_number_run {R : Type} (N : Nat) (a0 : C) (K : V → List (Key × O) → Option R) : exF (X0 gl0) ((ref30_number_ov N).ov R) extX noX (fun f => bif Nat.beq f 44 then ref30_number_hs else []) N 400 8 44 [.d .str a0] A0 K =
    ref30_number_p N a0 (fun d1 m1 => K (V.tup [V.d (Ty.int IntKind.u64) (dk d1 0), V.d Ty.bool (C.bool (C.toBool (dk d1 1)))]) []) := by
  rw [ref30_number_pe]
  exact (show _ = jn (fun d1 m1 => (K (V.tup [V.d (Ty.int IntKind.u64) (dk d1 0), V.d Ty.bool (C.bool (C.toBool (dk d1 1)))]) [])) (ref30_number_p0 N a0) by kernel_rfl).trans (jn_eq _ _)
noncomputable def ref30_number_g (N : Nat) {R : Type} : OvG R := fun xs _ K => match xs with
  | [.d t0 a0] => if t0 = .str then ref30_number_p N a0 (fun d1 m1 => K (V.tup [V.d (Ty.int IntKind.u64) (dk d1 0), V.d Ty.bool (C.bool (C.toBool (dk d1 1)))]) []) else none
  | _ => none
theorem ref30_number_ok (N : Nat) {R : Type} : GOk (X0 gl0) 44 (ref30_number_g N (R := R)) := by
  intro xs A Kr r hr
  unfold ref30_number_g at hr
  split at hr
  · simp only [Option.ite_none_right_eq_some] at hr
    obtain ⟨hty, hr⟩ := hr
    subst hty
    rw [← ref30_number_run] at hr
    obtain ⟨v, L, h1, h2⟩ := exF_ok (ok0 gl0) (mo gl0) ((ref30_number_ov N).ov_ok _) (extX_ok gl0) _ _ _ _ _ _ hr
    exact ⟨v, L, h1.mono (leA_none fun _ => rfl), h2⟩
  · cases hr
end Go.Proofs.YtefppgmopnnphaaDoor


namespace Go.Proofs.YtefppgmopnnphaaDoor
open Go Go.E
set_option maxRecDepth 100000
set_option maxHeartbeats 4000000
set_option linter.unusedVariables false
noncomputable def ref30_split_hs : Hints := [([1, 0, 1, 1, 1], ⟨[0], [(5, .sl 16 .str 5005), (6, .d (.int .i64))], [], [], [], []⟩),
    ([4, 1, 0, 1, 1, 1], ⟨[0, 1], [(5, .sl 16 .str 5005), (6, .d (.int .i64)), (7, .d (.int .i64))], [], [], [], []⟩),
    ([1, 4, 0, 1, 5, 4, 1, 0, 1, 1, 1], ⟨[0, 1, 7], [(5, .sl 16 .str 5005), (6, .d (.int .i64))], [], [], [], []⟩),
    ([9], ⟨[], [(4, .sl 16 .str 5004)], [], [], [], []⟩)]
noncomputable def ref30_split_ov (N : Nat) : OvS (X0 gl0) where
  g R := []
  ok := fun R => fun _ h => nomatch h
noncomputable def ref30_split_l1 {R : Type} (N : Nat) (k2 : KD R) : KD R → List C → List Es → Option R := (fun k3 d1 m1 => (bif decide (C.toInt (dk d1 4) < (↑(List.length (C.toStr (dk d1 0))) : Int)) then (if 0 ≤ C.toInt (dk d1 4) ∧ C.toInt (dk d1 4) < (↑(List.length (C.toStr (dk d1 0))) : Int) then (jn (fun d2 m2 => (bif Nat.beq (List.length (C.elems (dk d2 3))) (List.length (C.elems (dk d2 3))) then (k3 [dk d2 0, dk d2 1, C.slice (C.elems (dk d2 3)), dk d2 4, C.int (IntKind.wrap IntKind.i64 (C.toInt (dk d2 2) + 1))] []) else none)) (fun k4 => (bif decide ((↑(UInt8.toNat (List.getD (C.toStr (dk d1 0)) (Int.toNat (C.toInt (dk d1 4))) (UInt8.ofNat 0))) : Int) = C.toInt (dk d1 1)) then (if 0 ≤ C.toInt (dk d1 3) ∧ C.toInt (dk d1 3) ≤ C.toInt (dk d1 4) ∧ C.toInt (dk d1 4) ≤ (↑(List.length (C.toStr (dk d1 0))) : Int) then (bif Nat.beq (List.length (C.elems (dk d1 2))) (List.length (C.elems (dk d1 2))) then (if (List.length (C.elems (dk d1 2)) + 1) * 16 ≤ 140737488355328 ∧ List.length (C.elems (dk d1 2)) + 1 ≤ 9223372036854775807 then (bif Nat.beq (List.length (C.elems (dk d1 2)) + 1) (List.length (C.elems (dk d1 2) ++ [C.str (List.drop (Int.toNat (C.toInt (dk d1 3))) (List.take (Int.toNat (C.toInt (dk d1 4))) (C.toStr (dk d1 0))))])) then (k4 [dk d1 0, dk d1 1, dk d1 4, C.slice (C.elems (dk d1 2) ++ [C.str (List.drop (Int.toNat (C.toInt (dk d1 3))) (List.take (Int.toNat (C.toInt (dk d1 4))) (C.toStr (dk d1 0))))]), C.int (IntKind.wrap IntKind.i64 (C.toInt (dk d1 4) + 1))] []) else none) else none) else none) else none) else (bif Nat.beq (List.length (C.elems (dk d1 2))) (List.length (C.elems (dk d1 2))) then (k4 [dk d1 0, dk d1 1, dk d1 4, C.slice (C.elems (dk d1 2)), dk d1 3] []) else none)))) else none) else (bif Nat.beq (List.length (C.elems (dk d1 2))) (List.length (C.elems (dk d1 2))) then (k2 [dk d1 0, C.slice (C.elems (dk d1 2)), dk d1 3] []) else none)))
noncomputable def ref30_split_p0 {R : Type} (N : Nat) (a0 a1 : C) (k1 : KD R) : Option R := (jn (fun d1 m1 => (if 0 ≤ C.toInt (dk d1 2) ∧ C.toInt (dk d1 2) ≤ (↑(List.length (C.toStr (dk d1 0))) : Int) ∧ (↑(List.length (C.toStr (dk d1 0))) : Int) ≤ (↑(List.length (C.toStr (dk d1 0))) : Int) then (bif Nat.beq (List.length (C.elems (dk d1 1))) (List.length (C.elems (dk d1 1))) then (if (List.length (C.elems (dk d1 1)) + 1) * 16 ≤ 140737488355328 ∧ List.length (C.elems (dk d1 1)) + 1 ≤ 9223372036854775807 then (bif Nat.beq (List.length (C.elems (dk d1 1)) + 1) (List.length (C.elems (dk d1 1) ++ [C.str (List.drop (Int.toNat (C.toInt (dk d1 2))) (List.take (Int.toNat (↑(List.length (C.toStr (dk d1 0))) : Int)) (C.toStr (dk d1 0))))])) then (k1 [C.slice (C.elems (dk d1 1) ++ [C.str (List.drop (Int.toNat (C.toInt (dk d1 2))) (List.take (Int.toNat (↑(List.length (C.toStr (dk d1 0))) : Int)) (C.toStr (dk d1 0))))])] []) else none) else none) else none) else none)) (fun k2 => (loopK N (ref30_split_l1 N k2) [a0, a1, C.slice [], C.int 0, C.int 0] [])))
noncomputable def ref30_split_p {R : Type} (N : Nat) : C → C → KD R → Option R := lid "ref30_split_p N" (ref30_split_p0 N)
theorem ref30_split_pe {R : Type} (N : Nat) (a0 a1 : C) (k : KD R) : ref30_split_p N a0 a1 k = ref30_split_p0 N a0 a1 k := by unfold ref30_split_p; rw [lid_eq]
theorem ref30_split_run {R : Type} (N : Nat) (a0 a1 : C) (K : V → List (Key × O) → Option R) : exF (X0 gl0) ((ref30_split_ov N).ov R) extX noX (fun f => bif Nat.beq f 43 then ref30_split_hs else []) N 400 8 43 [.d .str a0, .d (.int .u8) a1] A0 K =
    ref30_split_p N a0 a1 (fun d1 m1 => K (V.ts 16 Ty.str (C.elems (dk d1 0))) []) := by
  rw [ref30_split_pe]
  exact (show _ = jn (fun d1 m1 => (bif Nat.beq (List.length (C.elems (dk d1 0))) (List.length (C.elems (dk d1 0))) then
    (K (V.ts 16 Ty.str (C.elems (dk d1 0))) [])
  else
    none)) (ref30_split_p0 N a0 a1) by kernel_rfl).trans ((jn_eq _ _).trans (congrArg (ref30_split_p0 N a0 a1) (funext fun _ => funext fun _ => by simp only [Nat.beq_refl, cond_true])))
noncomputable def ref30_split_g (N : Nat) {R : Type} : OvG R := fun xs _ K => match xs with
  | [.d t0 a0, .d t1 a1] => if t0 = .str ∧ t1 = (.int .u8) then ref30_split_p N a0 a1 (fun d1 m1 => K (V.ts 16 Ty.str (C.elems (dk d1 0))) []) else none
  | _ => none
theorem ref30_split_ok (N : Nat) {R : Type} : GOk (X0 gl0) 43 (ref30_split_g N (R := R)) := by
  intro xs A Kr r hr
  unfold ref30_split_g at hr
  split at hr
  · simp only [Option.ite_none_right_eq_some] at hr
    obtain ⟨hty, hr⟩ := hr
    obtain ⟨rfl, rfl⟩ := hty
    rw [← ref30_split_run] at hr
    obtain ⟨v, L, h1, h2⟩ := exF_ok (ok0 gl0) (mo gl0) ((ref30_split_ov N).ov_ok _) (extX_ok gl0) _ _ _ _ _ _ hr
    exact ⟨v, L, h1.mono (leA_none fun _ => rfl), h2⟩
  · cases hr
end Go.Proofs.YtefppgmopnnphaaDoor


namespace Go.Proofs.YtefppgmopnnphaaDoor
open Go Go.E
set_option maxRecDepth 100000
set_option maxHeartbeats 4000000
set_option linter.unusedVariables false
noncomputable def journal_number_hs : Hints := [([0, 0, 1, 1], ⟨[4], [(18, .d .bool)], [], [], [], []⟩),
    ([9], ⟨[], [(2, .d (.int .u64)), (3, .d (.int .i64))], [], [], [], []⟩)]
noncomputable def journal_number_ov (N : Nat) : OvS (X0 gl0) where
  g R := [(50, fmtU_g N), (74, lib_ParseUint_g N)]
  ok := fun R => List.forall_mem_cons.2 ⟨fmtU_ok N, List.forall_mem_cons.2 ⟨lib_ParseUint_ok N, fun _ h => nomatch h⟩⟩
noncomputable def journal_number_p0 {R : Type} (N : Nat) (a0 : C) (k1 : KD R) : Option R := (jn (fun d1 m1 => (bif C.toBool (dk d1 1) then (k1 [C.int 0, C.int 10] []) else (k1 [dk d1 0, C.int 0] []))) (fun k2 => (bif !C.isNil (numE (C.toStr a0)) then (k2 [C.int (numN (C.toStr a0)), C.bool true] []) else (k2 [C.int (numN (C.toStr a0)), C.bool !decU (Int.toNat (numN (C.toStr a0))) == C.toStr a0] []))))
noncomputable def journal_number_p {R : Type} (N : Nat) : C → KD R → Option R := lid "journal_number_p N" (journal_number_p0 N)
theorem journal_number_pe {R : Type} (N : Nat) (a0 : C) (k : KD R) : journal_number_p N a0 k = journal_number_p0 N a0 k := by unfold journal_number_p; rw [lid_eq]
theorem journal_number_run {R : Type} (N : Nat) (a0 : C) (K : V → List (Key × O) → Option R) : exF (X0 gl0) ((journal_number_ov N).ov R) extX noX (fun f => bif Nat.beq f 53 then journal_number_hs else []) N 400 8 53 [.d .str a0] A0 K =
    journal_number_p N a0 (fun d1 m1 => K (V.tup [V.d (Ty.int IntKind.u64) (dk d1 0), V.d (Ty.int IntKind.i64) (dk d1 1)]) []) := by
  rw [journal_number_pe]
  exact (show _ = jn (fun d1 m1 => (K (V.tup [V.d (Ty.int IntKind.u64) (dk d1 0), V.d (Ty.int IntKind.i64) (dk d1 1)]) [])) (journal_number_p0 N a0) by kernel_rfl).trans (jn_eq _ _)
noncomputable def journal_number_g (N : Nat) {R : Type} : OvG R := fun xs _ K => match xs with
  | [.d t0 a0] => if t0 = .str then journal_number_p N a0 (fun d1 m1 => K (V.tup [V.d (Ty.int IntKind.u64) (dk d1 0), V.d (Ty.int IntKind.i64) (dk d1 1)]) []) else none
  | _ => none
theorem journal_number_ok (N : Nat) {R : Type} : GOk (X0 gl0) 53 (journal_number_g N (R := R)) := by
  intro xs A Kr r hr
  unfold journal_number_g at hr
  split at hr
  · simp only [Option.ite_none_right_eq_some] at hr
    obtain ⟨hty, hr⟩ := hr
    subst hty
    rw [← journal_number_run] at hr
    obtain ⟨v, L, h1, h2⟩ := exF_ok (ok0 gl0) (mo gl0) ((journal_number_ov N).ov_ok _) (extX_ok gl0) _ _ _ _ _ _ hr
    exact ⟨v, L, h1.mono (leA_none fun _ => rfl), h2⟩
  · cases hr
end Go.Proofs.YtefppgmopnnphaaDoor


namespace Go.Proofs.YtefppgmopnnphaaDoor
open Go Go.E
set_option maxRecDepth 100000
set_option maxHeartbeats 4000000
set_option linter.unusedSimpArgs false
variable {R : Type} {N : Nat}
theorem dec_loop (k2 : KD R) (N0 : Nat) : ∀ (f n : Nat) (s : List UInt8) (M : Nat), n < 10 ^ (f + 1) → n < 18446744073709551616 → s.length + f ≤ 100 →
    ∃ a t, a < 10 ∧ Lib.decDigits n = UInt8.ofNat (48 + a) :: t ∧ t.length ≤ f ∧ loopK (M + f + 1) (ref11_Decimal_l1 N0 k2) [.int (n : Int), .str s] [] = k2 [.int (a : Int), .str (t ++ s)] []
  | f, n, s, M, h, h2, hs => by
    rw [loopK_succ]
    by_cases hn : n < 10
    · refine ⟨n, [], hn, Lib.decDigits_one hn, Nat.zero_le _, ?_⟩
      unfold ref11_Decimal_l1
      have h9 : ¬ ((9 : Int) < (n : Int)) := by omega
      simp only [go_sem, c_int, c_str, h9, decide_false, cond_false, List.nil_append]
    · cases f with
      | zero => omega
      | succ f =>
        have h' : n / 10 < 10 ^ (f + 1) := by rw [Nat.pow_succ] at h; omega
        obtain ⟨a, t, ha, hd, ht, hl⟩ := dec_loop k2 N0 f (n / 10) (UInt8.ofNat (48 + n % 10) :: s) M h' (by omega) (by simp only [List.length_cons]; omega)
        refine ⟨a, t ++ [UInt8.ofNat (48 + n % 10)], ha, ?_, ?_, ?_⟩
        · rw [Lib.decDigits, dif_neg hn, hd]; rfl
        · simp only [List.length_append, List.length_cons, List.length_nil]; omega
        · rw [List.append_assoc, List.singleton_append, ← hl]
          have h9 : ((9 : Int) < (n : Int)) := by omega
          have e1 : IntKind.u64.wrap (Int.tdiv (n : Int) 10) = ((n / 10 : Nat) : Int) := by
            rw [Int.tdiv_eq_ediv_of_nonneg (by omega), IntKind.wrap_u64]; omega
          have e2 : (IntKind.wrap IntKind.u8 (IntKind.wrap IntKind.u64 (48 + Int.tmod (n : Int) 10))).toNat = 48 + n % 10 := by
            rw [Int.tmod_eq_emod_of_nonneg (by omega), IntKind.wrap_u64, wrap_u8]; omega
          unfold ref11_Decimal_l1
          simp only [go_sem, c_int, c_str, h9, decide_true, cond_true]
          rw [if_pos (by omega), e1]
          show loopK (M + (f + 1)) _ [C.int _, C.str (UInt8.ofNat ((IntKind.wrap IntKind.u8 (IntKind.wrap IntKind.u64 (48 + Int.tmod (n : Int) 10))).toNat) :: s)] [] = _
          rw [e2]
          rfl
theorem Decimal_eq (n : Nat) (h : n < 18446744073709551616) (hN : 100 < N) (k : KD R) : ref11_Decimal_p N (.int (n : Int)) k = k [.str (decU n)] [] := by
  rw [ref11_Decimal_pe]
  unfold ref11_Decimal_p0
  simp only [jn_eq]
  obtain ⟨M, rfl⟩ : ∃ M, N = M + 19 + 1 := ⟨N - 20, by omega⟩
  obtain ⟨a, t, ha, hd, ht, hl⟩ := dec_loop (R := R) _ (M + 19 + 1) 19 n [] M (Nat.lt_of_lt_of_le h (by decide)) h (by simp)
  rw [hl]
  simp only [go_sem, c_int, c_str, List.append_nil]
  rw [if_pos (by omega), decU_eq n h, hd]
  have e2 : (IntKind.wrap IntKind.u8 (IntKind.wrap IntKind.u64 (48 + (a : Int)))).toNat = 48 + a := by rw [IntKind.wrap_u64, wrap_u8]; omega
  show k [C.str (UInt8.ofNat ((IntKind.wrap IntKind.u8 (IntKind.wrap IntKind.u64 (48 + (a : Int)))).toNat) :: t)] [] = _
  rw [e2]
def numO (s : List UInt8) : Option Nat := match Lib.parseUintB 64 s with
  | .ok u => if decU u = s then some u else none
  | _ => none
theorem numO_lt {s : List UInt8} {u : Nat} (h : numO s = some u) : u < 18446744073709551616 := by
  unfold numO at h
  split at h
  · rename_i v hv
    split at h
    · cases h; have := Lib.parseUintB_le hv; omega
    · cases h
  · cases h
theorem number_eq (s : List UInt8) (k : KD R) : journal_number_p N (.str s) k = (match numO s with | some u => k [.int (u : Int), .int 0] [] | none => k [.int 0, .int 10] []) := by
  rw [journal_number_pe]
  unfold journal_number_p0
  simp only [jn_eq, c_str]
  unfold numE numN numO
  cases h : Lib.parseUintB 64 s with
  | ok u =>
    simp only [go_sem, C.isNil, Bool.not_true, cond_false, c_int, Int.toNat_natCast]
    by_cases hd : decU u = s
    · rw [if_pos hd, hd]; simp [c_bool]
    · have : (decU u == s) = false := by simpa using hd
      rw [if_neg hd, this]; simp [c_bool]
  | range => simp [C.isNil, go_sem, c_bool]
  | _ => simp [C.isNil, go_sem, c_bool]
def digS (n : Nat) (c : UInt8) : Nat ⊕ Unit := if 48 ≤ c.toNat ∧ c.toNat ≤ 57 then (if n * 10 + (c.toNat - 48) < 18446744073709551616 then .inl (n * 10 + (c.toNat - 48)) else .inr ()) else .inr ()
theorem digS_eq : ∀ (l : List UInt8) (i n : Nat), runE (fun _ n c => digS n c) i n l = (match Lib.parseUint10 n l with | .ok u => .inl u | _ => .inr ())
  | [], _, _ => rfl
  | c :: l, i, n => by
    simp only [runE, Lib.parseUint10, digS]
    by_cases h : 48 ≤ c.toNat ∧ c.toNat ≤ 57
    · rw [if_pos h, if_pos h]
      by_cases h2 : n * 10 + (c.toNat - 48) < 18446744073709551616
      · rw [if_pos h2, if_neg (by omega), if_neg (by omega)]
        exact digS_eq l (i + 1) _
      · rw [if_neg h2]
        by_cases h3 : 1844674407370955162 ≤ n
        · rw [if_pos h3]
        · rw [if_neg h3, if_pos (by omega)]
    · rw [if_neg h, if_neg h]
end Go.Proofs.YtefppgmopnnphaaDoor


namespace Go.Proofs.YtefppgmopnnphaaDoor
open Go Go.E
set_option maxRecDepth 100000
set_option maxHeartbeats 4000000
set_option linter.unusedSimpArgs false
variable {R : Type} {N : Nat}
theorem byte_of {s : List UInt8} {i : Nat} {c : UInt8} (h : s[i]? = some c) : s.getD i (UInt8.ofNat 0) = c := by
  rw [List.getD_eq_getElem?_getD, h]; rfl
theorem digW {n n' : Nat} {c : UInt8} (h : digS n c = .inl n') : n' < 18446744073709551616 := by
  unfold digS at h
  split at h
  · split at h
    · cases h; assumption
    · cases h
  · cases h
theorem rnumber_eq (s : List UInt8) (hl : s.length ≤ 4294967296) (hN : 140737488355329 < N) (k : KD R) :
    (∃ u, numO s = some u ∧ ref30_number_p N (.str s) k = k [.int (u : Int), .bool true] []) ∨ (numO s = none ∧ ∃ x, ref30_number_p N (.str s) k = k [.int x, .bool false] []) := by
  rw [ref30_number_pe]
  unfold ref30_number_p0
  simp only [jn_eq]
  generalize hk2 : (fun d1 m1 => _ : KD R) = k2
  have key := loopK_run (ε := Unit) (N := N) (F := ref30_number_l1 N k k2) (fun i (n : Nat) => [.str s, .int (n : Int), .int (i : Int)]) (fun _ _ => []) s
      (fun _ n c => digS n c) (fun n => k2 [.str s, .int (n : Int)] []) (fun _ => k [.int 0, .bool false] []) (fun _ n => n < 18446744073709551616) (s0 := 0) (by decide)
      (fun i n c hc hn => by
        have hi := (List.getElem?_eq_some_iff.1 hc).1
        have hcs := c.toNat_lt
        refine ⟨fun rec => ?_, fun s' h => digW h⟩
        have h1 : (i : Int) < (s.length : Int) := by omega
        unfold ref30_number_l1
        simp only [go_sem, c_int, c_str, c_bool, h1, decide_true, cond_true, Int.natCast_nonneg, and_self, if_true, Int.toNat_natCast, byte_of hc, wrap_succ (show i < 4611686018427387904 by omega)]
        unfold digS
        by_cases a1 : (c.toNat : Int) < 48
        · rw [if_pos a1, if_neg (show ¬ (48 ≤ c.toNat ∧ c.toNat ≤ 57) by omega)]
        · rw [if_neg a1]
          by_cases a2 : 57 < (c.toNat : Int)
          · rw [if_pos a2, if_neg (show ¬ (48 ≤ c.toNat ∧ c.toNat ≤ 57) by omega)]
          · rw [if_neg a2, if_pos (show 48 ≤ c.toNat ∧ c.toNat ≤ 57 by omega)]
            have e0 : IntKind.wrap IntKind.u64 (IntKind.wrap IntKind.u8 ((c.toNat : Int) - 48)) = ((c.toNat - 48 : Nat) : Int) := by rw [wrap_u8, IntKind.wrap_u64]; omega
            have e1 : IntKind.wrap IntKind.u64 (Int.tdiv (IntKind.wrap IntKind.u64 (18446744073709551615 - ((c.toNat - 48 : Nat) : Int))) 10) = (18446744073709551615 - ((c.toNat - 48 : Nat) : Int)) / 10 := by
              rw [IntKind.wrap_u64, IntKind.wrap_u64, Int.tdiv_eq_ediv_of_nonneg (by omega)]; omega
            rw [e0, e1]
            by_cases a3 : n * 10 + (c.toNat - 48) < 18446744073709551616
            · rw [if_pos a3, if_neg (by omega)]
              have e2 : IntKind.wrap IntKind.u64 (IntKind.wrap IntKind.u64 ((n : Int) * 10) + ((c.toNat - 48 : Nat) : Int)) = ((n * 10 + (c.toNat - 48) : Nat) : Int) := by rw [IntKind.wrap_u64, IntKind.wrap_u64]; omega
              rw [e2]
            · rw [if_neg a3, if_pos (by omega)])
      (fun n hn rec => by
        unfold ref30_number_l1
        simp only [go_sem, c_int, c_str, c_bool, Int.lt_irrefl, decide_false, cond_false]) (by omega)
  have key : loopK N (ref30_number_l1 N k k2) [.str s, .int 0, .int 0] [] = _ := key
  rw [key, digS_eq]
  subst hk2
  unfold numO
  have e64 := Lib.parseUintB_64 s
  unfold Lib.parseMag at e64
  rw [e64]
  by_cases hs : s = []
  · subst hs
    refine .inr ⟨rfl, 0, ?_⟩
    rfl
  · rw [if_neg hs]
    cases hp : Lib.parseUint10 0 s with
    | ok u =>
      have hu := Lib.parseUint10_lt s 0 u (by decide) hp
      have hpos : 0 < s.length := by cases s with | nil => exact absurd rfl hs | cons _ _ => simp
      have h0 : (0 : Int) < (s.length : Int) := by omega
      simp only [endE, go_sem, c_int, c_str, c_bool, h0, decide_true, cond_true]
      rw [Decimal_eq u hu (by omega)]
      simp only [go_sem, c_int, c_str, c_bool]
      by_cases hd : decU u = s
      · rw [if_pos hd]
        refine .inl ⟨u, rfl, ?_⟩
        rw [hd]; simp
      · rw [if_neg hd]
        refine .inr ⟨rfl, u, ?_⟩
        have : (decU u == s) = false := by simpa using hd
        rw [this]
    | range => exact .inr ⟨rfl, 0, rfl⟩
    | _ => exact .inr ⟨rfl, 0, rfl⟩
def splitA (b : UInt8) : List UInt8 → List UInt8 → List (List UInt8)
  | cur, [] => [cur]
  | cur, c :: l => if c = b then cur :: splitA b [] l else splitA b (cur ++ [c]) l
theorem splitU_ne (b : UInt8) : ∀ s, ∃ x l, splitU b s = x :: l
  | [] => ⟨_, _, rfl⟩
  | c :: s => by
    obtain ⟨x, l, h⟩ := splitU_ne b s
    unfold splitU
    split
    · exact ⟨_, _, rfl⟩
    · rw [h]; exact ⟨_, _, rfl⟩
theorem splitA_eq (b : UInt8) : ∀ (l cur : List UInt8) (x : List UInt8) (xs : List (List UInt8)), splitU b l = x :: xs → splitA b cur l = (cur ++ x) :: xs
  | [], cur, x, xs, h => by simp [splitU] at h; obtain ⟨rfl, rfl⟩ := h; simp [splitA]
  | c :: l, cur, x, xs, h => by
    obtain ⟨y, ys, hy⟩ := splitU_ne b l
    unfold splitU at h
    unfold splitA
    split
    · rename_i e
      rw [if_pos e] at h
      injection h with h1 h2
      subst h1
      rw [splitA_eq b l [] y ys hy, List.nil_append, ← hy, h2, List.append_nil]
    · rename_i e
      rw [if_neg e, hy] at h
      injection h with h1 h2
      subst h1 h2
      rw [splitA_eq b l (cur ++ [c]) y ys hy]; simp
theorem splitA_nil (b : UInt8) (l : List UInt8) : splitA b [] l = splitU b l := by
  obtain ⟨y, ys, hy⟩ := splitU_ne b l
  rw [splitA_eq b l [] y ys hy, hy]; rfl
def cutS (s : List UInt8) (b : UInt8) (i : Nat) (p : List C × Nat) (c : UInt8) : (List C × Nat) ⊕ Unit := if c = b then .inl (p.1 ++ [.str ((s.take i).drop p.2)], i + 1) else .inl p
theorem cutS_run (s : List UInt8) (b : UInt8) : ∀ (l : List UInt8) (i : Nat) (p : List C × Nat), s.drop i = l → i ≤ s.length → p.2 ≤ i → p.1.length ≤ i →
    ∃ q, runE (fun i p c => cutS s b i p c) i p l = .inl q ∧ q.2 ≤ s.length ∧ q.1.length ≤ s.length ∧ q.1 ++ [.str ((s.take s.length).drop q.2)] = p.1 ++ (splitA b ((s.take i).drop p.2) l).map C.str
  | [], i, p, h, hi, h2, h3 => by
    have : i = s.length := by have := congrArg List.length h; simp at this; omega
    subst this
    exact ⟨p, rfl, h2, h3, rfl⟩
  | c :: l, i, p, h, hi, h2, h3 => by
    have hlt : i < s.length := by have := congrArg List.length h; simp at this; omega
    have hc : s[i]? = some c := by
      have := List.getElem?_drop (xs := s) (i := i) (j := 0)
      rw [h] at this
      simpa using this.symm
    have hd : s.drop (i + 1) = l := by rw [← List.tail_drop, h]; rfl
    have ht : s.take (i + 1) = s.take i ++ [c] := by rw [List.take_add_one, hc]; rfl
    simp only [runE, cutS, splitA]
    by_cases e : c = b
    · rw [if_pos e, if_pos e]
      obtain ⟨q, q1, q2, q3, q4⟩ := cutS_run s b l (i + 1) (p.1 ++ [.str ((s.take i).drop p.2)], i + 1) hd (by omega) (Nat.le_refl _) (by simp; omega)
      refine ⟨q, q1, q2, q3, ?_⟩
      rw [q4]
      have : (s.take (i + 1)).drop (i + 1) = [] := by simp
      simp only [this, List.map_cons, List.append_assoc, List.singleton_append]
    · rw [if_neg e, if_neg e]
      obtain ⟨q, q1, q2, q3, q4⟩ := cutS_run s b l (i + 1) p hd (by omega) (by omega) (by omega)
      refine ⟨q, q1, q2, q3, ?_⟩
      rw [q4, ht, List.drop_append_of_le_length (by simp; omega)]
theorem rsplit_eq (s : List UInt8) (b : UInt8) (hl : s.length ≤ 65536) (hN : 140737488355329 < N) (k : KD R) : ref30_split_p N (.str s) (.int (b.toNat : Int)) k = k [.slice ((splitU b s).map C.str)] [] := by
  rw [ref30_split_pe]
  unfold ref30_split_p0
  simp only [jn_eq]
  generalize hk2 : (fun d1 m1 => _ : KD R) = k2
  have key := loopK_run (ε := Unit) (N := N) (F := ref30_split_l1 N k2) (fun i (p : List C × Nat) => [.str s, .int (b.toNat : Int), .slice p.1, .int (p.2 : Int), .int (i : Int)]) (fun _ _ => []) s
      (fun i p c => cutS s b i p c) (fun p => k2 [.str s, .slice p.1, .int (p.2 : Int)] []) (fun _ => none) (fun i p => p.2 ≤ i ∧ p.1.length ≤ i) (s0 := ([], 0)) ⟨Nat.le_refl _, Nat.le_refl _⟩
      (fun i p c hc hp => by
        have hi := (List.getElem?_eq_some_iff.1 hc).1
        refine ⟨fun rec => ?_, fun p' h => ?_⟩
        · have h1 : (i : Int) < (s.length : Int) := by omega
          unfold ref30_split_l1
          simp only [go_sem, c_int, c_str, c_slice, c_bool, h1, decide_true, cond_true, Int.natCast_nonneg, and_self, if_true, Int.toNat_natCast, byte_of hc, wrap_succ (show i < 4611686018427387904 by omega), Nat.beq_refl]
          unfold cutS
          by_cases e : c = b
          · subst e
            rw [if_pos rfl, if_pos (by omega), if_pos (by omega), if_pos (rfl : c = c)]
            simp only [List.length_append, List.length_cons, List.length_nil, Nat.beq_refl, cond_true]
          · have : ¬ ((c.toNat : Int) = (b.toNat : Int)) := fun h => e (UInt8.toNat_inj.1 (by omega))
            rw [if_neg this, if_neg e]
        · unfold cutS at h
          split at h
          · cases h; simp; omega
          · cases h; omega)
      (fun p hp rec => by
        unfold ref30_split_l1
        simp only [go_sem, c_int, c_str, c_slice, c_bool, Int.lt_irrefl, decide_false, cond_false, Nat.beq_refl, cond_true]) (by omega)
  have key : loopK N (ref30_split_l1 N k2) [.str s, .int (b.toNat : Int), .slice [], .int 0, .int 0] [] = _ := key
  rw [key]
  obtain ⟨q, q1, q2, q3, q4⟩ := cutS_run s b s 0 ([], 0) rfl (Nat.zero_le _) (Nat.le_refl _) (Nat.le_refl _)
  rw [q1]
  subst hk2
  simp only [endE, go_sem, c_int, c_str, c_slice, Int.natCast_nonneg, true_and, Int.toNat_natCast, Nat.beq_refl, cond_true]
  have g1 : (q.2 : Int) ≤ (s.length : Int) := by omega
  have g2 : (q.1.length + 1) * 16 ≤ 140737488355328 := by omega
  have g3 : q.1.length + 1 ≤ 9223372036854775807 := by omega
  have g4 : (q.1.length + 1).beq (q.1 ++ [C.str (List.drop q.2 (List.take s.length s))]).length = true := by simp
  simp only [g1, g2, g3, g4, Int.le_refl, and_self, if_true, cond_true]
  rw [q4]
  show k [C.slice ([] ++ (splitA b [] s).map C.str)] [] = _
  rw [List.nil_append, splitA_nil]
end Go.Proofs.YtefppgmopnnphaaDoor


namespace Go.Proofs.YtefppgmopnnphaaDoor
open Go Go.E
set_option maxRecDepth 100000
set_option maxHeartbeats 4000000
set_option linter.unusedVariables false
noncomputable def journal_Journal_Text_hs : Hints := [([1, 0, 1, 1], ⟨[4], [], [], [], [], []⟩),
    ([4, 1, 0, 1, 1], ⟨[4, 11, 12], [(13, .d (.int .i64))], [], [], [], []⟩),
    ([1, 0, 1, 1, 1, 4, 0, 1, 1, 5, 4, 1, 0, 1, 1], ⟨[4, 11, 12, 13], [], [], [], [], []⟩),
    ([4, 1, 0, 1, 1, 1, 4, 0, 1, 1, 5, 4, 1, 0, 1, 1], ⟨[4, 11, 12, 13, 27, 28], [(29, .d (.int .i64))], [], [], [], []⟩),
    ([1, 0, 1, 1, 4, 0, 1, 1, 5, 4, 1, 0, 1, 1, 1, 4, 0, 1, 1, 5, 4, 1, 0, 1, 1], ⟨[4, 9, 11, 12, 13, 27, 28, 29], [(10, .d .str)], [], [], [], []⟩),
    ([9], ⟨[], [(2, .d .str), (3, .d (.int .i64))], [], [], [], []⟩)]
noncomputable def journal_Journal_Text_ov (N : Nat) : OvS (X0 gl0) where
  g R := [(13, journal_Entry_Right_g N), (36, bld_WriteString_g N), (50, fmtU_g N), (38, bld_String_g N)]
  ok := fun R => List.forall_mem_cons.2 ⟨journal_Entry_Right_ok N, List.forall_mem_cons.2 ⟨bld_WriteString_ok N, List.forall_mem_cons.2 ⟨fmtU_ok N, List.forall_mem_cons.2 ⟨bld_String_ok N, fun _ h => nomatch h⟩⟩⟩⟩
noncomputable def journal_Journal_Text_l1 {R : Type} (N : Nat) (k4 : KD R) : KD R → List C → List Es → Option R := (fun k5 d3 m3 => (bif decide (C.toInt (dk d3 5) < C.toInt (dk d3 4)) then (if 0 ≤ C.toInt (dk d3 5) ∧ C.toInt (dk d3 5) < (↑(List.length (C.elems (dk d3 3))) : Int) then (jn (fun d4 m4 => (if 1 + List.length (C.toStr (C.get (dk d4 9) 0)) ≤ 140737488355328 then (if List.length ([UInt8.ofNat 32] ++ C.toStr (C.get (dk d4 9) 0)) + List.length (C.toStr (dk d4 6)) ≤ 140737488355328 then (if List.length ([UInt8.ofNat 32] ++ C.toStr (C.get (dk d4 9) 0) ++ C.toStr (dk d4 6)) + List.length (decU (Int.toNat (C.toInt (C.get (dk d4 9) 1)))) ≤ 140737488355328 then (if true = true ∧ Int.toNat (C.toInt (dk d4 8)) = 90 ∧ List.length (C.toStr (dk d4 7) ++ ([UInt8.ofNat 32] ++ C.toStr (C.get (dk d4 9) 0) ++ C.toStr (dk d4 6) ++ decU (Int.toNat (C.toInt (C.get (dk d4 9) 1))))) ≤ 140737488355328 then (k5 [dk d4 0, dk d4 1, dk d4 2, dk d4 3, dk d4 4, C.int (IntKind.wrap IntKind.i64 (C.toInt (dk d4 5) + 1)), C.str (C.toStr (dk d4 7) ++ ([UInt8.ofNat 32] ++ C.toStr (C.get (dk d4 9) 0) ++ C.toStr (dk d4 6) ++ decU (Int.toNat (C.toInt (C.get (dk d4 9) 1))))), C.int 90] []) else none) else none) else none) else none)) (fun k6 => (bif C.toBool (C.get (List.getD (C.elems (dk d3 3)) (Int.toNat (C.toInt (dk d3 5))) C.nil) 2) then (k6 [dk d3 0, dk d3 1, dk d3 2, dk d3 3, dk d3 4, dk d3 5, C.str [UInt8.ofNat 32, UInt8.ofNat 45], C.str (C.toStr (dk d3 6)), C.int (↑(Int.toNat (C.toInt (dk d3 7))) : Int), List.getD (C.elems (dk d3 3)) (Int.toNat (C.toInt (dk d3 5))) C.nil] []) else (k6 [dk d3 0, dk d3 1, dk d3 2, dk d3 3, dk d3 4, dk d3 5, C.str [UInt8.ofNat 32, UInt8.ofNat 43], C.str (C.toStr (dk d3 6)), C.int (↑(Int.toNat (C.toInt (dk d3 7))) : Int), List.getD (C.elems (dk d3 3)) (Int.toNat (C.toInt (dk d3 5))) C.nil] [])))) else none) else (k4 [dk d3 0, dk d3 1, dk d3 2, C.str (C.toStr (dk d3 6)), C.int (↑(Int.toNat (C.toInt (dk d3 7))) : Int)] [])))
noncomputable def journal_Journal_Text_l2 {R : Type} (N : Nat) (k1 : KD R) (k2 : KD R) : KD R → List C → List Es → Option R := (fun k3 d1 m1 => (bif decide (C.toInt (dk d1 2) < C.toInt (dk d1 1)) then (if 0 ≤ C.toInt (dk d1 2) ∧ C.toInt (dk d1 2) < (↑(List.length (C.elems (dk d1 0))) : Int) then (journal_Entry_Right_p N (List.getD (C.elems (dk d1 0)) (Int.toNat (C.toInt (dk d1 2))) C.nil) (fun d2 m2 => (bif !decide (C.toInt (dk d2 0) = 0) then (k1 [C.str [], dk d2 0] []) else (if true = true ∧ Int.toNat (C.toInt (dk d1 4)) = 90 ∧ List.length (C.toStr (dk d1 3) ++ decU (Int.toNat (C.toInt (C.get (List.getD (C.elems (dk d1 0)) (Int.toNat (C.toInt (dk d1 2))) C.nil) 0)))) ≤ 140737488355328 then (jn (fun d3 m3 => (if true = true ∧ Int.toNat (C.toInt (dk d3 4)) = 90 ∧ List.length (C.toStr (dk d3 3) ++ [UInt8.ofNat 10]) ≤ 140737488355328 then (k3 [dk d3 0, dk d3 1, C.int (IntKind.wrap IntKind.i64 (C.toInt (dk d3 2) + 1)), C.str (C.toStr (dk d3 3) ++ [UInt8.ofNat 10]), C.int 90] []) else none)) (fun k4 => (loopK N (journal_Journal_Text_l1 N k4) [dk d1 0, dk d1 1, dk d1 2, C.get (List.getD (C.elems (dk d1 0)) (Int.toNat (C.toInt (dk d1 2))) C.nil) 1, C.int (↑(List.length (C.elems (C.get (List.getD (C.elems (dk d1 0)) (Int.toNat (C.toInt (dk d1 2))) C.nil) 1))) : Int), C.int 0, C.str (C.toStr (dk d1 3) ++ decU (Int.toNat (C.toInt (C.get (List.getD (C.elems (dk d1 0)) (Int.toNat (C.toInt (dk d1 2))) C.nil) 0)))), C.int 90] []))) else none)))) else none) else (k2 [C.str (C.toStr (dk d1 3)), C.int (↑(Int.toNat (C.toInt (dk d1 4))) : Int)] [])))
noncomputable def journal_Journal_Text_p0 {R : Type} (N : Nat) (a0 : C) (k1 : KD R) : Option R := (jn (fun d1 m1 => (if true = true ∧ Int.toNat (C.toInt (dk d1 1)) = 90 then (k1 [C.str (C.toStr (dk d1 0)), C.int 0] []) else none)) (fun k2 => (loopK N (journal_Journal_Text_l2 N k1 k2) [a0, C.int (↑(List.length (C.elems a0)) : Int), C.int 0, C.str [], C.int 90] [])))
noncomputable def journal_Journal_Text_p {R : Type} (N : Nat) : C → KD R → Option R := lid "journal_Journal_Text_p N" (journal_Journal_Text_p0 N)
theorem journal_Journal_Text_pe {R : Type} (N : Nat) (a0 : C) (k : KD R) : journal_Journal_Text_p N a0 k = journal_Journal_Text_p0 N a0 k := by unfold journal_Journal_Text_p; rw [lid_eq]
theorem journal_Journal_Text_run {R : Type} (N : Nat) (a0 : C) (K : V → List (Key × O) → Option R) : exF (X0 gl0) ((journal_Journal_Text_ov N).ov R) extX (fun f r => bif Nat.beq f 19 then (bif Nat.beq r 15 then [(9, 6)] else []) else []) (fun f => bif Nat.beq f 19 then journal_Journal_Text_hs else []) N 400 8 19 [.d (.slice 32 tEntry3) a0] A0 K =
    journal_Journal_Text_p N a0 (fun d1 m1 => K (V.tup [V.d Ty.str (dk d1 0), V.d (Ty.int IntKind.i64) (dk d1 1)]) []) := by
  rw [journal_Journal_Text_pe]
  exact (show _ = jn (fun d1 m1 => (K (V.tup [V.d Ty.str (dk d1 0), V.d (Ty.int IntKind.i64) (dk d1 1)]) [])) (journal_Journal_Text_p0 N a0) by kernel_rfl).trans (jn_eq _ _)
noncomputable def journal_Journal_Text_g (N : Nat) {R : Type} : OvG R := fun xs _ K => match xs with
  | [.d t0 a0] => if t0 = (.slice 32 tEntry3) then journal_Journal_Text_p N a0 (fun d1 m1 => K (V.tup [V.d Ty.str (dk d1 0), V.d (Ty.int IntKind.i64) (dk d1 1)]) []) else none
  | _ => none
theorem journal_Journal_Text_ok (N : Nat) {R : Type} : GOk (X0 gl0) 19 (journal_Journal_Text_g N (R := R)) := by
  intro xs A Kr r hr
  unfold journal_Journal_Text_g at hr
  split at hr
  · simp only [Option.ite_none_right_eq_some] at hr
    obtain ⟨hty, hr⟩ := hr
    subst hty
    rw [← journal_Journal_Text_run] at hr
    obtain ⟨v, L, h1, h2⟩ := exF_ok (ok0 gl0) (mo gl0) ((journal_Journal_Text_ov N).ov_ok _) (extX_ok gl0) _ _ _ _ _ _ hr
    exact ⟨v, L, h1.mono (leA_none fun _ => rfl), h2⟩
  · cases hr
end Go.Proofs.YtefppgmopnnphaaDoor


namespace Go.Proofs.YtefppgmopnnphaaDoor
open Go Go.E
set_option maxRecDepth 100000
set_option maxHeartbeats 4000000
set_option linter.unusedVariables false
noncomputable def ref30_Text_hs : Hints := [([1, 0, 1, 1], ⟨[], [(4, .d .str)], [], [], [], []⟩),
    ([4, 1, 0, 1, 1], ⟨[0], [(4, .d .str), (5, .d (.int .i64))], [], [], [], []⟩),
    ([1, 0, 1, 1, 1, 4, 0, 1, 5, 4, 1, 0, 1, 1], ⟨[0, 5], [(4, .d .str)], [], [], [], []⟩),
    ([4, 1, 0, 1, 1, 1, 4, 0, 1, 5, 4, 1, 0, 1, 1], ⟨[0, 5], [(4, .d .str), (7, .d (.int .i64))], [], [], [], []⟩),
    ([1, 0, 1, 1, 4, 0, 1, 5, 4, 1, 0, 1, 1, 1, 4, 0, 1, 5, 4, 1, 0, 1, 1], ⟨[0, 4, 5, 7, 8], [(9, .d .str)], [], [], [], []⟩),
    ([9], ⟨[], [(2, .d .str), (3, .d (.int .i64))], [], [], [], []⟩)]
noncomputable def ref30_Text_ov (N : Nat) : OvS (X0 gl0) where
  g R := [(12, ref30_Right_g N), (39, ref11_Decimal_g N)]
  ok := fun R => List.forall_mem_cons.2 ⟨ref30_Right_ok N, List.forall_mem_cons.2 ⟨ref11_Decimal_ok N, fun _ h => nomatch h⟩⟩
noncomputable def ref30_Text_l1 {R : Type} (N : Nat) (k4 : KD R) : KD R → List C → List Es → Option R := (fun k5 d4 m4 => (if 0 ≤ C.toInt (dk d4 1) ∧ C.toInt (dk d4 1) < (↑(List.length (C.elems (dk d4 0))) : Int) then (bif decide (C.toInt (dk d4 3) < (↑(List.length (C.elems (C.get (List.getD (C.elems (dk d4 0)) (Int.toNat (C.toInt (dk d4 1))) C.nil) 1))) : Int)) then (if 0 ≤ C.toInt (dk d4 1) ∧ C.toInt (dk d4 1) < (↑(List.length (C.elems (dk d4 0))) : Int) then (if 0 ≤ C.toInt (dk d4 3) ∧ C.toInt (dk d4 3) < (↑(List.length (C.elems (C.get (List.getD (C.elems (dk d4 0)) (Int.toNat (C.toInt (dk d4 1))) C.nil) 1))) : Int) then (jn (fun d5 m5 => (if List.length (C.toStr (dk d5 1)) + 1 ≤ 140737488355328 then (if List.length (C.toStr (dk d5 1) ++ [UInt8.ofNat 32]) + List.length (C.toStr (C.get (dk d5 5) 0)) ≤ 140737488355328 then (if List.length (C.toStr (dk d5 1) ++ [UInt8.ofNat 32] ++ C.toStr (C.get (dk d5 5) 0)) + 1 ≤ 140737488355328 then (if List.length (C.toStr (dk d5 1) ++ [UInt8.ofNat 32] ++ C.toStr (C.get (dk d5 5) 0) ++ [UInt8.ofNat 32]) + List.length (C.toStr (dk d5 4)) ≤ 140737488355328 then (ref11_Decimal_p N (C.get (dk d5 5) 1) (fun d6 m6 => (if List.length (C.toStr (dk d5 1) ++ [UInt8.ofNat 32] ++ C.toStr (C.get (dk d5 5) 0) ++ [UInt8.ofNat 32] ++ C.toStr (dk d5 4)) + List.length (C.toStr (dk d6 0)) ≤ 140737488355328 then (k5 [dk d5 0, dk d5 2, C.str (C.toStr (dk d5 1) ++ [UInt8.ofNat 32] ++ C.toStr (C.get (dk d5 5) 0) ++ [UInt8.ofNat 32] ++ C.toStr (dk d5 4) ++ C.toStr (dk d6 0)), C.int (IntKind.wrap IntKind.i64 (C.toInt (dk d5 3) + 1))] []) else none))) else none) else none) else none) else none)) (fun k6 => (bif C.toBool (C.get (List.getD (C.elems (C.get (List.getD (C.elems (dk d4 0)) (Int.toNat (C.toInt (dk d4 1))) C.nil) 1)) (Int.toNat (C.toInt (dk d4 3))) C.nil) 2) then (k6 [dk d4 0, dk d4 2, dk d4 1, dk d4 3, C.str [UInt8.ofNat 45], List.getD (C.elems (C.get (List.getD (C.elems (dk d4 0)) (Int.toNat (C.toInt (dk d4 1))) C.nil) 1)) (Int.toNat (C.toInt (dk d4 3))) C.nil] []) else (k6 [dk d4 0, dk d4 2, dk d4 1, dk d4 3, C.str [UInt8.ofNat 43], List.getD (C.elems (C.get (List.getD (C.elems (dk d4 0)) (Int.toNat (C.toInt (dk d4 1))) C.nil) 1)) (Int.toNat (C.toInt (dk d4 3))) C.nil] [])))) else none) else none) else (k4 [dk d4 0, dk d4 1, dk d4 2] [])) else none))
noncomputable def ref30_Text_l2 {R : Type} (N : Nat) (k1 : KD R) (k2 : KD R) : KD R → List C → List Es → Option R := (fun k3 d1 m1 => (bif decide (C.toInt (dk d1 2) < (↑(List.length (C.elems (dk d1 0))) : Int)) then (if 0 ≤ C.toInt (dk d1 2) ∧ C.toInt (dk d1 2) < (↑(List.length (C.elems (dk d1 0))) : Int) then (ref30_Right_p N (List.getD (C.elems (dk d1 0)) (Int.toNat (C.toInt (dk d1 2))) C.nil) (fun d2 m2 => (bif !decide (C.toInt (dk d2 0) = 0) then (k1 [C.str [], dk d2 0] []) else (if 0 ≤ C.toInt (dk d1 2) ∧ C.toInt (dk d1 2) < (↑(List.length (C.elems (dk d1 0))) : Int) then (ref11_Decimal_p N (C.get (List.getD (C.elems (dk d1 0)) (Int.toNat (C.toInt (dk d1 2))) C.nil) 0) (fun d3 m3 => (if List.length (C.toStr (dk d1 1)) + List.length (C.toStr (dk d3 0)) ≤ 140737488355328 then (jn (fun d4 m4 => (if List.length (C.toStr (dk d4 2)) + 1 ≤ 140737488355328 then (k3 [dk d4 0, C.str (C.toStr (dk d4 2) ++ [UInt8.ofNat 10]), C.int (IntKind.wrap IntKind.i64 (C.toInt (dk d4 1) + 1))] []) else none)) (fun k4 => (loopK N (ref30_Text_l1 N k4) [dk d1 0, dk d1 2, C.str (C.toStr (dk d1 1) ++ C.toStr (dk d3 0)), C.int 0] []))) else none))) else none)))) else none) else (k2 [dk d1 1] [])))
noncomputable def ref30_Text_p0 {R : Type} (N : Nat) (a0 : C) (k1 : KD R) : Option R := (jn (fun d1 m1 => (k1 [dk d1 0, C.int 0] [])) (fun k2 => (loopK N (ref30_Text_l2 N k1 k2) [a0, C.str [], C.int 0] [])))
noncomputable def ref30_Text_p {R : Type} (N : Nat) : C → KD R → Option R := lid "ref30_Text_p N" (ref30_Text_p0 N)
theorem ref30_Text_pe {R : Type} (N : Nat) (a0 : C) (k : KD R) : ref30_Text_p N a0 k = ref30_Text_p0 N a0 k := by unfold ref30_Text_p; rw [lid_eq]
theorem ref30_Text_run {R : Type} (N : Nat) (a0 : C) (K : V → List (Key × O) → Option R) : exF (X0 gl0) ((ref30_Text_ov N).ov R) extX (fun f r => bif Nat.beq f 20 then (bif Nat.beq r 16 then [(62, 7), (8, 6)] else []) else []) (fun f => bif Nat.beq f 20 then ref30_Text_hs else []) N 400 8 20 [.d (.slice 32 tEntry3) a0] A0 K =
    ref30_Text_p N a0 (fun d1 m1 => K (V.tup [V.d Ty.str (dk d1 0), V.d (Ty.int IntKind.i64) (dk d1 1)]) []) := by
  rw [ref30_Text_pe]
  exact (show _ = jn (fun d1 m1 => (K (V.tup [V.d Ty.str (dk d1 0), V.d (Ty.int IntKind.i64) (dk d1 1)]) [])) (ref30_Text_p0 N a0) by kernel_rfl).trans (jn_eq _ _)
noncomputable def ref30_Text_g (N : Nat) {R : Type} : OvG R := fun xs _ K => match xs with
  | [.d t0 a0] => if t0 = (.slice 32 tEntry3) then ref30_Text_p N a0 (fun d1 m1 => K (V.tup [V.d Ty.str (dk d1 0), V.d (Ty.int IntKind.i64) (dk d1 1)]) []) else none
  | _ => none
theorem ref30_Text_ok (N : Nat) {R : Type} : GOk (X0 gl0) 20 (ref30_Text_g N (R := R)) := by
  intro xs A Kr r hr
  unfold ref30_Text_g at hr
  split at hr
  · simp only [Option.ite_none_right_eq_some] at hr
    obtain ⟨hty, hr⟩ := hr
    subst hty
    rw [← ref30_Text_run] at hr
    obtain ⟨v, L, h1, h2⟩ := exF_ok (ok0 gl0) (mo gl0) ((ref30_Text_ov N).ov_ok _) (extX_ok gl0) _ _ _ _ _ _ hr
    exact ⟨v, L, h1.mono (leA_none fun _ => rfl), h2⟩
  · cases hr
end Go.Proofs.YtefppgmopnnphaaDoor


namespace Go.Proofs.YtefppgmopnnphaaDoor
open Go Go.E
set_option maxRecDepth 100000
set_option maxHeartbeats 4000000
set_option linter.unusedSimpArgs false
variable {R : Type} {N : Nat}
theorem u64N {y : C} (t : C.wf (.int .u64) y) : ∃ n : Nat, y = .int (n : Int) ∧ n < 18446744073709551616 := by
  simp only [C.wf] at t
  have m1 : IntKind.u64.min = 0 := by decide
  have m2 : IntKind.u64.max = 18446744073709551615 := by decide
  refine ⟨y.toInt.toNat, ?_, by omega⟩
  have : ((y.toInt.toNat : Nat) : Int) = y.toInt := by omega
  rw [this]; exact t.1
theorem decU_le (n : Nat) (h : n < 18446744073709551616) : (decU n).length ≤ 20 := by rw [decU_eq n h]; exact decDigits_le n h
def postT (p : C) : List UInt8 := [UInt8.ofNat 32] ++ (p.get 0).toStr ++ (bif (p.get 2).toBool then [UInt8.ofNat 32, UInt8.ofNat 45] else [UInt8.ofNat 32, UInt8.ofNat 43]) ++ decU (p.get 1).toInt.toNat
def postsT (t : List UInt8) (ps : List C) : List UInt8 := ps.foldl (fun t p => t ++ postT p) t
def PostK (p : C) : Prop := C.wf tPost p ∧ (p.get 0).toStr.length ≤ 20
theorem postT_len {p : C} (h : PostK p) : (postT p).length ≤ 43 := by
  have h1 := h.2
  obtain ⟨n, e, h2⟩ := u64N (C.wf_field (i := 1) (f := .int .u64) h.1 rfl)
  have h3 := decU_le n h2
  unfold postT
  rw [e]
  cases (p.get 2).toBool <;> simp only [cond_true, cond_false, c_int, Int.toNat_natCast, List.length_append, List.length_cons, List.length_nil] <;> omega
theorem postsT_len : ∀ (ps : List C) (t : List UInt8), (∀ p ∈ ps, PostK p) → (postsT t ps).length ≤ t.length + 43 * ps.length
  | [], t, _ => Nat.le_refl _
  | p :: ps, t, h => by
    have h1 := postT_len (h p (by simp))
    have h2 := postsT_len ps (t ++ postT p) (fun q hq => h q (by simp [hq]))
    unfold postsT at h2 ⊢
    simp only [List.foldl_cons, List.length_append, List.length_cons] at h2 ⊢
    omega
theorem rightN_zero {ps : List C} (h : rightN ps = 0) : ps.length ≤ 8 ∧ ∀ p ∈ ps, (p.get 0).toStr.length ≤ 20 := by
  unfold rightN at h
  split at h
  · cases h
  · rename_i h1
    refine ⟨by omega, fun p hp => ?_⟩
    cases ha : ps.all postOk with
    | false => rw [ha] at h; cases h
    | true =>
      have := List.all_eq_true.1 ha p hp
      unfold postOk namedF at this
      simp only [Bool.and_eq_true, decide_eq_true_eq] at this
      exact this.1.1.2
theorem jtext_in (ps : List C) (a b c : C) (t : List UInt8) (hp : ∀ p ∈ ps, PostK p) (hl : ps.length ≤ 8) (ht : t.length ≤ 1000000) (hN : 4398046511105 < N) (k : KD R) :
    loopK N (journal_Journal_Text_l1 N k) [a, b, c, .slice ps, .int (ps.length : Int), .int 0, .str t, .int 90] [] = k [a, b, c, .str (postsT t ps), .int 90] [] := by
  have key := loopK_run (ε := Unit) (N := N) (F := journal_Journal_Text_l1 N k) (fun i (t : List UInt8) => [a, b, c, .slice ps, .int (ps.length : Int), .int (i : Int), .str t, .int 90]) (fun _ _ => []) ps
      (fun _ t p => .inl (t ++ postT p)) (fun t => k [a, b, c, .str t, .int 90] []) (fun _ => none) (fun i t => t.length ≤ 1000000 + 43 * i) (s0 := t) (by omega)
      (fun i t p hc ht => by
        have hi := (List.getElem?_eq_some_iff.1 hc).1
        have hK := hp p (List.mem_of_getElem? hc)
        have hT := postT_len hK
        have h20 := hK.2
        refine ⟨fun rec => ?_, fun s' h => by cases h; simp only [List.length_append]; omega⟩
        have h1 : (i : Int) < (ps.length : Int) := by omega
        obtain ⟨n, e, h2⟩ := u64N (C.wf_field (i := 1) (f := .int .u64) hK.1 rfl)
        have h3 := decU_le n h2
        have h90 : (90 : Int).toNat = 90 := rfl
        unfold journal_Journal_Text_l1
        simp only [go_sem, c_int, c_slice, c_str, c_bool, h1, getD_of hc, decide_true, cond_true, Int.natCast_nonneg, and_self, if_true, Int.toNat_natCast, wrap_succ (show i < 4611686018427387904 by omega), h90]
        unfold postT at hT ⊢
        rw [e] at hT ⊢
        cases hb : (p.get 2).toBool with
        | true =>
          rw [hb] at hT
          simp only [cond_true, cond_false, c_int, c_str, Int.toNat_natCast, List.length_append, List.length_cons, List.length_nil] at hT ⊢
          rw [if_pos (by omega), if_pos (by omega), if_pos (by omega), if_pos (by omega)]
          rfl
        | false =>
          rw [hb] at hT
          simp only [cond_true, cond_false, c_int, c_str, Int.toNat_natCast, List.length_append, List.length_cons, List.length_nil] at hT ⊢
          rw [if_pos (by omega), if_pos (by omega), if_pos (by omega), if_pos (by omega)]
          rfl)
      (fun t ht rec => by
        unfold journal_Journal_Text_l1
        have h90 : (90 : Int).toNat = 90 := rfl
        simp only [go_sem, c_int, c_slice, c_str, c_bool, Int.lt_irrefl, decide_false, cond_false, h90]) (by omega)
  rw [runE_foldl] at key
  exact key
theorem rtext_in (l : List C) (x : C) (i0 : Nat) (t : List UInt8) (hx : l[i0]? = some x) (hp : ∀ p ∈ (x.get 1).elems, PostK p) (hl : (x.get 1).elems.length ≤ 8) (ht : t.length ≤ 1000000) (hN : 140737488355329 < N) (k : KD R) :
    loopK N (ref30_Text_l1 N k) [.slice l, .int (i0 : Int), .str t, .int 0] [] = k [.slice l, .int (i0 : Int), .str (postsT t (x.get 1).elems)] [] := by
  have hi0 := (List.getElem?_eq_some_iff.1 hx).1
  have hi1 : (i0 : Int) < (l.length : Int) := by omega
  have key := loopK_run (ε := Unit) (N := N) (F := ref30_Text_l1 N k) (fun i (t : List UInt8) => [.slice l, .int (i0 : Int), .str t, .int (i : Int)]) (fun _ _ => []) (x.get 1).elems
      (fun _ t p => .inl (t ++ postT p)) (fun t => k [.slice l, .int (i0 : Int), .str t] []) (fun _ => none) (fun i t => t.length ≤ 1000000 + 43 * i) (s0 := t) (by omega)
      (fun i t p hc ht => by
        have hi := (List.getElem?_eq_some_iff.1 hc).1
        have hK := hp p (List.mem_of_getElem? hc)
        have hT := postT_len hK
        have h20 := hK.2
        refine ⟨fun rec => ?_, fun s' h => by cases h; simp only [List.length_append]; omega⟩
        have h1 : (i : Int) < ((x.get 1).elems.length : Int) := by omega
        obtain ⟨n, e, h2⟩ := u64N (C.wf_field (i := 1) (f := .int .u64) hK.1 rfl)
        have h3 := decU_le n h2
        unfold ref30_Text_l1
        simp only [go_sem, c_int, c_slice, c_str, c_bool, hi1, getD_of hx, h1, getD_of hc, decide_true, cond_true, Int.natCast_nonneg, and_self, if_true, Int.toNat_natCast, wrap_succ (show i < 4611686018427387904 by omega)]
        unfold postT at hT ⊢
        rw [e] at hT ⊢
        cases hb : (p.get 2).toBool with
        | true =>
          rw [hb] at hT
          simp only [cond_true, cond_false, c_int, c_str, Int.toNat_natCast, List.length_append, List.length_cons, List.length_nil] at hT ⊢
          rw [if_pos (by omega), if_pos (by omega), if_pos (by omega), if_pos (by omega), Decimal_eq n h2 (by omega)]
          simp only [go_sem, c_str]
          refine (if_pos (by omega)).trans ?_
          simp
        | false =>
          rw [hb] at hT
          simp only [cond_true, cond_false, c_int, c_str, Int.toNat_natCast, List.length_append, List.length_cons, List.length_nil] at hT ⊢
          rw [if_pos (by omega), if_pos (by omega), if_pos (by omega), if_pos (by omega), Decimal_eq n h2 (by omega)]
          simp only [go_sem, c_str]
          refine (if_pos (by omega)).trans ?_
          simp)
      (fun t ht rec => by
        unfold ref30_Text_l1
        simp only [go_sem, c_int, c_slice, c_str, c_bool, hi1, getD_of hx, Int.natCast_nonneg, and_self, if_true, Int.toNat_natCast, Int.lt_irrefl, decide_false, cond_false]) (by omega)
  rw [runE_foldl] at key
  exact key
def entT (t : List UInt8) (x : C) : List UInt8 := postsT (t ++ decU (x.get 0).toInt.toNat) (x.get 1).elems ++ [UInt8.ofNat 10]
def txtF (t : List UInt8) (x : C) : List UInt8 ⊕ Int := if rightN (x.get 1).elems = 0 then .inl (entT t x) else .inr (rightN (x.get 1).elems)
def txtR (l : List C) : List UInt8 ⊕ Int := runE (fun _ t x => txtF t x) 0 [] l
theorem txtF_len {t t' : List UInt8} {x : C} (hx : C.wf tEntry3 x) (h : txtF t x = .inl t') : t'.length ≤ t.length + 400 := by
  unfold txtF at h
  split at h
  · rename_i h0
    cases h
    obtain ⟨r1, r2⟩ := rightN_zero h0
    obtain ⟨p1, p2, p3⟩ := entW hx
    obtain ⟨n, e, h2⟩ := u64N (C.wf_field (i := 0) (f := .int .u64) hx rfl)
    have h3 := decU_le n h2
    have h4 := postsT_len (x.get 1).elems (t ++ decU (x.get 0).toInt.toNat) (fun p hp => ⟨p3 p hp, r2 p hp⟩)
    unfold entT
    rw [e] at h4 ⊢
    simp only [List.length_append, List.length_cons, List.length_nil, c_int, Int.toNat_natCast] at h4 ⊢
    omega
  · cases h
theorem jText_eq (l : List C) (hw : ∀ x ∈ l, C.wf tEntry3 x) (hl : l.length ≤ 200) (hN : 140737488355329 < N) (k : KD R) :
    journal_Journal_Text_p N (.slice l) k = (match txtR l with | .inl t => k [.str t, .int 0] [] | .inr e => k [.str [], .int e] []) := by
  rw [journal_Journal_Text_pe]
  unfold journal_Journal_Text_p0
  simp only [jn_eq, c_slice]
  generalize hk2 : (fun d1 m1 => _ : KD R) = k2
  have h90 : (90 : Int).toNat = 90 := rfl
  have key := loopK_run (ε := Int) (N := N) (F := journal_Journal_Text_l2 N k k2) (fun i (t : List UInt8) => [.slice l, .int (l.length : Int), .int (i : Int), .str t, .int 90]) (fun _ _ => []) l
      (fun _ t x => txtF t x) (fun t => k2 [.str t, .int 90] []) (fun e => k [.str [], .int e] []) (fun i t => t.length ≤ 400 * i) (s0 := []) (Nat.le_refl _)
      (fun i t x hc ht => by
        have hi := (List.getElem?_eq_some_iff.1 hc).1
        have hx := hw x (List.mem_of_getElem? hc)
        refine ⟨fun rec => ?_, fun s' h => by have := txtF_len hx h; omega⟩
        have h1 : (i : Int) < (l.length : Int) := by omega
        obtain ⟨p1, p2, p3⟩ := entW hx
        unfold journal_Journal_Text_l2
        simp only [go_sem, c_int, c_slice, c_str, c_bool, h1, getD_of hc, decide_true, cond_true, Int.natCast_nonneg, and_self, if_true, Int.toNat_natCast, wrap_succ (show i < 4611686018427387904 by omega), h90]
        rw [Right_eq x hx (by omega)]
        simp only [go_sem, c_int]
        unfold txtF
        by_cases h0 : rightN (x.get 1).elems = 0
        · obtain ⟨r1, r2⟩ := rightN_zero h0
          obtain ⟨n, e, h2⟩ := u64N (C.wf_field (i := 0) (f := .int .u64) hx rfl)
          have h3 := decU_le n h2
          have h4 := postsT_len (x.get 1).elems (t ++ decU (x.get 0).toInt.toNat) (fun p hp => ⟨p3 p hp, r2 p hp⟩)
          unfold entT
          rw [if_pos h0, h0]
          rw [e] at h4 ⊢
          simp only [List.length_append, c_int, Int.toNat_natCast] at h4
          simp only [decide_true, Bool.not_true, cond_false, c_int, Int.toNat_natCast, List.length_append]
          rw [if_pos (by omega), p1, c_slice, jtext_in _ _ _ _ _ (fun p hp => ⟨p3 p hp, r2 p hp⟩) r1 (by simp only [List.length_append]; omega) (by omega)]
          simp only [go_sem, c_int, c_slice, c_str, h90, wrap_succ (show i < 4611686018427387904 by omega), List.length_append, List.length_cons, List.length_nil]
          rw [if_pos (by omega)]
        · rw [if_neg h0]
          simp only [h0, decide_false, Bool.not_false, cond_true])
      (fun t ht rec => by
        unfold journal_Journal_Text_l2
        simp only [go_sem, c_int, c_slice, c_str, c_bool, Int.lt_irrefl, decide_false, cond_false, h90]) (by omega)
  have key : loopK N (journal_Journal_Text_l2 N k k2) [.slice l, .int (l.length : Int), .int 0, .str [], .int 90] [] = _ := key
  rw [key]
  show endE _ _ (txtR l) = _
  cases txtR l with
  | inl t =>
    subst hk2
    simp only [endE, go_sem, c_int, c_str, h90, and_self, if_true]
  | inr e => rfl
theorem rText_eq (l : List C) (hw : ∀ x ∈ l, C.wf tEntry3 x) (hl : l.length ≤ 200) (hN : 140737488355329 < N) (k : KD R) :
    ref30_Text_p N (.slice l) k = (match txtR l with | .inl t => k [.str t, .int 0] [] | .inr e => k [.str [], .int e] []) := by
  rw [ref30_Text_pe]
  unfold ref30_Text_p0
  simp only [jn_eq, c_slice]
  generalize hk2 : (fun d1 m1 => _ : KD R) = k2
  have key := loopK_run (ε := Int) (N := N) (F := ref30_Text_l2 N k k2) (fun i (t : List UInt8) => [.slice l, .str t, .int (i : Int)]) (fun _ _ => []) l
      (fun _ t x => txtF t x) (fun t => k2 [.str t] []) (fun e => k [.str [], .int e] []) (fun i t => t.length ≤ 400 * i) (s0 := []) (Nat.le_refl _)
      (fun i t x hc ht => by
        have hi := (List.getElem?_eq_some_iff.1 hc).1
        have hx := hw x (List.mem_of_getElem? hc)
        refine ⟨fun rec => ?_, fun s' h => by have := txtF_len hx h; omega⟩
        have h1 : (i : Int) < (l.length : Int) := by omega
        obtain ⟨p1, p2, p3⟩ := entW hx
        unfold ref30_Text_l2
        simp only [go_sem, c_int, c_slice, c_str, c_bool, h1, getD_of hc, decide_true, cond_true, Int.natCast_nonneg, and_self, if_true, Int.toNat_natCast]
        rw [rRight_eq x hx (by omega)]
        simp only [go_sem, c_int]
        unfold txtF
        by_cases h0 : rightN (x.get 1).elems = 0
        · obtain ⟨r1, r2⟩ := rightN_zero h0
          obtain ⟨n, e, h2⟩ := u64N (C.wf_field (i := 0) (f := .int .u64) hx rfl)
          have h3 := decU_le n h2
          have h4 := postsT_len (x.get 1).elems (t ++ decU (x.get 0).toInt.toNat) (fun p hp => ⟨p3 p hp, r2 p hp⟩)
          unfold entT
          rw [if_pos h0, h0]
          rw [e] at h4 ⊢
          simp only [List.length_append, c_int, Int.toNat_natCast] at h4
          simp only [decide_true, Bool.not_true, cond_false, c_int, Int.toNat_natCast]
          rw [Decimal_eq n h2 (by omega)]
          simp only [go_sem, c_str]
          refine (if_pos (by omega)).trans ?_
          rw [rtext_in l x i _ hc (fun p hp => ⟨p3 p hp, r2 p hp⟩) r1 (by simp only [List.length_append]; omega) (by omega)]
          simp only [go_sem, c_int, c_slice, c_str, wrap_succ (show i < 4611686018427387904 by omega)]
          exact if_pos (by omega)
        · rw [if_neg h0]
          simp only [h0, decide_false, Bool.not_false, cond_true])
      (fun t ht rec => by
        unfold ref30_Text_l2
        simp only [go_sem, c_int, c_slice, c_str, c_bool, Int.lt_irrefl, decide_false, cond_false]) (by omega)
  have key : loopK N (ref30_Text_l2 N k k2) [.slice l, .str [], .int 0] [] = _ := key
  rw [key]
  show endE _ _ (txtR l) = _
  cases txtR l with
  | inl t =>
    subst hk2
    simp only [endE, go_sem, c_int, c_str]
  | inr e => rfl
end Go.Proofs.YtefppgmopnnphaaDoor


namespace Go.Proofs.YtefppgmopnnphaaDoor
open Go Go.E
set_option maxRecDepth 100000
set_option maxHeartbeats 4000000
set_option linter.unusedVariables false
noncomputable def internal_stringslite_HasPrefix_hs : Hints := [([0, 1], ⟨[], [(4, .d .bool)], [], [], [], []⟩),
    ([9], ⟨[], [(4, .d .bool)], [], [], [], []⟩)]
noncomputable def internal_stringslite_HasPrefix_ov (N : Nat) : OvS (X0 gl0) where
  g R := []
  ok := fun R => fun _ h => nomatch h
noncomputable def internal_stringslite_HasPrefix_p0 {R : Type} (N : Nat) (a0 a1 : C) (k1 : KD R) : Option R := (jn (fun d1 m1 => (k1 [C.bool (C.toBool (dk d1 0))] [])) (fun k2 => (bif decide ((↑(List.length (C.toStr a1)) : Int) ≤ (↑(List.length (C.toStr a0)) : Int)) then (if Int.ofNat 0 ≤ 0 ∧ 0 ≤ (↑(List.length (C.toStr a1)) : Int) ∧ (↑(List.length (C.toStr a1)) : Int) ≤ (↑(List.length (C.toStr a0)) : Int) then (k2 [C.bool (List.drop 0 (List.take (Int.toNat (↑(List.length (C.toStr a1)) : Int)) (C.toStr a0)) == C.toStr a1)] []) else none) else (k2 [C.bool false] []))))
noncomputable def internal_stringslite_HasPrefix_p {R : Type} (N : Nat) : C → C → KD R → Option R := lid "internal_stringslite_HasPrefix_p N" (internal_stringslite_HasPrefix_p0 N)
theorem internal_stringslite_HasPrefix_pe {R : Type} (N : Nat) (a0 a1 : C) (k : KD R) : internal_stringslite_HasPrefix_p N a0 a1 k = internal_stringslite_HasPrefix_p0 N a0 a1 k := by unfold internal_stringslite_HasPrefix_p; rw [lid_eq]
theorem internal_stringslite_HasPrefix_run {R : Type} (N : Nat) (a0 a1 : C) (K : V → List (Key × O) → Option R) : exF (X0 gl0) ((internal_stringslite_HasPrefix_ov N).ov R) extX noX (fun f => bif Nat.beq f 75 then internal_stringslite_HasPrefix_hs else []) N 400 8 75 [.d .str a0, .d .str a1] A0 K =
    internal_stringslite_HasPrefix_p N a0 a1 (fun d1 m1 => K (V.d Ty.bool (C.bool (C.toBool (dk d1 0)))) []) := by
  rw [internal_stringslite_HasPrefix_pe]
  exact (show _ = jn (fun d1 m1 => (K (V.d Ty.bool (C.bool (C.toBool (dk d1 0)))) [])) (internal_stringslite_HasPrefix_p0 N a0 a1) by kernel_rfl).trans (jn_eq _ _)
noncomputable def internal_stringslite_HasPrefix_g (N : Nat) {R : Type} : OvG R := fun xs _ K => match xs with
  | [.d t0 a0, .d t1 a1] => if t0 = .str ∧ t1 = .str then internal_stringslite_HasPrefix_p N a0 a1 (fun d1 m1 => K (V.d Ty.bool (C.bool (C.toBool (dk d1 0)))) []) else none
  | _ => none
theorem internal_stringslite_HasPrefix_ok (N : Nat) {R : Type} : GOk (X0 gl0) 75 (internal_stringslite_HasPrefix_g N (R := R)) := by
  intro xs A Kr r hr
  unfold internal_stringslite_HasPrefix_g at hr
  split at hr
  · simp only [Option.ite_none_right_eq_some] at hr
    obtain ⟨hty, hr⟩ := hr
    obtain ⟨rfl, rfl⟩ := hty
    rw [← internal_stringslite_HasPrefix_run] at hr
    obtain ⟨v, L, h1, h2⟩ := exF_ok (ok0 gl0) (mo gl0) ((internal_stringslite_HasPrefix_ov N).ov_ok _) (extX_ok gl0) _ _ _ _ _ _ hr
    exact ⟨v, L, h1.mono (leA_none fun _ => rfl), h2⟩
  · cases hr
end Go.Proofs.YtefppgmopnnphaaDoor


namespace Go.Proofs.YtefppgmopnnphaaDoor
open Go Go.E
set_option maxRecDepth 100000
set_option maxHeartbeats 4000000
set_option linter.unusedVariables false
noncomputable def strings_HasPrefix_hs : Hints := [([9], ⟨[], [(4, .d .bool)], [], [], [], []⟩)]
noncomputable def strings_HasPrefix_ov (N : Nat) : OvS (X0 gl0) where
  g R := [(75, internal_stringslite_HasPrefix_g N)]
  ok := fun R => List.forall_mem_cons.2 ⟨internal_stringslite_HasPrefix_ok N, fun _ h => nomatch h⟩
noncomputable def strings_HasPrefix_p0 {R : Type} (N : Nat) (a0 a1 : C) (k1 : KD R) : Option R := (internal_stringslite_HasPrefix_p N a0 a1 (fun d1 m1 => (k1 [C.bool (C.toBool (dk d1 0))] [])))
noncomputable def strings_HasPrefix_p {R : Type} (N : Nat) : C → C → KD R → Option R := lid "strings_HasPrefix_p N" (strings_HasPrefix_p0 N)
theorem strings_HasPrefix_pe {R : Type} (N : Nat) (a0 a1 : C) (k : KD R) : strings_HasPrefix_p N a0 a1 k = strings_HasPrefix_p0 N a0 a1 k := by unfold strings_HasPrefix_p; rw [lid_eq]
theorem strings_HasPrefix_run {R : Type} (N : Nat) (a0 a1 : C) (K : V → List (Key × O) → Option R) : exF (X0 gl0) ((strings_HasPrefix_ov N).ov R) extX noX (fun f => bif Nat.beq f 54 then strings_HasPrefix_hs else []) N 400 8 54 [.d .str a0, .d .str a1] A0 K =
    strings_HasPrefix_p N a0 a1 (fun d1 m1 => K (V.d Ty.bool (C.bool (C.toBool (dk d1 0)))) []) := by
  rw [strings_HasPrefix_pe]
  exact (show _ = jn (fun d1 m1 => (K (V.d Ty.bool (C.bool (C.toBool (dk d1 0)))) [])) (strings_HasPrefix_p0 N a0 a1) by kernel_rfl).trans (jn_eq _ _)
noncomputable def strings_HasPrefix_g (N : Nat) {R : Type} : OvG R := fun xs _ K => match xs with
  | [.d t0 a0, .d t1 a1] => if t0 = .str ∧ t1 = .str then strings_HasPrefix_p N a0 a1 (fun d1 m1 => K (V.d Ty.bool (C.bool (C.toBool (dk d1 0)))) []) else none
  | _ => none
theorem strings_HasPrefix_ok (N : Nat) {R : Type} : GOk (X0 gl0) 54 (strings_HasPrefix_g N (R := R)) := by
  intro xs A Kr r hr
  unfold strings_HasPrefix_g at hr
  split at hr
  · simp only [Option.ite_none_right_eq_some] at hr
    obtain ⟨hty, hr⟩ := hr
    obtain ⟨rfl, rfl⟩ := hty
    rw [← strings_HasPrefix_run] at hr
    obtain ⟨v, L, h1, h2⟩ := exF_ok (ok0 gl0) (mo gl0) ((strings_HasPrefix_ov N).ov_ok _) (extX_ok gl0) _ _ _ _ _ _ hr
    exact ⟨v, L, h1.mono (leA_none fun _ => rfl), h2⟩
  · cases hr
end Go.Proofs.YtefppgmopnnphaaDoor


namespace Go.Proofs.YtefppgmopnnphaaDoor
open Go Go.E
set_option maxRecDepth 100000
set_option maxHeartbeats 4000000
set_option linter.unusedVariables false
noncomputable def journal_entry_hs : Hints := [([1, 0, 1, 1, 1, 1, 1, 1], ⟨[2, 7], [], [], [(.l 7, .box (.agg tEntry3 [.d (.int .u64), (.ts 32 tPost)]))], [], []⟩),
    ([4, 1, 0, 1, 1, 1, 1, 1, 1], ⟨[2, 4, 7], [(8, .d (.int .i64))], [], [(.l 7, .box (.agg tEntry3 [.d (.int .u64), (.ts 32 tPost)]))], [], []⟩),
    ([1, 4, 0, 1, 4, 0, 1, 5, 4, 1, 0, 1, 1, 1, 1, 1, 1], ⟨[2, 4, 7, 8, 9], [], [], [(.l 7, .box (.agg tEntry3 [.d (.int .u64), (.ts 32 tPost)]))], [], []⟩),
    ([9], ⟨[], [(2, .as (.ptr (.l 2) [] tEntry3)), (3, .d (.int .i64))], [], [(.l 2, .box (.d tEntry3))], [], []⟩)]
noncomputable def journal_entry_ov (N : Nat) : OvS (X0 gl0) where
  g R := [(13, journal_Entry_Right_g N), (41, lib_Split_g N), (53, journal_number_g N), (54, strings_HasPrefix_g N)]
  ok := fun R => List.forall_mem_cons.2 ⟨journal_Entry_Right_ok N, List.forall_mem_cons.2 ⟨lib_Split_ok N, List.forall_mem_cons.2 ⟨journal_number_ok N, List.forall_mem_cons.2 ⟨strings_HasPrefix_ok N, fun _ h => nomatch h⟩⟩⟩⟩
noncomputable def journal_entry_l1 {R : Type} (N : Nat) (k1 : KD R) (k2 : KD R) : KD R → List C → List Es → Option R := (fun k3 d2 m2 => (bif decide (C.toInt (dk d2 1) < (↑(List.length (C.elems (dk d2 0))) : Int)) then (if 0 ≤ C.toInt (dk d2 1) ∧ C.toInt (dk d2 1) < (↑(List.length (C.elems (dk d2 0))) : Int) then (if 0 ≤ IntKind.wrap IntKind.i64 (C.toInt (dk d2 1) + 1) ∧ IntKind.wrap IntKind.i64 (C.toInt (dk d2 1) + 1) < (↑(List.length (C.elems (dk d2 0))) : Int) then (strings_HasPrefix_p N (List.getD (C.elems (dk d2 0)) (Int.toNat (IntKind.wrap IntKind.i64 (C.toInt (dk d2 1) + 1))) C.nil) (C.str [UInt8.ofNat 43]) (fun d3 m3 => (jn (fun d4 m4 => (if 0 ≤ IntKind.wrap IntKind.i64 (C.toInt (dk d4 1) + 1) ∧ IntKind.wrap IntKind.i64 (C.toInt (dk d4 1) + 1) < (↑(List.length (C.elems (dk d4 0))) : Int) then (if Int.ofNat 0 ≤ 1 ∧ 1 ≤ (↑(List.length (C.toStr (List.getD (C.elems (dk d4 0)) (Int.toNat (IntKind.wrap IntKind.i64 (C.toInt (dk d4 1) + 1))) C.nil))) : Int) ∧ (↑(List.length (C.toStr (List.getD (C.elems (dk d4 0)) (Int.toNat (IntKind.wrap IntKind.i64 (C.toInt (dk d4 1) + 1))) C.nil))) : Int) ≤ (↑(List.length (C.toStr (List.getD (C.elems (dk d4 0)) (Int.toNat (IntKind.wrap IntKind.i64 (C.toInt (dk d4 1) + 1))) C.nil))) : Int) then (journal_number_p N (C.str (List.drop 1 (List.take (Int.toNat (↑(List.length (C.toStr (List.getD (C.elems (dk d4 0)) (Int.toNat (IntKind.wrap IntKind.i64 (C.toInt (dk d4 1) + 1))) C.nil))) : Int)) (C.toStr (List.getD (C.elems (dk d4 0)) (Int.toNat (IntKind.wrap IntKind.i64 (C.toInt (dk d4 1) + 1))) C.nil))))) (fun d5 m5 => (bif !decide (C.toInt (dk d5 1) = 0) then (k1 [dk d5 1, C.agg [zeroC (Ty.int IntKind.u64), C.slice []]] []) else (bif Nat.beq (List.length (C.elems (dk d4 3))) (List.length (C.elems (dk d4 3))) then (if (List.length (C.elems (dk d4 3)) + 1) * 32 ≤ 140737488355328 ∧ List.length (C.elems (dk d4 3)) + 1 ≤ 9223372036854775807 then (bif Nat.beq (List.length (C.elems (dk d4 3)) + 1) (List.length (C.elems (dk d4 3) ++ [C.set (dk d4 5) 1 (dk d5 0)])) then (k3 [dk d4 0, C.int (IntKind.wrap IntKind.i64 (C.toInt (dk d4 1) + 2)), dk d4 2, C.slice (C.elems (dk d4 3) ++ [C.set (dk d4 5) 1 (dk d5 0)]), dk d4 4] []) else none) else none) else none)))) else none) else none)) (fun k4 => (bif C.toBool (dk d3 0) then (k4 [dk d2 0, dk d2 1, dk d2 2, C.slice (C.elems (dk d2 3)), dk d2 4, C.set (C.agg [C.str [], C.int 0, C.bool false]) 0 (List.getD (C.elems (dk d2 0)) (Int.toNat (C.toInt (dk d2 1))) C.nil)] []) else (if 0 ≤ IntKind.wrap IntKind.i64 (C.toInt (dk d2 1) + 1) ∧ IntKind.wrap IntKind.i64 (C.toInt (dk d2 1) + 1) < (↑(List.length (C.elems (dk d2 0))) : Int) then (strings_HasPrefix_p N (List.getD (C.elems (dk d2 0)) (Int.toNat (IntKind.wrap IntKind.i64 (C.toInt (dk d2 1) + 1))) C.nil) (C.str [UInt8.ofNat 45]) (fun d4 m4 => (bif C.toBool (dk d4 0) then (k4 [dk d2 0, dk d2 1, dk d2 2, C.slice (C.elems (dk d2 3)), dk d2 4, C.set (C.set (C.agg [C.str [], C.int 0, C.bool false]) 0 (List.getD (C.elems (dk d2 0)) (Int.toNat (C.toInt (dk d2 1))) C.nil)) 2 (C.bool true)] []) else (k1 [C.int 10, C.agg [zeroC (Ty.int IntKind.u64), C.slice []]] [])))) else none)))))) else none) else none) else (k2 [dk d2 2, C.slice (C.elems (dk d2 3)), dk d2 4] [])))
noncomputable def journal_entry_p0 {R : Type} (N : Nat) (a0 : C) (k1 : KD R) : Option R := (if 1 = 1 ∧ List.length (C.toStr a0) < 4294967281 then (bif decide (Int.tmod (↑(List.length (List.map C.str (splitU (UInt8.ofNat 32) (C.toStr a0)))) : Int) 2 = 0) then (k1 [C.int 9, C.agg [zeroC (Ty.int IntKind.u64), C.slice []]] []) else (if Int.ofNat 0 ≤ 0 ∧ 0 < (↑(List.length (List.map C.str (splitU (UInt8.ofNat 32) (C.toStr a0)))) : Int) then (journal_number_p N (List.getD (List.map C.str (splitU (UInt8.ofNat 32) (C.toStr a0))) (Int.toNat 0) C.nil) (fun d1 m1 => (bif !decide (C.toInt (dk d1 1) = 0) then (k1 [dk d1 1, C.agg [zeroC (Ty.int IntKind.u64), C.slice []]] []) else (jn (fun d2 m2 => (journal_Entry_Right_p N (C.agg [dk d2 0, C.slice (C.elems (dk d2 1))]) (fun d3 m3 => (k1 [dk d3 0, C.agg [dk d2 0, C.slice (C.elems (dk d2 1))]] [])))) (fun k2 => (loopK N (journal_entry_l1 N k1 k2) [C.slice (List.map C.str (splitU (UInt8.ofNat 32) (C.toStr a0))), C.int 1, dk d1 0, C.slice [], C.agg [zeroC (Ty.int IntKind.u64), C.slice []]] [])))))) else none)) else none)
noncomputable def journal_entry_p {R : Type} (N : Nat) : C → KD R → Option R := lid "journal_entry_p N" (journal_entry_p0 N)
theorem journal_entry_pe {R : Type} (N : Nat) (a0 : C) (k : KD R) : journal_entry_p N a0 k = journal_entry_p0 N a0 k := by unfold journal_entry_p; rw [lid_eq]
theorem journal_entry_run {R : Type} (N : Nat) (a0 : C) (K : V → List (Key × O) → Option R) : exF (X0 gl0) ((journal_entry_ov N).ov R) extX (fun f r => bif Nat.beq f 42 then (bif Nat.beq r 20 then [(80, 7), (7, 6)] else bif Nat.beq r 16 then [(64, 8)] else []) else []) (fun f => bif Nat.beq f 42 then journal_entry_hs else []) N 400 8 42 [.d .str a0] A0 K =
    journal_entry_p N a0 (fun d1 m1 => K (V.tup [V.d tEntry3 (dk d1 1), V.d (Ty.int IntKind.i64) (dk d1 0)]) []) := by
  rw [journal_entry_pe]
  exact (show _ = jn (fun d1 m1 => (K (V.tup [V.d tEntry3 (dk d1 1), V.d (Ty.int IntKind.i64) (dk d1 0)]) [])) (journal_entry_p0 N a0) by kernel_rfl).trans (jn_eq _ _)
noncomputable def journal_entry_g (N : Nat) {R : Type} : OvG R := fun xs _ K => match xs with
  | [.d t0 a0] => if t0 = .str then journal_entry_p N a0 (fun d1 m1 => K (V.tup [V.d tEntry3 (dk d1 1), V.d (Ty.int IntKind.i64) (dk d1 0)]) []) else none
  | _ => none
theorem journal_entry_ok (N : Nat) {R : Type} : GOk (X0 gl0) 42 (journal_entry_g N (R := R)) := by
  intro xs A Kr r hr
  unfold journal_entry_g at hr
  split at hr
  · simp only [Option.ite_none_right_eq_some] at hr
    obtain ⟨hty, hr⟩ := hr
    subst hty
    rw [← journal_entry_run] at hr
    obtain ⟨v, L, h1, h2⟩ := exF_ok (ok0 gl0) (mo gl0) ((journal_entry_ov N).ov_ok _) (extX_ok gl0) _ _ _ _ _ _ hr
    exact ⟨v, L, h1.mono (leA_none fun _ => rfl), h2⟩
  · cases hr
end Go.Proofs.YtefppgmopnnphaaDoor


namespace Go.Proofs.YtefppgmopnnphaaDoor
open Go Go.E
set_option maxRecDepth 100000
set_option maxHeartbeats 4000000
set_option linter.unusedVariables false
noncomputable def ref30_Parse_hs : Hints := [([1, 0, 1, 1, 1, 1, 1, 1], ⟨[], [(5, .sl 32 tEntry3 5005)], [], [], [], []⟩),
    ([4, 1, 0, 1, 1, 1, 1, 1, 1], ⟨[4], [(5, .sl 32 tEntry3 5005), (6, .d (.int .i64))], [], [], [], []⟩),
    ([1, 0, 1, 1, 1, 1, 1, 4, 0, 1, 5, 4, 1, 0, 1, 1, 1, 1, 1, 1], ⟨[4, 6, 8, 10], [(5, .sl 32 tEntry3 5005)], [], [(.l 10, .box (.agg tEntry3 [.d (.int .u64), (.ts 32 tPost)]))], [], []⟩),
    ([4, 1, 0, 1, 1, 1, 1, 1, 4, 0, 1, 5, 4, 1, 0, 1, 1, 1, 1, 1, 1], ⟨[4, 6, 7, 8, 10], [(5, .sl 32 tEntry3 5005), (11, .d (.int .i64))], [], [(.l 10, .box (.agg tEntry3 [.d (.int .u64), (.ts 32 tPost)]))], [], []⟩),
    ([0, 0, 1, 4, 0, 1, 5, 4, 1, 0, 1, 1, 1, 1, 1, 4, 0, 1, 5, 4, 1, 0, 1, 1, 1, 1, 1, 1], ⟨[4, 6, 7, 8, 10, 11, 12], [(5, .sl 32 tEntry3 5005), (82, .d .bool)], [], [(.l 10, .box (.agg tEntry3 [.d (.int .u64), (.ts 32 tPost)]))], [], []⟩),
    ([0, 0, 1, 1, 1, 1, 1, 1, 1, 1, 4, 0, 1, 5, 4, 1, 0, 1, 1, 1, 1, 1, 1], ⟨[4, 6, 10], [(5, .sl 32 tEntry3 5005), (123, .d .bool)], [], [(.l 10, .box (.agg tEntry3 [.d (.int .u64), (.ts 32 tPost)]))], [], []⟩),
    ([9], ⟨[], [(2, .sl 32 tEntry3 5002), (3, .d (.int .i64))], [], [], [], []⟩)]
noncomputable def ref30_Parse_ov (N : Nat) : OvS (X0 gl0) where
  g R := [(12, ref30_Right_g N), (43, ref30_split_g N), (44, ref30_number_g N)]
  ok := fun R => List.forall_mem_cons.2 ⟨ref30_Right_ok N, List.forall_mem_cons.2 ⟨ref30_split_ok N, List.forall_mem_cons.2 ⟨ref30_number_ok N, fun _ h => nomatch h⟩⟩⟩
noncomputable def ref30_Parse_l1 {R : Type} (N : Nat) (k1 : KD R) (k4 : KD R) : KD R → List C → List Es → Option R := (fun k5 d5 m5 => (bif decide (C.toInt (dk d5 5) < (↑(List.length (C.elems (dk d5 2))) : Int)) then (if 0 ≤ IntKind.wrap IntKind.i64 (C.toInt (dk d5 5) + 1) ∧ IntKind.wrap IntKind.i64 (C.toInt (dk d5 5) + 1) < (↑(List.length (C.elems (dk d5 2))) : Int) then (jn (fun d6 m6 => (bif C.toBool (dk d6 7) then (k1 [C.slice [], C.int 10] []) else (if Int.ofNat 0 ≤ 1 ∧ 1 ≤ (↑(List.length (C.toStr (dk d6 5))) : Int) ∧ (↑(List.length (C.toStr (dk d6 5))) : Int) ≤ (↑(List.length (C.toStr (dk d6 5))) : Int) then (ref30_number_p N (C.str (List.drop 1 (List.take (Int.toNat (↑(List.length (C.toStr (dk d6 5))) : Int)) (C.toStr (dk d6 5))))) (fun d7 m7 => (bif !C.toBool (dk d7 1) then (k1 [C.slice [], C.int 10] []) else (if 0 ≤ C.toInt (dk d6 4) ∧ C.toInt (dk d6 4) < (↑(List.length (C.elems (dk d6 2))) : Int) then (if Int.ofNat 0 ≤ 0 ∧ 0 < (↑(List.length (C.toStr (dk d6 5))) : Int) then (bif Nat.beq (List.length (C.elems (dk d6 9))) (List.length (C.elems (dk d6 9))) then (if (List.length (C.elems (dk d6 9)) + 1) * 32 ≤ 140737488355328 ∧ List.length (C.elems (dk d6 9)) + 1 ≤ 9223372036854775807 then (bif Nat.beq (List.length (C.elems (dk d6 9)) + 1) (List.length (C.elems (dk d6 9) ++ [C.set (C.set (C.set (C.agg [C.str [], C.int 0, C.bool false]) 0 (List.getD (C.elems (dk d6 2)) (Int.toNat (C.toInt (dk d6 4))) C.nil)) 1 (dk d7 0)) 2 (C.bool (decide ((↑(UInt8.toNat (List.getD (C.toStr (dk d6 5)) (Int.toNat 0) (UInt8.ofNat 0))) : Int) = 45)))])) then (bif Nat.beq (List.length (C.elems (dk d6 6))) (List.length (C.elems (dk d6 6))) then (k5 [dk d6 0, dk d6 1, dk d6 2, dk d6 3, C.slice (C.elems (dk d6 6)), C.int (IntKind.wrap IntKind.i64 (C.toInt (dk d6 4) + 2)), dk d6 8, C.slice (C.elems (dk d6 9) ++ [C.set (C.set (C.set (C.agg [C.str [], C.int 0, C.bool false]) 0 (List.getD (C.elems (dk d6 2)) (Int.toNat (C.toInt (dk d6 4))) C.nil)) 1 (dk d7 0)) 2 (C.bool (decide ((↑(UInt8.toNat (List.getD (C.toStr (dk d6 5)) (Int.toNat 0) (UInt8.ofNat 0))) : Int) = 45)))])] []) else none) else none) else none) else none) else none) else none)))) else none))) (fun k6 => (bif decide ((↑(List.length (C.toStr (List.getD (C.elems (dk d5 2)) (Int.toNat (IntKind.wrap IntKind.i64 (C.toInt (dk d5 5) + 1))) C.nil))) : Int) = 0) then (bif Nat.beq (List.length (C.elems (dk d5 4))) (List.length (C.elems (dk d5 4))) then (k6 [dk d5 0, dk d5 1, dk d5 2, dk d5 3, dk d5 5, List.getD (C.elems (dk d5 2)) (Int.toNat (IntKind.wrap IntKind.i64 (C.toInt (dk d5 5) + 1))) C.nil, C.slice (C.elems (dk d5 4)), C.bool true, dk d5 6, C.slice (C.elems (dk d5 7))] []) else none) else (if Int.ofNat 0 ≤ 0 ∧ 0 < (↑(List.length (C.toStr (List.getD (C.elems (dk d5 2)) (Int.toNat (IntKind.wrap IntKind.i64 (C.toInt (dk d5 5) + 1))) C.nil))) : Int) then (bif !decide ((↑(UInt8.toNat (List.getD (C.toStr (List.getD (C.elems (dk d5 2)) (Int.toNat (IntKind.wrap IntKind.i64 (C.toInt (dk d5 5) + 1))) C.nil)) (Int.toNat 0) (UInt8.ofNat 0))) : Int) = 43) then (if Int.ofNat 0 ≤ 0 ∧ 0 < (↑(List.length (C.toStr (List.getD (C.elems (dk d5 2)) (Int.toNat (IntKind.wrap IntKind.i64 (C.toInt (dk d5 5) + 1))) C.nil))) : Int) then (bif Nat.beq (List.length (C.elems (dk d5 4))) (List.length (C.elems (dk d5 4))) then (k6 [dk d5 0, dk d5 1, dk d5 2, dk d5 3, dk d5 5, List.getD (C.elems (dk d5 2)) (Int.toNat (IntKind.wrap IntKind.i64 (C.toInt (dk d5 5) + 1))) C.nil, C.slice (C.elems (dk d5 4)), C.bool !decide ((↑(UInt8.toNat (List.getD (C.toStr (List.getD (C.elems (dk d5 2)) (Int.toNat (IntKind.wrap IntKind.i64 (C.toInt (dk d5 5) + 1))) C.nil)) (Int.toNat 0) (UInt8.ofNat 0))) : Int) = 45), dk d5 6, C.slice (C.elems (dk d5 7))] []) else none) else none) else (bif Nat.beq (List.length (C.elems (dk d5 4))) (List.length (C.elems (dk d5 4))) then (k6 [dk d5 0, dk d5 1, dk d5 2, dk d5 3, dk d5 5, List.getD (C.elems (dk d5 2)) (Int.toNat (IntKind.wrap IntKind.i64 (C.toInt (dk d5 5) + 1))) C.nil, C.slice (C.elems (dk d5 4)), C.bool false, dk d5 6, C.slice (C.elems (dk d5 7))] []) else none)) else none)))) else none) else (bif Nat.beq (List.length (C.elems (dk d5 4))) (List.length (C.elems (dk d5 4))) then (k4 [dk d5 0, dk d5 1, dk d5 3, C.slice (C.elems (dk d5 4)), dk d5 6, C.slice (C.elems (dk d5 7))] []) else none)))
noncomputable def ref30_Parse_l2 {R : Type} (N : Nat) (k1 : KD R) (k2 : KD R) : KD R → List C → List Es → Option R := (fun k3 d2 m2 => (bif decide (C.toInt (dk d2 2) < (↑(List.length (C.elems (dk d2 0))) : Int)) then (if 0 ≤ C.toInt (dk d2 2) ∧ C.toInt (dk d2 2) < (↑(List.length (C.elems (dk d2 0))) : Int) then (ref30_split_p N (List.getD (C.elems (dk d2 0)) (Int.toNat (C.toInt (dk d2 2))) C.nil) (C.int 32) (fun d3 m3 => (bif decide (Int.tmod (↑(List.length (C.elems (dk d3 0))) : Int) 2 = 0) then (k1 [C.slice [], C.int 9] []) else (if Int.ofNat 0 ≤ 0 ∧ 0 < (↑(List.length (C.elems (dk d3 0))) : Int) then (ref30_number_p N (List.getD (C.elems (dk d3 0)) (Int.toNat 0) C.nil) (fun d4 m4 => (bif !C.toBool (dk d4 1) then (k1 [C.slice [], C.int 10] []) else (jn (fun d5 m5 => (ref30_Right_p N (C.agg [dk d5 4, C.slice (C.elems (dk d5 5))]) (fun d6 m6 => (bif !decide (C.toInt (dk d6 0) = 0) then (k1 [C.slice [], dk d6 0] []) else (jn (fun d7 m7 => (bif C.toBool (dk d7 3) then (k1 [C.slice [], C.int 29] []) else (bif Nat.beq (List.length (C.elems (dk d7 2))) (List.length (C.elems (dk d7 2))) then (if (List.length (C.elems (dk d7 2)) + 1) * 32 ≤ 140737488355328 ∧ List.length (C.elems (dk d7 2)) + 1 ≤ 9223372036854775807 then (bif Nat.beq (List.length (C.elems (dk d7 2)) + 1) (List.length (C.elems (dk d7 2) ++ [C.agg [dk d7 4, C.slice (C.elems (dk d7 5))]])) then (k3 [dk d7 0, C.slice (C.elems (dk d7 2) ++ [C.agg [dk d7 4, C.slice (C.elems (dk d7 5))]]), C.int (IntKind.wrap IntKind.i64 (C.toInt (dk d7 1) + 1))] []) else none) else none) else none))) (fun k4 => (bif decide (0 < (↑(List.length (C.elems (dk d5 3))) : Int)) then (if 0 ≤ IntKind.wrap IntKind.i64 ((↑(List.length (C.elems (dk d5 3))) : Int) - 1) ∧ IntKind.wrap IntKind.i64 ((↑(List.length (C.elems (dk d5 3))) : Int) - 1) < (↑(List.length (C.elems (dk d5 3))) : Int) then (bif Nat.beq (List.length (C.elems (dk d5 3))) (List.length (C.elems (dk d5 3))) then (k4 [dk d5 0, dk d5 1, C.slice (C.elems (dk d5 3)), C.bool (decide (C.toInt (dk d5 2) < C.toInt (C.get (List.getD (C.elems (dk d5 3)) (Int.toNat (IntKind.wrap IntKind.i64 ((↑(List.length (C.elems (dk d5 3))) : Int) - 1))) C.nil) 0))), dk d5 4, C.slice (C.elems (dk d5 5))] []) else none) else none) else (bif Nat.beq (List.length (C.elems (dk d5 3))) (List.length (C.elems (dk d5 3))) then (k4 [dk d5 0, dk d5 1, C.slice (C.elems (dk d5 3)), C.bool false, dk d5 4, C.slice (C.elems (dk d5 5))] []) else none)))))))) (fun k4 => (bif Nat.beq (List.length (C.elems (dk d2 1))) (List.length (C.elems (dk d2 1))) then (loopK N (ref30_Parse_l1 N k1 k4) [dk d2 0, dk d2 2, C.slice (C.elems (dk d3 0)), dk d4 0, C.slice (C.elems (dk d2 1)), C.int 1, dk d4 0, C.slice []] []) else none)))))) else none)))) else none) else (bif Nat.beq (List.length (C.elems (dk d2 1))) (List.length (C.elems (dk d2 1))) then (k2 [C.slice (C.elems (dk d2 1))] []) else none)))
noncomputable def ref30_Parse_p0 {R : Type} (N : Nat) (a0 : C) (k1 : KD R) : Option R := (bif decide (65536 < (↑(List.length (C.toStr a0)) : Int)) then (k1 [C.slice [], C.int 8] []) else (bif C.toStr a0 == [] then (k1 [C.slice [], C.int 0] []) else (if 0 ≤ IntKind.wrap IntKind.i64 ((↑(List.length (C.toStr a0)) : Int) - 1) ∧ IntKind.wrap IntKind.i64 ((↑(List.length (C.toStr a0)) : Int) - 1) < (↑(List.length (C.toStr a0)) : Int) then (bif !decide ((↑(UInt8.toNat (List.getD (C.toStr a0) (Int.toNat (IntKind.wrap IntKind.i64 ((↑(List.length (C.toStr a0)) : Int) - 1))) (UInt8.ofNat 0))) : Int) = 10) then (k1 [C.slice [], C.int 9] []) else (if Int.ofNat 0 ≤ 0 ∧ 0 ≤ IntKind.wrap IntKind.i64 ((↑(List.length (C.toStr a0)) : Int) - 1) ∧ IntKind.wrap IntKind.i64 ((↑(List.length (C.toStr a0)) : Int) - 1) ≤ (↑(List.length (C.toStr a0)) : Int) then (ref30_split_p N (C.str (List.drop 0 (List.take (Int.toNat (IntKind.wrap IntKind.i64 ((↑(List.length (C.toStr a0)) : Int) - 1))) (C.toStr a0)))) (C.int 10) (fun d1 m1 => (jn (fun d2 m2 => (bif Nat.beq (List.length (C.elems (dk d2 0))) (List.length (C.elems (dk d2 0))) then (k1 [C.slice (C.elems (dk d2 0)), C.int 0] []) else none)) (fun k2 => (loopK N (ref30_Parse_l2 N k1 k2) [C.slice (C.elems (dk d1 0)), C.slice [], C.int 0] []))))) else none)) else none)))
noncomputable def ref30_Parse_p {R : Type} (N : Nat) : C → KD R → Option R := lid "ref30_Parse_p N" (ref30_Parse_p0 N)
theorem ref30_Parse_pe {R : Type} (N : Nat) (a0 : C) (k : KD R) : ref30_Parse_p N a0 k = ref30_Parse_p0 N a0 k := by unfold ref30_Parse_p; rw [lid_eq]
theorem ref30_Parse_run {R : Type} (N : Nat) (a0 : C) (K : V → List (Key × O) → Option R) : exF (X0 gl0) ((ref30_Parse_ov N).ov R) extX (fun f r => bif Nat.beq f 22 then (bif Nat.beq r 25 then [(86, 8)] else []) else []) (fun f => bif Nat.beq f 22 then ref30_Parse_hs else []) N 400 8 22 [.d .str a0] A0 K =
    ref30_Parse_p N a0 (fun d1 m1 => K (V.tup [V.ts 32 tEntry3 (C.elems (dk d1 0)), V.d (Ty.int IntKind.i64) (dk d1 1)]) []) := by
  rw [ref30_Parse_pe]
  exact (show _ = jn (fun d1 m1 => (bif Nat.beq (List.length (C.elems (dk d1 0))) (List.length (C.elems (dk d1 0))) then
    (K (V.tup [V.ts 32 tEntry3 (C.elems (dk d1 0)), V.d (Ty.int IntKind.i64) (dk d1 1)]) [])
  else
    none)) (ref30_Parse_p0 N a0) by kernel_rfl).trans ((jn_eq _ _).trans (congrArg (ref30_Parse_p0 N a0) (funext fun _ => funext fun _ => by simp only [Nat.beq_refl, cond_true])))
noncomputable def ref30_Parse_g (N : Nat) {R : Type} : OvG R := fun xs _ K => match xs with
  | [.d t0 a0] => if t0 = .str then ref30_Parse_p N a0 (fun d1 m1 => K (V.tup [V.ts 32 tEntry3 (C.elems (dk d1 0)), V.d (Ty.int IntKind.i64) (dk d1 1)]) []) else none
  | _ => none
theorem ref30_Parse_ok (N : Nat) {R : Type} : GOk (X0 gl0) 22 (ref30_Parse_g N (R := R)) := by
  intro xs A Kr r hr
  unfold ref30_Parse_g at hr
  split at hr
  · simp only [Option.ite_none_right_eq_some] at hr
    obtain ⟨hty, hr⟩ := hr
    subst hty
    rw [← ref30_Parse_run] at hr
    obtain ⟨v, L, h1, h2⟩ := exF_ok (ok0 gl0) (mo gl0) ((ref30_Parse_ov N).ov_ok _) (extX_ok gl0) _ _ _ _ _ _ hr
    exact ⟨v, L, h1.mono (leA_none fun _ => rfl), h2⟩
  · cases hr
end Go.Proofs.YtefppgmopnnphaaDoor


namespace Go.Proofs.YtefppgmopnnphaaDoor
open Go Go.E
set_option maxRecDepth 100000
set_option maxHeartbeats 4000000
set_option linter.unusedSimpArgs false
variable {R : Type} {N : Nat}
theorem HasPrefix_eq (v : List UInt8) (c : UInt8) (k : KD R) : strings_HasPrefix_p N (.str v) (.str [c]) k = k [.bool (match v with | [] => false | x :: _ => decide (x = c))] [] := by
  rw [strings_HasPrefix_pe]
  unfold strings_HasPrefix_p0
  rw [internal_stringslite_HasPrefix_pe]
  unfold internal_stringslite_HasPrefix_p0
  simp only [jn_eq, c_str]
  cases v with
  | nil => simp [go_sem, c_bool]
  | cons x v =>
    have h1 : ((0 + 1 : Nat) : Int) ≤ ((v.length + 1 : Nat) : Int) := by omega
    have h2 : (List.drop 0 (List.take 1 (x :: v)) == [c]) = decide (x = c) := by
      by_cases e : x = c
      · simp [e]
      · simp [e]
    simp only [List.length_cons, List.length_nil, h1, decide_true, cond_true, go_sem, c_bool, Int.toNat_natCast]
    refine Eq.trans (if_pos ?_) ?_
    · first | omega | (simp; done) | (simp; omega)
    · rw [← h2]
def pstep (a v : List UInt8) : Option C := match v with
  | [] => none
  | c :: r => if c = UInt8.ofNat 43 ∨ c = UInt8.ofNat 45 then (match numO r with
    | some u => some (.agg [.str a, .int (u : Int), .bool (decide (c = UInt8.ofNat 45))])
    | none => none) else none
def psF (ws : List (List UInt8)) (j : Nat) (ps : List C) : List C ⊕ Unit := match pstep (ws.getD (1 + 2 * j) []) (ws.getD (1 + 2 * j + 1) []) with
  | some p => .inl (ps ++ [p])
  | none => .inr ()
def psR (ws : List (List UInt8)) : List C ⊕ Unit := runE (fun j ps (_ : Nat) => psF ws j ps) 0 [] (List.range ((ws.length - 1) / 2))
theorem pstep_wf {a v : List UInt8} {p : C} (ha : a.length ≤ 140737488355328) (h : pstep a v = some p) : C.wf tPost p := by
  unfold pstep at h
  split at h
  · cases h
  · split at h
    · split at h
      · rename_i u hu
        cases h
        have := numO_lt hu
        have m1 : IntKind.u64.min = 0 := by decide
        have m2 : IntKind.u64.max = 18446744073709551615 := by decide
        unfold tPost
        simp only [C.wf, C.wfs]
        exact ⟨rfl, _, _, rfl, ⟨rfl, ha⟩, _, _, rfl, ⟨rfl, by simp only [c_int]; omega, by simp only [c_int]; omega⟩, _, _, rfl, rfl, rfl⟩
      · cases h
    · cases h
theorem getD_str {ws : List (List UInt8)} {i : Nat} (h : i < ws.length) : (ws.map C.str).getD i .nil = .str (ws.getD i []) := by
  rw [List.getD_eq_getElem?_getD, List.getElem?_map, List.getElem?_eq_getElem h, List.getD_eq_getElem?_getD, List.getElem?_eq_getElem h]; rfl
theorem getD_len {ws : List (List UInt8)} {i n : Nat} (h : ∀ w ∈ ws, w.length ≤ n) : (ws.getD i []).length ≤ n := by
  rw [List.getD_eq_getElem?_getD]
  cases hi : ws[i]? with
  | none => exact Nat.zero_le _
  | some w => exact h w (List.mem_of_getElem? hi)
theorem byte43 (c : UInt8) : ((c.toNat : Int) = 43) ↔ c = UInt8.ofNat 43 := by
  constructor
  · intro h; exact UInt8.toNat_inj.1 (by show c.toNat = 43; omega)
  · rintro rfl; rfl
theorem byte45 (c : UInt8) : ((c.toNat : Int) = 45) ↔ c = UInt8.ofNat 45 := by
  constructor
  · intro h; exact UInt8.toNat_inj.1 (by show c.toNat = 45; omega)
  · rintro rfl; rfl
def PsW (n : Nat) (ps : List C) : Prop := ps.length ≤ n ∧ ∀ p ∈ ps, C.wf tPost p
theorem psF_wf {ws : List (List UInt8)} {j : Nat} {ps ps' : List C} (hw : ∀ w ∈ ws, w.length ≤ 65536) (hp : PsW j ps) (h : psF ws j ps = .inl ps') : PsW (j + 1) ps' := by
  unfold psF at h
  split at h
  · rename_i p hs
    cases h
    have := pstep_wf (Nat.le_trans (getD_len hw) (by decide)) hs
    refine ⟨by simp only [List.length_append, List.length_cons, List.length_nil]; have := hp.1; omega, fun q hq => ?_⟩
    rcases List.mem_append.1 hq with h | h
    · exact hp.2 q h
    · rw [List.mem_singleton.1 h]; exact this
  · cases h
theorem psR_wf (ws : List (List UInt8)) (hw : ∀ w ∈ ws, w.length ≤ 65536) : ∀ (l : List Nat) (j : Nat) (ps ps' : List C), PsW j ps → runE (fun j ps (_ : Nat) => psF ws j ps) j ps l = .inl ps' → PsW (j + l.length) ps'
  | [], j, ps, ps', hp, h => by simp only [runE] at h; cases h; exact hp
  | _ :: l, j, ps, ps', hp, h => by
    simp only [runE] at h
    split at h
    · rename_i q hq
      have := psR_wf ws hw l (j + 1) q ps' (psF_wf hw hp hq) h
      simp only [List.length_cons]
      rw [show j + (l.length + 1) = j + 1 + l.length by omega]; exact this
    · cases h
theorem wrap2 {n : Nat} (h : n < 4611686018427387904) : IntKind.i64.wrap ((n : Int) + 2) = ((n + 2 : Nat) : Int) := by rw [IntWalk.i64_in _ (by omega)]; omega
theorem jentry_in (ws : List (List UInt8)) (h e0 : C) (m : Nat) (hm : ws.length = 2 * m + 1) (hl : m ≤ 65536) (hw : ∀ w ∈ ws, w.length ≤ 65536) (hN : 140737488355329 < N) (k1 k2 : KD R) :
    loopK N (journal_entry_l1 N k1 k2) [.slice (ws.map C.str), .int 1, h, .slice [], e0] [] = (match psR ws with | .inl ps => k2 [h, .slice ps, e0] [] | .inr _ => k1 [.int 10, .agg [zeroC (.int .u64), .slice []]] []) := by
  have key := loopK_run (ε := Unit) (N := N) (F := journal_entry_l1 N k1 k2) (fun j (ps : List C) => [.slice (ws.map C.str), .int ((1 + 2 * j : Nat) : Int), h, .slice ps, e0]) (fun _ _ => []) (List.range m)
      (fun j ps _ => psF ws j ps) (fun ps => k2 [h, .slice ps, e0] []) (fun _ => k1 [.int 10, .agg [zeroC (.int .u64), .slice []]] []) PsW (s0 := []) ⟨Nat.le_refl _, fun p hp => by cases hp⟩
      (fun j ps c hc hp => by
        have hj : j < m := by have := (List.getElem?_eq_some_iff.1 hc).1; simpa using this
        refine ⟨fun rec => ?_, fun ps' h => psF_wf hw hp h⟩
        have hpl := hp.1
        have h1 : ((1 + 2 * j : Nat) : Int) < ((2 * m + 1 : Nat) : Int) := by omega
        have h2 : ((1 + 2 * j + 1 : Nat) : Int) < ((2 * m + 1 : Nat) : Int) := by omega
        have g1 : (ws.map C.str).getD (1 + 2 * j) .nil = .str (ws.getD (1 + 2 * j) []) := getD_str (by omega)
        have g2 : (ws.map C.str).getD (1 + 2 * j + 1) .nil = .str (ws.getD (1 + 2 * j + 1) []) := getD_str (by omega)
        unfold journal_entry_l1
        simp only [jn_eq, go_sem, c_int, c_slice, c_str, c_bool, List.length_map, hm, h1, h2, decide_true, cond_true, Int.natCast_nonneg, and_self, if_true, Int.toNat_natCast, wrap_succ (show 1 + 2 * j < 4611686018427387904 by omega), wrap2 (show 1 + 2 * j < 4611686018427387904 by omega), g1, g2]
        unfold psF
        generalize ws.getD (1 + 2 * j) [] = a
        generalize ws.getD (1 + 2 * j + 1) [] = v
        rw [HasPrefix_eq]
        cases v with
        | nil =>
          simp only [go_sem, c_bool, cond_false]
          rw [HasPrefix_eq]
          rfl
        | cons x v =>
          have hv : (1 : Int) ≤ ((v.length + 1 : Nat) : Int) := by omega
          have hd : List.drop 1 (List.take (v.length + 1) (x :: v)) = v := by rw [show v.length + 1 = (x :: v).length from rfl, List.take_length]; rfl
          have h01 : (0 : Int) ≤ 1 := by decide
          have hg1 : (ps.length + 1) * 32 ≤ 140737488355328 ∧ ps.length + 1 ≤ 9223372036854775807 := by omega
          have hb : ∀ (p : C), (ps.length + 1).beq (ps ++ [p]).length = true := fun p => by simp
          have e2 : 1 + 2 * (j + 1) = 1 + 2 * j + 2 := by omega
          unfold pstep
          by_cases e : x = UInt8.ofNat 43
          · subst e
            simp only [go_sem, c_bool, c_str, c_int, c_slice, decide_true, cond_true, List.length_cons, hv, h01, Int.le_refl, and_self, Int.toNat_natCast, if_true, hd, true_or, eq_self]
            rw [number_eq]
            cases numO v with
            | none => rfl
            | some u =>
              simp only [go_sem, c_int, c_slice, decide_true, Bool.not_true, cond_false, Nat.beq_refl, cond_true]
              refine (if_pos hg1).trans ?_
              simp only [hb, cond_true, e2]
              rfl
          · simp only [go_sem, c_bool, e, decide_false, cond_false, false_or]
            rw [HasPrefix_eq]
            by_cases e' : x = UInt8.ofNat 45
            · subst e'
              simp only [go_sem, c_bool, c_str, c_int, c_slice, decide_true, cond_true, List.length_cons, hv, h01, Int.le_refl, and_self, Int.toNat_natCast, if_true, hd, or_true, eq_self]
              rw [number_eq]
              cases numO v with
              | none => rfl
              | some u =>
                simp only [go_sem, c_int, c_slice, decide_true, Bool.not_true, cond_false, Nat.beq_refl, cond_true]
                refine (if_pos hg1).trans ?_
                simp only [hb, cond_true, e2]
            · simp only [go_sem, c_bool, e', decide_false, cond_false, if_false])
      (fun ps hp rec => by
        have e2 : ((1 + 2 * (List.range m).length : Nat) : Int) = ((2 * m + 1 : Nat) : Int) := by rw [List.length_range]; omega
        unfold journal_entry_l1
        simp only [go_sem, c_int, c_slice, c_str, c_bool, List.length_map, hm, e2, Int.lt_irrefl, decide_false, cond_false]) (by rw [List.length_range]; omega)
  have key : loopK N (journal_entry_l1 N k1 k2) [.slice (ws.map C.str), .int 1, h, .slice [], e0] [] = _ := key
  rw [key]
  unfold psR
  rw [hm, show (2 * m + 1 - 1) / 2 = m by omega]
  cases runE (fun j ps (_ : Nat) => psF ws j ps) 0 [] (List.range m) <;> rfl
theorem rentry_in (ws : List (List UInt8)) (lc i0 hh h2' : C) (out : List C) (m : Nat) (hm : ws.length = 2 * m + 1) (hl : m ≤ 65536) (hw : ∀ w ∈ ws, w.length ≤ 65536) (hN : 140737488355329 < N) (k1 k2 : KD R) :
    loopK N (ref30_Parse_l1 N k1 k2) [lc, i0, .slice (ws.map C.str), hh, .slice out, .int 1, h2', .slice []] [] = (match psR ws with | .inl ps => k2 [lc, i0, hh, .slice out, h2', .slice ps] [] | .inr _ => k1 [.slice [], .int 10] []) := by
  have key := loopK_run (ε := Unit) (N := N) (F := ref30_Parse_l1 N k1 k2) (fun j (ps : List C) => [lc, i0, .slice (ws.map C.str), hh, .slice out, .int ((1 + 2 * j : Nat) : Int), h2', .slice ps]) (fun _ _ => []) (List.range m)
      (fun j ps _ => psF ws j ps) (fun ps => k2 [lc, i0, hh, .slice out, h2', .slice ps] []) (fun _ => k1 [.slice [], .int 10] []) PsW (s0 := []) ⟨Nat.le_refl _, fun p hp => by cases hp⟩
      (fun j ps c hc hp => by
        have hj : j < m := by have := (List.getElem?_eq_some_iff.1 hc).1; simpa using this
        refine ⟨fun rec => ?_, fun ps' h => psF_wf hw hp h⟩
        have hpl := hp.1
        have h1 : ((1 + 2 * j : Nat) : Int) < ((2 * m + 1 : Nat) : Int) := by omega
        have h2 : ((1 + 2 * j + 1 : Nat) : Int) < ((2 * m + 1 : Nat) : Int) := by omega
        have g1 : (ws.map C.str).getD (1 + 2 * j) .nil = .str (ws.getD (1 + 2 * j) []) := getD_str (by omega)
        have g2 : (ws.map C.str).getD (1 + 2 * j + 1) .nil = .str (ws.getD (1 + 2 * j + 1) []) := getD_str (by omega)
        have gl : (ws.getD (1 + 2 * j + 1) []).length ≤ 65536 := getD_len hw
        unfold ref30_Parse_l1
        simp only [jn_eq, go_sem, c_int, c_slice, c_str, c_bool, List.length_map, hm, h1, h2, decide_true, cond_true, Int.natCast_nonneg, and_self, if_true, Int.toNat_natCast, wrap_succ (show 1 + 2 * j < 4611686018427387904 by omega), wrap2 (show 1 + 2 * j < 4611686018427387904 by omega), g1, g2, Nat.beq_refl]
        unfold psF
        generalize ws.getD (1 + 2 * j) [] = a
        generalize ws.getD (1 + 2 * j + 1) [] = v at gl
        cases v with
        | nil =>
          simp only [List.length_nil, go_sem, c_bool, cond_true]
          rfl
        | cons x v =>
          have hv : (1 : Int) ≤ ((v.length + 1 : Nat) : Int) := by omega
          have hv0 : ¬ ((v.length + 1 : Nat) : Int) = 0 := by omega
          have hv1 : (0 : Int) < ((v.length + 1 : Nat) : Int) := by omega
          have hd : List.drop 1 (List.take (v.length + 1) (x :: v)) = v := by rw [show v.length + 1 = (x :: v).length from rfl, List.take_length]; rfl
          have h01 : (0 : Int) ≤ 1 := by decide
          have hg1 : (ps.length + 1) * 32 ≤ 140737488355328 ∧ ps.length + 1 ≤ 9223372036854775807 := by omega
          have hb : ∀ (p : C), (ps.length + 1).beq (ps ++ [p]).length = true := fun p => by simp
          have e2 : 1 + 2 * (j + 1) = 1 + 2 * j + 2 := by omega
          have hx0 : List.getD (x :: v) (Int.toNat 0) (UInt8.ofNat 0) = x := rfl
          simp only [List.length_cons, hv0, hv1, decide_false, cond_false, go_sem, c_bool, hx0]
          have hd45 : decide ((x.toNat : Int) = 45) = decide (x = UInt8.ofNat 45) := decide_eq_decide.2 (byte45 x)
          have hd43 : decide ((x.toNat : Int) = 43) = decide (x = UInt8.ofNat 43) := decide_eq_decide.2 (byte43 x)
          have hlv : v.length ≤ 4294967296 := by simp only [List.length_cons] at gl; omega
          simp only [Int.le_refl, if_true, hv, h01, and_self, hd, hd45, hd43]
          unfold pstep
          have fin : ∀ b, (ref30_number_p N (C.str v) fun d7 m7 =>
              bif !(dk d7 1).toBool then k1 [C.slice [], C.int 10] []
              else if (ps.length + 1) * 32 ≤ 140737488355328 ∧ ps.length + 1 ≤ 9223372036854775807 then
                  bif (ps.length + 1).beq (ps ++ [C.agg [C.str a, dk d7 0, C.bool b]]).length then
                    rec [lc, i0, C.slice (List.map C.str ws), hh, C.slice out, C.int ((1 + 2 * j + 2 : Nat) : Int), h2', C.slice (ps ++ [C.agg [C.str a, dk d7 0, C.bool b]])] []
                  else none
                else none) = (match (match (match numO v with | some u => some (C.agg [.str a, .int (u : Int), .bool b]) | none => none) with | some p => .inl (ps ++ [p]) | none => .inr () : List C ⊕ Unit) with
              | .inl s' => rec [lc, i0, C.slice (List.map C.str ws), hh, C.slice out, C.int ((1 + 2 * (j + 1) : Nat) : Int), h2', C.slice s'] []
              | .inr _ => k1 [C.slice [], C.int 10] []) := by
            intro b
            rcases rnumber_eq (N := N) v hlv hN (fun d7 m7 =>
              bif !(dk d7 1).toBool then k1 [C.slice [], C.int 10] []
              else if (ps.length + 1) * 32 ≤ 140737488355328 ∧ ps.length + 1 ≤ 9223372036854775807 then
                  bif (ps.length + 1).beq (ps ++ [C.agg [C.str a, dk d7 0, C.bool b]]).length then
                    rec [lc, i0, C.slice (List.map C.str ws), hh, C.slice out, C.int ((1 + 2 * j + 2 : Nat) : Int), h2', C.slice (ps ++ [C.agg [C.str a, dk d7 0, C.bool b]])] []
                  else none
                else none) with ⟨u, hu, e⟩ | ⟨hu, y, e⟩
            · rw [e, hu]
              simp only [go_sem, c_bool, Bool.not_true, cond_false]
              refine (if_pos hg1).trans ?_
              simp only [hb, cond_true, e2]
            · rw [e, hu]
              simp only [go_sem, c_bool, Bool.not_false, cond_true]
          by_cases e : x = UInt8.ofNat 43
          · simp only [e, decide_true, Bool.not_true, cond_false, true_or, if_true]
            refine (fin _).trans ?_
            cases numO v <;> rfl
          · by_cases e' : x = UInt8.ofNat 45
            · simp only [e', decide_true, Bool.not_true, cond_false, or_true, if_true]
              rw [show decide (UInt8.ofNat 45 = UInt8.ofNat 43) = false from rfl, Bool.not_false, cond_true]
              refine (fin _).trans ?_
              cases numO v <;> rfl
            · simp only [e, e', decide_false, Bool.not_false, cond_true, or_self, if_false])
      (fun ps hp rec => by
        have e2 : ((1 + 2 * (List.range m).length : Nat) : Int) = ((2 * m + 1 : Nat) : Int) := by rw [List.length_range]; omega
        unfold ref30_Parse_l1
        simp only [go_sem, c_int, c_slice, c_str, c_bool, List.length_map, hm, e2, Int.lt_irrefl, decide_false, cond_false, Nat.beq_refl, cond_true]) (by rw [List.length_range]; omega)
  have key : loopK N (ref30_Parse_l1 N k1 k2) [lc, i0, .slice (ws.map C.str), hh, .slice out, .int 1, h2', .slice []] [] = _ := key
  rw [key]
  unfold psR
  rw [hm, show (2 * m + 1 - 1) / 2 = m by omega]
  cases runE (fun j ps (_ : Nat) => psF ws j ps) 0 [] (List.range m) <;> rfl
end Go.Proofs.YtefppgmopnnphaaDoor


namespace Go.Proofs.YtefppgmopnnphaaDoor
open Go Go.E
set_option maxRecDepth 100000
set_option maxHeartbeats 4000000
set_option linter.unusedVariables false
noncomputable def law30_awake_hs : Hints := [([0, 1, 1, 1], ⟨[], [(0, .d .bool)], [], [], [], []⟩),
    ([9], ⟨[], [(0, .d .bool)], [], [], [], []⟩)]
noncomputable def law30_awake_ov (N : Nat) : OvS (X0 gl0) where
  g R := [(28, journal_named_g N), (24, cl_Post_g N), (25, cl_Entry3_g N), (36, bld_WriteString_g N), (50, fmtU_g N), (38, bld_String_g N)]
  ok := fun R => List.forall_mem_cons.2 ⟨journal_named_ok N, List.forall_mem_cons.2 ⟨cl_Post_ok N, List.forall_mem_cons.2 ⟨cl_Entry3_ok N, List.forall_mem_cons.2 ⟨bld_WriteString_ok N, List.forall_mem_cons.2 ⟨fmtU_ok N, List.forall_mem_cons.2 ⟨bld_String_ok N, fun _ h => nomatch h⟩⟩⟩⟩⟩⟩
noncomputable def law30_awake_p0 {R : Type} (N : Nat) (k1 : KD R) : Option R := (jn (fun d1 m1 => (k1 [C.bool (C.toBool (dk d1 0))] [])) (fun k2 => (k2 [C.bool true] [])))
noncomputable def law30_awake_p {R : Type} (N : Nat) : KD R → Option R := lid "law30_awake_p N" (law30_awake_p0 N)
theorem law30_awake_pe {R : Type} (N : Nat)  (k : KD R) : law30_awake_p N  k = law30_awake_p0 N  k := by unfold law30_awake_p; rw [lid_eq]
theorem law30_awake_run {R : Type} (N : Nat)  (K : V → List (Key × O) → Option R) : exF (X0 gl0) ((law30_awake_ov N).ov R) extX (fun f r => bif Nat.beq f 11 then (bif Nat.beq r 8 then [(8, 6)] else []) else bif Nat.beq f 13 then (bif Nat.beq r 0 then [(1, 5)] else []) else bif Nat.beq f 29 then (bif Nat.beq r 0 then [(1, 5)] else bif Nat.beq r 7 then [(6, 6)] else []) else bif Nat.beq f 19 then (bif Nat.beq r 15 then [(9, 6)] else []) else []) (fun f => bif Nat.beq f 9 then law30_awake_hs else []) N 3000 20 9 [] A0 K =
    law30_awake_p N  (fun d1 m1 => K (V.d Ty.bool (C.bool (C.toBool (dk d1 0)))) []) := by
  rw [law30_awake_pe]
  exact (show _ = jn (fun d1 m1 => (K (V.d Ty.bool (C.bool (C.toBool (dk d1 0)))) [])) (law30_awake_p0 N ) by kernel_rfl).trans (jn_eq _ _)
noncomputable def law30_awake_g (N : Nat) {R : Type} : OvG R := fun xs _ K => match xs with
  | [] => law30_awake_p N  (fun d1 m1 => K (V.d Ty.bool (C.bool (C.toBool (dk d1 0)))) [])
  | _ => none
theorem law30_awake_ok (N : Nat) {R : Type} : GOk (X0 gl0) 9 (law30_awake_g N (R := R)) := by
  intro xs A Kr r hr
  unfold law30_awake_g at hr
  split at hr
  · skip
    rw [← law30_awake_run] at hr
    obtain ⟨v, L, h1, h2⟩ := exF_ok (ok0 gl0) (mo gl0) ((law30_awake_ov N).ov_ok _) (extX_ok gl0) _ _ _ _ _ _ hr
    exact ⟨v, L, h1.mono (leA_none fun _ => rfl), h2⟩
  · cases hr
end Go.Proofs.YtefppgmopnnphaaDoor


namespace Go.Proofs.YtefppgmopnnphaaDoor
open Go Go.E
set_option maxRecDepth 100000
set_option maxHeartbeats 4000000
set_option linter.unusedVariables false
end Go.Proofs.YtefppgmopnnphaaDoor


namespace Go.Proofs.YtefppgmopnnphaaDoor
open Go Go.E
set_option maxRecDepth 100000
set_option maxHeartbeats 4000000
set_option linter.unusedVariables false
end Go.Proofs.YtefppgmopnnphaaDoor


namespace Go.Proofs.YtefppgmopnnphaaDoor
open Go Go.E
set_option maxRecDepth 100000
set_option maxHeartbeats 4000000
set_option linter.unusedSimpArgs false
variable {R : Type} {N : Nat}
theorem awake30_eq (k : KD R) : law30_awake_p N k = k [.bool true] [] := by
  rw [law30_awake_pe]
  unfold law30_awake_p0
  simp only [jn_eq, dk_0, c_bool]
def lateB (l : List C) (h : Int) : Bool := decide (0 < l.length) && decide (h < ((l.getD (l.length - 1) .nil).get 0).toInt)
theorem wrap_pred {n : Nat} (h0 : 0 < n) (h : n < 4611686018427387904) : IntKind.i64.wrap ((n : Int) - 1) = ((n - 1 : Nat) : Int) := by rw [IntWalk.i64_in _ (by omega)]; omega
end Go.Proofs.YtefppgmopnnphaaDoor


namespace Go.Proofs.YtefppgmopnnphaaDoor
open Go Go.E
set_option maxRecDepth 100000
set_option maxHeartbeats 4000000
set_option linter.unusedVariables false
noncomputable def internal_stringslite_HasSuffix_hs : Hints := [([0, 1], ⟨[], [(4, .d .bool)], [], [], [], []⟩),
    ([9], ⟨[], [(4, .d .bool)], [], [], [], []⟩)]
noncomputable def internal_stringslite_HasSuffix_ov (N : Nat) : OvS (X0 gl0) where
  g R := []
  ok := fun R => fun _ h => nomatch h
noncomputable def internal_stringslite_HasSuffix_p0 {R : Type} (N : Nat) (a0 a1 : C) (k1 : KD R) : Option R := (jn (fun d1 m1 => (k1 [C.bool (C.toBool (dk d1 0))] [])) (fun k2 => (bif decide ((↑(List.length (C.toStr a1)) : Int) ≤ (↑(List.length (C.toStr a0)) : Int)) then (if 0 ≤ IntKind.wrap IntKind.i64 ((↑(List.length (C.toStr a0)) : Int) - (↑(List.length (C.toStr a1)) : Int)) ∧ IntKind.wrap IntKind.i64 ((↑(List.length (C.toStr a0)) : Int) - (↑(List.length (C.toStr a1)) : Int)) ≤ (↑(List.length (C.toStr a0)) : Int) ∧ (↑(List.length (C.toStr a0)) : Int) ≤ (↑(List.length (C.toStr a0)) : Int) then (k2 [C.bool (List.drop (Int.toNat (IntKind.wrap IntKind.i64 ((↑(List.length (C.toStr a0)) : Int) - (↑(List.length (C.toStr a1)) : Int)))) (List.take (Int.toNat (↑(List.length (C.toStr a0)) : Int)) (C.toStr a0)) == C.toStr a1)] []) else none) else (k2 [C.bool false] []))))
noncomputable def internal_stringslite_HasSuffix_p {R : Type} (N : Nat) : C → C → KD R → Option R := lid "internal_stringslite_HasSuffix_p N" (internal_stringslite_HasSuffix_p0 N)
theorem internal_stringslite_HasSuffix_pe {R : Type} (N : Nat) (a0 a1 : C) (k : KD R) : internal_stringslite_HasSuffix_p N a0 a1 k = internal_stringslite_HasSuffix_p0 N a0 a1 k := by unfold internal_stringslite_HasSuffix_p; rw [lid_eq]
theorem internal_stringslite_HasSuffix_run {R : Type} (N : Nat) (a0 a1 : C) (K : V → List (Key × O) → Option R) : exF (X0 gl0) ((internal_stringslite_HasSuffix_ov N).ov R) extX noX (fun f => bif Nat.beq f 70 then internal_stringslite_HasSuffix_hs else []) N 400 8 70 [.d .str a0, .d .str a1] A0 K =
    internal_stringslite_HasSuffix_p N a0 a1 (fun d1 m1 => K (V.d Ty.bool (C.bool (C.toBool (dk d1 0)))) []) := by
  rw [internal_stringslite_HasSuffix_pe]
  exact (show _ = jn (fun d1 m1 => (K (V.d Ty.bool (C.bool (C.toBool (dk d1 0)))) [])) (internal_stringslite_HasSuffix_p0 N a0 a1) by kernel_rfl).trans (jn_eq _ _)
noncomputable def internal_stringslite_HasSuffix_g (N : Nat) {R : Type} : OvG R := fun xs _ K => match xs with
  | [.d t0 a0, .d t1 a1] => if t0 = .str ∧ t1 = .str then internal_stringslite_HasSuffix_p N a0 a1 (fun d1 m1 => K (V.d Ty.bool (C.bool (C.toBool (dk d1 0)))) []) else none
  | _ => none
theorem internal_stringslite_HasSuffix_ok (N : Nat) {R : Type} : GOk (X0 gl0) 70 (internal_stringslite_HasSuffix_g N (R := R)) := by
  intro xs A Kr r hr
  unfold internal_stringslite_HasSuffix_g at hr
  split at hr
  · simp only [Option.ite_none_right_eq_some] at hr
    obtain ⟨hty, hr⟩ := hr
    obtain ⟨rfl, rfl⟩ := hty
    rw [← internal_stringslite_HasSuffix_run] at hr
    obtain ⟨v, L, h1, h2⟩ := exF_ok (ok0 gl0) (mo gl0) ((internal_stringslite_HasSuffix_ov N).ov_ok _) (extX_ok gl0) _ _ _ _ _ _ hr
    exact ⟨v, L, h1.mono (leA_none fun _ => rfl), h2⟩
  · cases hr
end Go.Proofs.YtefppgmopnnphaaDoor


namespace Go.Proofs.YtefppgmopnnphaaDoor
open Go Go.E
set_option maxRecDepth 100000
set_option maxHeartbeats 4000000
set_option linter.unusedVariables false
noncomputable def internal_stringslite_CutSuffix_hs : Hints := [([9], ⟨[], [(4, .d .str), (5, .d .bool)], [], [], [], []⟩)]
noncomputable def internal_stringslite_CutSuffix_ov (N : Nat) : OvS (X0 gl0) where
  g R := [(70, internal_stringslite_HasSuffix_g N)]
  ok := fun R => List.forall_mem_cons.2 ⟨internal_stringslite_HasSuffix_ok N, fun _ h => nomatch h⟩
noncomputable def internal_stringslite_CutSuffix_p0 {R : Type} (N : Nat) (a0 a1 : C) (k1 : KD R) : Option R := (internal_stringslite_HasSuffix_p N a0 a1 (fun d1 m1 => (bif !C.toBool (dk d1 0) then (k1 [a0, C.bool false] []) else (if Int.ofNat 0 ≤ 0 ∧ 0 ≤ IntKind.wrap IntKind.i64 ((↑(List.length (C.toStr a0)) : Int) - (↑(List.length (C.toStr a1)) : Int)) ∧ IntKind.wrap IntKind.i64 ((↑(List.length (C.toStr a0)) : Int) - (↑(List.length (C.toStr a1)) : Int)) ≤ (↑(List.length (C.toStr a0)) : Int) then (k1 [C.str (List.drop 0 (List.take (Int.toNat (IntKind.wrap IntKind.i64 ((↑(List.length (C.toStr a0)) : Int) - (↑(List.length (C.toStr a1)) : Int)))) (C.toStr a0))), C.bool true] []) else none))))
noncomputable def internal_stringslite_CutSuffix_p {R : Type} (N : Nat) : C → C → KD R → Option R := lid "internal_stringslite_CutSuffix_p N" (internal_stringslite_CutSuffix_p0 N)
theorem internal_stringslite_CutSuffix_pe {R : Type} (N : Nat) (a0 a1 : C) (k : KD R) : internal_stringslite_CutSuffix_p N a0 a1 k = internal_stringslite_CutSuffix_p0 N a0 a1 k := by unfold internal_stringslite_CutSuffix_p; rw [lid_eq]
theorem internal_stringslite_CutSuffix_run {R : Type} (N : Nat) (a0 a1 : C) (K : V → List (Key × O) → Option R) : exF (X0 gl0) ((internal_stringslite_CutSuffix_ov N).ov R) extX noX (fun f => bif Nat.beq f 51 then internal_stringslite_CutSuffix_hs else []) N 400 8 51 [.d .str a0, .d .str a1] A0 K =
    internal_stringslite_CutSuffix_p N a0 a1 (fun d1 m1 => K (V.tup [V.d Ty.str (dk d1 0), V.d Ty.bool (C.bool (C.toBool (dk d1 1)))]) []) := by
  rw [internal_stringslite_CutSuffix_pe]
  exact (show _ = jn (fun d1 m1 => (K (V.tup [V.d Ty.str (dk d1 0), V.d Ty.bool (C.bool (C.toBool (dk d1 1)))]) [])) (internal_stringslite_CutSuffix_p0 N a0 a1) by kernel_rfl).trans (jn_eq _ _)
noncomputable def internal_stringslite_CutSuffix_g (N : Nat) {R : Type} : OvG R := fun xs _ K => match xs with
  | [.d t0 a0, .d t1 a1] => if t0 = .str ∧ t1 = .str then internal_stringslite_CutSuffix_p N a0 a1 (fun d1 m1 => K (V.tup [V.d Ty.str (dk d1 0), V.d Ty.bool (C.bool (C.toBool (dk d1 1)))]) []) else none
  | _ => none
theorem internal_stringslite_CutSuffix_ok (N : Nat) {R : Type} : GOk (X0 gl0) 51 (internal_stringslite_CutSuffix_g N (R := R)) := by
  intro xs A Kr r hr
  unfold internal_stringslite_CutSuffix_g at hr
  split at hr
  · simp only [Option.ite_none_right_eq_some] at hr
    obtain ⟨hty, hr⟩ := hr
    obtain ⟨rfl, rfl⟩ := hty
    rw [← internal_stringslite_CutSuffix_run] at hr
    obtain ⟨v, L, h1, h2⟩ := exF_ok (ok0 gl0) (mo gl0) ((internal_stringslite_CutSuffix_ov N).ov_ok _) (extX_ok gl0) _ _ _ _ _ _ hr
    exact ⟨v, L, h1.mono (leA_none fun _ => rfl), h2⟩
  · cases hr
end Go.Proofs.YtefppgmopnnphaaDoor


namespace Go.Proofs.YtefppgmopnnphaaDoor
open Go Go.E
set_option maxRecDepth 100000
set_option maxHeartbeats 4000000
set_option linter.unusedVariables false
noncomputable def strings_CutSuffix_hs : Hints := [([9], ⟨[], [(4, .d .str), (5, .d .bool)], [], [], [], []⟩)]
noncomputable def strings_CutSuffix_ov (N : Nat) : OvS (X0 gl0) where
  g R := [(51, internal_stringslite_CutSuffix_g N)]
  ok := fun R => List.forall_mem_cons.2 ⟨internal_stringslite_CutSuffix_ok N, fun _ h => nomatch h⟩
noncomputable def strings_CutSuffix_p0 {R : Type} (N : Nat) (a0 a1 : C) (k1 : KD R) : Option R := (internal_stringslite_CutSuffix_p N a0 a1 (fun d1 m1 => (k1 [dk d1 0, C.bool (C.toBool (dk d1 1))] [])))
noncomputable def strings_CutSuffix_p {R : Type} (N : Nat) : C → C → KD R → Option R := lid "strings_CutSuffix_p N" (strings_CutSuffix_p0 N)
theorem strings_CutSuffix_pe {R : Type} (N : Nat) (a0 a1 : C) (k : KD R) : strings_CutSuffix_p N a0 a1 k = strings_CutSuffix_p0 N a0 a1 k := by unfold strings_CutSuffix_p; rw [lid_eq]
theorem strings_CutSuffix_run {R : Type} (N : Nat) (a0 a1 : C) (K : V → List (Key × O) → Option R) : exF (X0 gl0) ((strings_CutSuffix_ov N).ov R) extX noX (fun f => bif Nat.beq f 40 then strings_CutSuffix_hs else []) N 400 8 40 [.d .str a0, .d .str a1] A0 K =
    strings_CutSuffix_p N a0 a1 (fun d1 m1 => K (V.tup [V.d Ty.str (dk d1 0), V.d Ty.bool (C.bool (C.toBool (dk d1 1)))]) []) := by
  rw [strings_CutSuffix_pe]
  exact (show _ = jn (fun d1 m1 => (K (V.tup [V.d Ty.str (dk d1 0), V.d Ty.bool (C.bool (C.toBool (dk d1 1)))]) [])) (strings_CutSuffix_p0 N a0 a1) by kernel_rfl).trans (jn_eq _ _)
noncomputable def strings_CutSuffix_g (N : Nat) {R : Type} : OvG R := fun xs _ K => match xs with
  | [.d t0 a0, .d t1 a1] => if t0 = .str ∧ t1 = .str then strings_CutSuffix_p N a0 a1 (fun d1 m1 => K (V.tup [V.d Ty.str (dk d1 0), V.d Ty.bool (C.bool (C.toBool (dk d1 1)))]) []) else none
  | _ => none
theorem strings_CutSuffix_ok (N : Nat) {R : Type} : GOk (X0 gl0) 40 (strings_CutSuffix_g N (R := R)) := by
  intro xs A Kr r hr
  unfold strings_CutSuffix_g at hr
  split at hr
  · simp only [Option.ite_none_right_eq_some] at hr
    obtain ⟨hty, hr⟩ := hr
    obtain ⟨rfl, rfl⟩ := hty
    rw [← strings_CutSuffix_run] at hr
    obtain ⟨v, L, h1, h2⟩ := exF_ok (ok0 gl0) (mo gl0) ((strings_CutSuffix_ov N).ov_ok _) (extX_ok gl0) _ _ _ _ _ _ hr
    exact ⟨v, L, h1.mono (leA_none fun _ => rfl), h2⟩
  · cases hr
end Go.Proofs.YtefppgmopnnphaaDoor

