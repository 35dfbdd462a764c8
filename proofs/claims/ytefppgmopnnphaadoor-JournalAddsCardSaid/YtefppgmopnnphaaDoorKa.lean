/-
  What the functions on the way compute, part 1.
  Conditions: none.
-/
import Derived.Test.YtefppgmopnnphaaDoorTf
import Derived.Laws.Externs
import Derived.Lib.Bytealg
import Derived.Lib.ItoaNum
import Derived.Shelf.Strings.Builder1
import Derived.Shelf.Small.Bits
import Derived.Shelf.Strings.BuilderF
import Derived.Shelf.Utf8.RuneCount
import Derived.Shelf.Strconv.Itoa0
import Derived.Shelf.Strconv.Itoa1
import Derived.Shelf.LaysM
import Derived.Shelf.Strconv.Itoa2
import Derived.Shelf.Strconv.Itoa3
import Derived.Shelf.Strings.Search1
import Derived.Shelf.Strings.Search2
import Derived.Shelf.Strings.Search3
import Derived.Shelf.Strings.Count
import Derived.Shelf.Strings.Shaped
import Derived.Shelf.Strings.Prefix
import Derived.Shelf.Strings.Split
import Derived.Shelf.Strings.SplitShaped
import Derived.Shelf.Unicode.Decode
import Derived.Shelf.Strings.RuneCount
import Derived.Shelf.Strings.Explode
import Derived.Shelf.Unicode.DecodeSlow
import Derived.Shelf.Unicode.DecodeAny
import Derived.Shelf.RegionOpenPlain
import Derived.Lib.Builder
import Derived.Lib.UnsafeStr
set_option linter.all false
namespace Go.Proofs.YtefppgmopnnphaaDoor
open Go Go.E
set_option maxRecDepth 10000
set_option linter.unusedSimpArgs false
variable {gl : Nat → Option (Ty × C)}
theorem clone_Post (A : Key → Option O) (cs : List C) : DCalls (X0 gl) 24 [.d (.slice 32 tPost) (.slice cs)] A (.ts 32 tPost cs) [] := by
  refine dcalls_intro (n := 8) (ok0 gl) Tryd.func24 rfl rfl (by simp) ?_
  intro A' hA
  refine dc_seq (dc_region (ok0 gl) [] (by kernel_rfl) ?_)
  simp only [go_sem, ↓gx_tt, ↓gx_tf, ↓gx_ft, ↓gx_ff, ↓gx_u2, ↓gk_tt, ↓gk_tf, ↓gk_ff, ↓gk_ft, reduceCtorEq, Nat.reduceEqDiff, ↓reduceIte, Nat.reduceAdd, Nat.reduceSub, Nat.reduceLT, Nat.reduceMul, Nat.reduceBEq, Int.reduceLE, Int.reduceLT, Int.reduceAdd, Int.reduceSub, Int.reduceToNat, Int.reduceNeg, Int.reduceMul, Nat.reduceLeDiff]
  refine dc_seq (dc_seq (dc_region (ok0 gl) [] (by kernel_rfl) ?_))
  cases cs with
  | nil =>
    simp only [go_sem, ↓gx_tt, ↓gx_tf, ↓gx_ft, ↓gx_ff, ↓gx_u2, ↓gk_tt, ↓gk_tf, ↓gk_ff, ↓gk_ft, reduceCtorEq, Nat.reduceEqDiff, ↓reduceIte, Nat.reduceAdd, Nat.reduceSub, Nat.reduceLT, Nat.reduceMul, Nat.reduceBEq, Int.reduceLE, Int.reduceLT, Int.reduceAdd, Int.reduceSub, Int.reduceToNat, Int.reduceNeg, Int.reduceMul, Nat.reduceLeDiff]
    refine dc_cond_top rfl ?_ (dc_skip ?_)
    · refine dc_seq (dc_region (ok0 gl) [] (by kernel_rfl) ?_)
      simp only [go_sem, ↓gx_tt, ↓gx_tf, ↓gx_ft, ↓gx_ff, ↓gx_u2, ↓gk_tt, ↓gk_tf, ↓gk_ff, ↓gk_ft, reduceCtorEq, Nat.reduceEqDiff, ↓reduceIte, Nat.reduceAdd, Nat.reduceSub, Nat.reduceLT, Nat.reduceMul, Nat.reduceBEq, Int.reduceLE, Int.reduceLT, Int.reduceAdd, Int.reduceSub, Int.reduceToNat, Int.reduceNeg, Int.reduceMul, Nat.reduceLeDiff]
      refine dc_ret ⟨.inr rfl, ?_⟩
      simp only [retOk, go_sem, ↓gx_tt, ↓gx_tf, ↓gx_ft, ↓gx_ff, ↓gx_u2, ↓gk_tt, ↓gk_tf, ↓gk_ff, ↓gk_ft, reduceCtorEq, Nat.reduceEqDiff, ↓reduceIte, Nat.reduceAdd, Nat.reduceSub, Nat.reduceLT, Nat.reduceMul, Nat.reduceBEq, Int.reduceLE, Int.reduceLT, Int.reduceAdd, Int.reduceSub, Int.reduceToNat, Int.reduceNeg, Int.reduceMul, Nat.reduceLeDiff, Tryd.f24]
    · refine dc_seq (dc_region (ok0 gl) [] (by kernel_rfl) ?_)
      simp only [go_sem, ↓gx_tt, ↓gx_tf, ↓gx_ft, ↓gx_ff, ↓gx_u2, ↓gk_tt, ↓gk_tf, ↓gk_ff, ↓gk_ft, reduceCtorEq, Nat.reduceEqDiff, ↓reduceIte, Nat.reduceAdd, Nat.reduceSub, Nat.reduceLT, Nat.reduceMul, Nat.reduceBEq, Int.reduceLE, Int.reduceLT, Int.reduceAdd, Int.reduceSub, Int.reduceToNat, Int.reduceNeg, Int.reduceMul, Nat.reduceLeDiff]
      refine dc_ret ⟨.inr rfl, ?_⟩
      simp only [retOk, go_sem, ↓gx_tt, ↓gx_tf, ↓gx_ft, ↓gx_ff, ↓gx_u2, ↓gk_tt, ↓gk_tf, ↓gk_ff, ↓gk_ft, reduceCtorEq, Nat.reduceEqDiff, ↓reduceIte, Nat.reduceAdd, Nat.reduceSub, Nat.reduceLT, Nat.reduceMul, Nat.reduceBEq, Int.reduceLE, Int.reduceLT, Int.reduceAdd, Int.reduceSub, Int.reduceToNat, Int.reduceNeg, Int.reduceMul, Nat.reduceLeDiff, Tryd.f24]
  | cons c cs =>
    simp only [go_sem, ↓gx_tt, ↓gx_tf, ↓gx_ft, ↓gx_ff, ↓gx_u2, ↓gk_tt, ↓gk_tf, ↓gk_ff, ↓gk_ft, reduceCtorEq, Nat.reduceEqDiff, ↓reduceIte, Nat.reduceAdd, Nat.reduceSub, Nat.reduceLT, Nat.reduceMul, Nat.reduceBEq, Int.reduceLE, Int.reduceLT, Int.reduceAdd, Int.reduceSub, Int.reduceToNat, Int.reduceNeg, Int.reduceMul, Nat.reduceLeDiff]
    refine dc_cond _ rfl (fun h => by simp at h) (fun _ => dc_skip ?_)
    refine dc_seq (dc_region (ok0 gl) [] (by kernel_rfl) ?_)
    simp only [go_sem, ↓gx_tt, ↓gx_tf, ↓gx_ft, ↓gx_ff, ↓gx_u2, ↓gk_tt, ↓gk_tf, ↓gk_ff, ↓gk_ft, reduceCtorEq, Nat.reduceEqDiff, ↓reduceIte, Nat.reduceAdd, Nat.reduceSub, Nat.reduceLT, Nat.reduceMul, Nat.reduceBEq, Int.reduceLE, Int.reduceLT, Int.reduceAdd, Int.reduceSub, Int.reduceToNat, Int.reduceNeg, Int.reduceMul, Nat.reduceLeDiff]
    refine dc_ret ⟨.inr rfl, ?_⟩
    simp only [retOk, go_sem, ↓gx_tt, ↓gx_tf, ↓gx_ft, ↓gx_ff, ↓gx_u2, ↓gk_tt, ↓gk_tf, ↓gk_ff, ↓gk_ft, reduceCtorEq, Nat.reduceEqDiff, ↓reduceIte, Nat.reduceAdd, Nat.reduceSub, Nat.reduceLT, Nat.reduceMul, Nat.reduceBEq, Int.reduceLE, Int.reduceLT, Int.reduceAdd, Int.reduceSub, Int.reduceToNat, Int.reduceNeg, Int.reduceMul, Nat.reduceLeDiff, Tryd.f24]
theorem clone_Entry3 (A : Key → Option O) (cs : List C) : DCalls (X0 gl) 25 [.d (.slice 32 tEntry3) (.slice cs)] A (.ts 32 tEntry3 cs) [] := by
  refine dcalls_intro (n := 8) (ok0 gl) Tryd.func25 rfl rfl (by simp) ?_
  intro A' hA
  refine dc_seq (dc_region (ok0 gl) [] (by kernel_rfl) ?_)
  simp only [go_sem, ↓gx_tt, ↓gx_tf, ↓gx_ft, ↓gx_ff, ↓gx_u2, ↓gk_tt, ↓gk_tf, ↓gk_ff, ↓gk_ft, reduceCtorEq, Nat.reduceEqDiff, ↓reduceIte, Nat.reduceAdd, Nat.reduceSub, Nat.reduceLT, Nat.reduceMul, Nat.reduceBEq, Int.reduceLE, Int.reduceLT, Int.reduceAdd, Int.reduceSub, Int.reduceToNat, Int.reduceNeg, Int.reduceMul, Nat.reduceLeDiff]
  refine dc_seq (dc_seq (dc_region (ok0 gl) [] (by kernel_rfl) ?_))
  cases cs with
  | nil =>
    simp only [go_sem, ↓gx_tt, ↓gx_tf, ↓gx_ft, ↓gx_ff, ↓gx_u2, ↓gk_tt, ↓gk_tf, ↓gk_ff, ↓gk_ft, reduceCtorEq, Nat.reduceEqDiff, ↓reduceIte, Nat.reduceAdd, Nat.reduceSub, Nat.reduceLT, Nat.reduceMul, Nat.reduceBEq, Int.reduceLE, Int.reduceLT, Int.reduceAdd, Int.reduceSub, Int.reduceToNat, Int.reduceNeg, Int.reduceMul, Nat.reduceLeDiff]
    refine dc_cond_top rfl ?_ (dc_skip ?_)
    · refine dc_seq (dc_region (ok0 gl) [] (by kernel_rfl) ?_)
      simp only [go_sem, ↓gx_tt, ↓gx_tf, ↓gx_ft, ↓gx_ff, ↓gx_u2, ↓gk_tt, ↓gk_tf, ↓gk_ff, ↓gk_ft, reduceCtorEq, Nat.reduceEqDiff, ↓reduceIte, Nat.reduceAdd, Nat.reduceSub, Nat.reduceLT, Nat.reduceMul, Nat.reduceBEq, Int.reduceLE, Int.reduceLT, Int.reduceAdd, Int.reduceSub, Int.reduceToNat, Int.reduceNeg, Int.reduceMul, Nat.reduceLeDiff]
      refine dc_ret ⟨.inr rfl, ?_⟩
      simp only [retOk, go_sem, ↓gx_tt, ↓gx_tf, ↓gx_ft, ↓gx_ff, ↓gx_u2, ↓gk_tt, ↓gk_tf, ↓gk_ff, ↓gk_ft, reduceCtorEq, Nat.reduceEqDiff, ↓reduceIte, Nat.reduceAdd, Nat.reduceSub, Nat.reduceLT, Nat.reduceMul, Nat.reduceBEq, Int.reduceLE, Int.reduceLT, Int.reduceAdd, Int.reduceSub, Int.reduceToNat, Int.reduceNeg, Int.reduceMul, Nat.reduceLeDiff, Tryd.f25]
    · refine dc_seq (dc_region (ok0 gl) [] (by kernel_rfl) ?_)
      simp only [go_sem, ↓gx_tt, ↓gx_tf, ↓gx_ft, ↓gx_ff, ↓gx_u2, ↓gk_tt, ↓gk_tf, ↓gk_ff, ↓gk_ft, reduceCtorEq, Nat.reduceEqDiff, ↓reduceIte, Nat.reduceAdd, Nat.reduceSub, Nat.reduceLT, Nat.reduceMul, Nat.reduceBEq, Int.reduceLE, Int.reduceLT, Int.reduceAdd, Int.reduceSub, Int.reduceToNat, Int.reduceNeg, Int.reduceMul, Nat.reduceLeDiff]
      refine dc_ret ⟨.inr rfl, ?_⟩
      simp only [retOk, go_sem, ↓gx_tt, ↓gx_tf, ↓gx_ft, ↓gx_ff, ↓gx_u2, ↓gk_tt, ↓gk_tf, ↓gk_ff, ↓gk_ft, reduceCtorEq, Nat.reduceEqDiff, ↓reduceIte, Nat.reduceAdd, Nat.reduceSub, Nat.reduceLT, Nat.reduceMul, Nat.reduceBEq, Int.reduceLE, Int.reduceLT, Int.reduceAdd, Int.reduceSub, Int.reduceToNat, Int.reduceNeg, Int.reduceMul, Nat.reduceLeDiff, Tryd.f25]
  | cons c cs =>
    simp only [go_sem, ↓gx_tt, ↓gx_tf, ↓gx_ft, ↓gx_ff, ↓gx_u2, ↓gk_tt, ↓gk_tf, ↓gk_ff, ↓gk_ft, reduceCtorEq, Nat.reduceEqDiff, ↓reduceIte, Nat.reduceAdd, Nat.reduceSub, Nat.reduceLT, Nat.reduceMul, Nat.reduceBEq, Int.reduceLE, Int.reduceLT, Int.reduceAdd, Int.reduceSub, Int.reduceToNat, Int.reduceNeg, Int.reduceMul, Nat.reduceLeDiff]
    refine dc_cond _ rfl (fun h => by simp at h) (fun _ => dc_skip ?_)
    refine dc_seq (dc_region (ok0 gl) [] (by kernel_rfl) ?_)
    simp only [go_sem, ↓gx_tt, ↓gx_tf, ↓gx_ft, ↓gx_ff, ↓gx_u2, ↓gk_tt, ↓gk_tf, ↓gk_ff, ↓gk_ft, reduceCtorEq, Nat.reduceEqDiff, ↓reduceIte, Nat.reduceAdd, Nat.reduceSub, Nat.reduceLT, Nat.reduceMul, Nat.reduceBEq, Int.reduceLE, Int.reduceLT, Int.reduceAdd, Int.reduceSub, Int.reduceToNat, Int.reduceNeg, Int.reduceMul, Nat.reduceLeDiff]
    refine dc_ret ⟨.inr rfl, ?_⟩
    simp only [retOk, go_sem, ↓gx_tt, ↓gx_tf, ↓gx_ft, ↓gx_ff, ↓gx_u2, ↓gk_tt, ↓gk_tf, ↓gk_ff, ↓gk_ft, reduceCtorEq, Nat.reduceEqDiff, ↓reduceIte, Nat.reduceAdd, Nat.reduceSub, Nat.reduceLT, Nat.reduceMul, Nat.reduceBEq, Int.reduceLE, Int.reduceLT, Int.reduceAdd, Int.reduceSub, Int.reduceToNat, Int.reduceNeg, Int.reduceMul, Nat.reduceLeDiff, Tryd.f25]
end Go.Proofs.YtefppgmopnnphaaDoor


namespace Go.Proofs.YtefppgmopnnphaaDoor
open Go Go.E
set_option maxRecDepth 10000
set_option linter.unusedSimpArgs false
variable {gl : Nat → Option (Ty × C)}
theorem bits_Add64 (a b : C) : EDoes (X0 gl) 45 [.d (.int .u64) a, .d (.int .u64) b, .d (.int .u64) (.int 0)] (.tup [.d (.int .u64) (.int ((a.toInt + b.toInt) % 18446744073709551616)), .d (.int .u64) (.int ((a.toInt + b.toInt) / 18446744073709551616))]) := by
  intro Γ w args hl hr
  have hs : args.size = 3 := hl.symm
  obtain ⟨e1, _, l1, m1⟩ := repV_int (hr 0 _ _ rfl (Array.getElem?_eq_getElem (by omega)))
  obtain ⟨e2, _, l2, m2⟩ := repV_int (hr 1 _ _ rfl (Array.getElem?_eq_getElem (by omega)))
  obtain ⟨e3, _, _, _⟩ := repV_int (hr 2 _ _ rfl (Array.getElem?_eq_getElem (by omega)))
  have ea : args = #[.int .u64 a.toInt, .int .u64 b.toInt, .int .u64 0] := by
    apply Array.ext
    · simpa using hs
    · intro i h1 h2
      match i with
      | 0 => simpa using e1
      | 1 => simpa using e2
      | 2 => simpa [C.toInt] using e3
      | i + 3 => omega
  have z : IntKind.u64.min = 0 := by decide
  have z' : IntKind.u64.max = 18446744073709551615 := by decide
  refine ⟨.tuple #[.int .u64 ((a.toInt + b.toInt) % 18446744073709551616), .int .u64 ((a.toInt + b.toInt) / 18446744073709551616)], ?_, #[_, _], rfl, ?_⟩
  · have hrun := run_callFunc_extern (P := (X0 gl).P) (f := 45) (fn := Tryd.f45) (e := add64Entry) Tryd.func45 (by decide) rfl (by kernel_rfl) (by kernel_rfl) args w
    rw [hrun, ea, run_add64 _ _ _ (by omega) (by omega) (by omega) (by omega)]
    simp
  · refine repCaps_of rfl fun i x u hx hu => ?_
    match i with
    | 0 => simp at hx hu; subst hx; subst hu; exact ⟨rfl, repV_mk_int (by omega) (by omega)⟩
    | 1 => simp at hx hu; subst hx; subst hu; exact ⟨rfl, repV_mk_int (by omega) (by omega)⟩
    | i + 2 => simp at hx
end Go.Proofs.YtefppgmopnnphaaDoor


namespace Go.Proofs.YtefppgmopnnphaaDoor
open Go Go.E
set_option maxRecDepth 100000
def indexByteX : List V → Option V := fun xs => match xs with
  | [.d .str s, .d (.int .u8) b] => some (.d (.int .i64) (.int (Go.Lib.indexByte s.toStr b.toInt.toNat.toUInt8)))
  | _ => none
def countX : List V → Option V := fun xs => match xs with
  | [.d .str s, .d (.int .u8) b] => some (.d (.int .i64) (.int (Go.Lib.countByte s.toStr b.toInt.toNat.toUInt8 : Nat)))
  | _ => none
theorem indexByte_lt (c : UInt8) : ∀ l : List UInt8, Go.Lib.indexByte l c < (l.length : Int) ∨ l = []
  | [] => .inr rfl
  | b :: l => by
    left
    unfold Go.Lib.indexByte
    simp only [List.length_cons]
    rcases indexByte_lt c l with h | h
    · split
      · omega
      · split <;> omega
    · subst h
      split
      · simp
      · simp [Go.Lib.indexByte]
theorem indexByteX_ok (gl : Nat → Option (Ty × C)) (xs : List V) (v : V) (h : indexByteX xs = some v) : EDoes (X0 gl) 105 xs v := by
  unfold indexByteX at h
  split at h
  · rename_i s b
    cases h
    intro Γ w args hl hr
    have hs : args.size = 2 := hl.symm
    obtain ⟨e1, _, h1⟩ := repV_str (hr 0 _ _ rfl (Array.getElem?_eq_getElem (by omega)))
    obtain ⟨e2, _, _, _⟩ := repV_int (hr 1 _ _ rfl (Array.getElem?_eq_getElem (by omega)))
    have ea : args = #[.string ⟨s.toStr.toArray⟩, .int .u8 b.toInt] := by
      apply Array.ext
      · simpa using hs
      · intro i h1 h2
        match i with
        | 0 => simpa using e1
        | 1 => simpa using e2
        | i + 2 => omega
    refine ⟨.int .i64 (Go.Lib.indexByte s.toStr b.toInt.toNat.toUInt8), ?_, ?_⟩
    · have hrun := run_callFunc_extern (P := (X0 gl).P) (f := 105) (fn := Tryd.f105) (e := Extern.BytealgIndexByte.indexByte) Tryd.func105 (by decide) rfl (by kernel_rfl) (by kernel_rfl) args w
      rw [hrun, ea, Go.Lib.run_indexByteString]
      simp
    · have m1 : IntKind.i64.min = -9223372036854775808 := by decide
      have m2 : IntKind.i64.max = 9223372036854775807 := by decide
      have q1 := Go.Lib.indexByte_ge s.toStr b.toInt.toNat.toUInt8
      have q2 : Go.Lib.indexByte s.toStr b.toInt.toNat.toUInt8 ≤ 140737488355328 := by
        rcases indexByte_lt b.toInt.toNat.toUInt8 s.toStr with h | h
        · omega
        · rw [h]; simp [Go.Lib.indexByte]
      exact repV_mk_int (by omega) (by omega)
  · cases h
theorem countX_ok (gl : Nat → Option (Ty × C)) (xs : List V) (v : V) (h : countX xs = some v) : EDoes (X0 gl) 87 xs v := by
  unfold countX at h
  split at h
  · rename_i s b
    cases h
    intro Γ w args hl hr
    have hs : args.size = 2 := hl.symm
    obtain ⟨e1, _, h1⟩ := repV_str (hr 0 _ _ rfl (Array.getElem?_eq_getElem (by omega)))
    obtain ⟨e2, _, _, _⟩ := repV_int (hr 1 _ _ rfl (Array.getElem?_eq_getElem (by omega)))
    have ea : args = #[.string ⟨s.toStr.toArray⟩, .int .u8 b.toInt] := by
      apply Array.ext
      · simpa using hs
      · intro i h1 h2
        match i with
        | 0 => simpa using e1
        | 1 => simpa using e2
        | i + 2 => omega
    refine ⟨.int .i64 (Go.Lib.countByte s.toStr b.toInt.toNat.toUInt8 : Nat), ?_, ?_⟩
    · have hrun := run_callFunc_extern (P := (X0 gl).P) (f := 87) (fn := Tryd.f87) (e := Extern.BytealgCount.count) Tryd.func87 (by decide) rfl (by kernel_rfl) (by kernel_rfl) args w
      rw [hrun, ea, Go.Lib.run_countString]
      simp
    · have m1 : IntKind.i64.min = -9223372036854775808 := by decide
      have m2 : IntKind.i64.max = 9223372036854775807 := by decide
      have q : Go.Lib.countByte s.toStr b.toInt.toNat.toUInt8 ≤ s.toStr.length := List.count_le_length
      exact repV_mk_int (by omega) (by omega)
  · cases h
end Go.Proofs.YtefppgmopnnphaaDoor


namespace Go.Proofs.YtefppgmopnnphaaDoor
open Go Go.E
set_option maxRecDepth 100000
def lookG : List (Nat × Ty × C) → Nat → Option (Ty × C)
  | [], _ => none
  | (i, x) :: l, g => bif Nat.beq g i then some x else lookG l g
theorem lookG_sub {gl : Nat → Option (Ty × C)} : ∀ {l : List (Nat × Ty × C)}, l.map (fun p => gl p.1) = l.map (fun p => some p.2) → ∀ g x, lookG l g = some x → gl g = some x
  | [], _, g, x, h => by cases h
  | (i, y) :: l, h0, g, x, h => by
    simp only [List.map_cons, List.cons.injEq] at h0
    simp only [lookG] at h
    cases hb : Nat.beq g i with
    | true =>
      rw [hb, cond_true] at h
      cases h
      rw [Nat.eq_of_beq_eq_true hb]; exact h0.1
    | false =>
      rw [hb, cond_false] at h
      exact lookG_sub h0.2 g x h
def gl0L : List (Nat × Ty × C) :=
  (0, .arr 20 (.int .u64), .agg (Go.Lib.pow10Tab.map C.int)) ::
  []
def gl0 : Nat → Option (Ty × C) := lookG gl0L
theorem gl0_sub (gl : Nat → Option (Ty × C)) (h : gl0L.map (fun p => gl p.1) = gl0L.map (fun p => some p.2)) : ∀ g x, gl0 g = some x → gl g = some x := lookG_sub h
def add64X : List V → Option V := fun xs => match xs with
  | [.d (.int .u64) a, .d (.int .u64) b, .d (.int .u64) (.int c)] => if c = 0 then some (.tup [.d (.int .u64) (.int ((a.toInt + b.toInt) % 18446744073709551616)), .d (.int .u64) (.int ((a.toInt + b.toInt) / 18446744073709551616))]) else none
  | _ => none
def extL : List (Nat × (List V → Option V)) := []
  ++ [(45, add64X)]
  ++ [(105, indexByteX)]
  ++ [(87, countX)]
def extX : ExtK := extLook extL
theorem extL_ok (gl : Nat → Option (Ty × C)) : ExtLOk (X0 gl) extL := by
  unfold extL
  repeat' refine ExtLOk.append ?_ ⟨?_, trivial⟩
  · exact trivial
  · intro xs v h
    have h : add64X xs = some v := h
    show EDoes (X0 gl) 45 xs v
    unfold add64X at h
    split at h
    · simp only [Option.ite_none_right_eq_some, Option.some.injEq] at h
      obtain ⟨rfl, rfl⟩ := h
      exact bits_Add64 _ _
    · cases h
  · exact indexByteX_ok gl
  · exact countX_ok gl
theorem extX_ok (gl : Nat → Option (Ty × C)) : ExtKOk (X0 gl) extX := extLook_ok (extL_ok gl)
def noX : FuncId → Nat → List (Nat × Nat) := fun _ _ => []
noncomputable def cl_Post_g (_ : Nat) {R : Type} : OvG R := cloneG 32 tPost
theorem cl_Post_ok (N : Nat) {R : Type} : GOk (X0 gl0) 24 (cl_Post_g N (R := R)) := cloneG_ok fun A cs => clone_Post A cs
noncomputable def cl_Entry3_g (_ : Nat) {R : Type} : OvG R := cloneG 32 tEntry3
theorem cl_Entry3_ok (N : Nat) {R : Type} : GOk (X0 gl0) 25 (cl_Entry3_g N (R := R)) := cloneG_ok fun A cs => clone_Entry3 A cs
end Go.Proofs.YtefppgmopnnphaaDoor


namespace Go.Proofs.YtefppgmopnnphaaDoor
open Go Go.E Go.RowKit
set_option maxRecDepth 100000
set_option maxHeartbeats 4000000
set_option linter.unusedSimpArgs false
def nameB (b : UInt8) : Bool := (decide (97 ≤ b.toNat) && decide (b.toNat ≤ 122)) || (decide (48 ≤ b.toNat) && decide (b.toNat ≤ 57)) || b.toNat == 46
def namedF (l : List UInt8) : Bool := decide (1 ≤ l.length) && decide (l.length ≤ 20) && l.all nameB
theorem drop_at (s : ByteArray) (pos : Nat) (h : pos < s.size) : s.data.toList.drop pos = (s[pos]'h) :: s.data.toList.drop (pos + 1) := by
  have h2 : pos < s.data.toList.length := by rw [Array.length_toList]; exact h
  rw [List.drop_eq_getElem_cons h2]
  congr 1
theorem named_run (s : ByteArray) (w : World) : Calls Tryd.prog 28 #[.string s] w fun e w' => e = .returned (.bool (namedF s.data.toList)) ∧ (w' = w ∨ ∃ pos, w' = w.iter s pos) := by
  go_enter Tryd.func28, Tryd.ntmps28
  go_wp2
  · rename_i h1 h2
    go_ret
    refine ⟨?_, .inl rfl⟩
    have : namedF s.data.toList = false := by
      unfold namedF
      rw [Array.length_toList]
      have e : s.data.size = s.size := rfl
      rw [e]
      rcases h2 with h2 | h2
      · omega
      · rw [decide_eq_false (show ¬ s.size ≤ 20 by omega)]; simp
    rw [this]
    rfl
  · have h2 : 1 ≤ (s.size : Int) ∧ (s.size : Int) ≤ 20 := by assumption
    have hlen : namedF s.data.toList = s.data.toList.all nameB := by
      unfold namedF
      rw [Array.length_toList]
      have e : s.data.size = s.size := rfl
      rw [e, decide_eq_true (show 1 ≤ s.size by omega), decide_eq_true (show s.size ≤ 20 by omega)]; simp
    have hlen0 : (s.data.toList.drop 0).all nameB = namedF s.data.toList := hlen.symm
    clear hlen
    generalize hres : namedF s.data.toList = res at hlen0
    go_loopw [4] (fun _ w' => ∃ (pos : Nat), w' = w.iter s pos ∧ (s.data.toList.drop pos).all nameB = res) (fun _ w' => s.size - w'.iterPos w.heap.size)
    case atStart => exact ⟨0, rfl, hlen0⟩
    case round =>
      obtain ⟨pos, rfl, hc⟩ := hrel
      by_cases hp : pos < s.size
      · have hdec : ∃ (r wd : Nat), 1 ≤ wd ∧ ((r = (s[pos]'hp).toNat ∧ wd = 1) ∨ (128 ≤ r ∧ nameB (s[pos]'hp) = false)) ∧ ∀ ty, (Instr.next (.pointer (some ⟨w.heap.size, 0, none⟩)) true ty).run Tryd.prog (w.iter s pos) = .ok (.tuple #[.bool true, .int .i64 pos, .int .i32 (r : Int)]) (w.iter s (pos + wd)) := by
          by_cases ha : (s[pos]'hp).toNat < 128
          · refine ⟨(s[pos]'hp).toNat, 1, Nat.le_refl _, .inl ⟨rfl, rfl⟩, fun ty => ?_⟩
            exact run_next_ascii w s pos ty hp ha
          · have q := decode_high s pos hp (by omega)
            refine ⟨(Utf8.decode s pos).1, (Utf8.decode s pos).2, q.2, .inr ⟨q.1, ?_⟩, fun ty => run_next_any w s pos ty hp⟩
            unfold nameB
            rw [decide_eq_false (show ¬ (s[pos]'hp).toNat ≤ 122 by omega), decide_eq_false (show ¬ (s[pos]'hp).toNat ≤ 57 by omega), show ((s[pos]'hp).toNat == 46) = false from by simp; omega]
            simp
        rw [drop_at s pos hp, List.all_cons] at hc
        generalize (s[pos]'hp) = b0 at hc hdec
        obtain ⟨r, wd, hwd, hr, hnx⟩ := hdec
        clear h2 hlen0
        have hk : nameB b0 = true ↔ ((97 ≤ (r : Int) ∧ (r : Int) ≤ 122) ∨ (48 ≤ (r : Int) ∧ (r : Int) ≤ 57) ∨ (r : Int) = 46) := by
          rcases hr with ⟨rfl, _⟩ | ⟨h1, h2⟩
          · unfold nameB
            simp
            omega
          · rw [h2]
            simp
            omega
        have hw1 : nameB b0 = true → wd = 1 := fun h => by
          rcases hr with ⟨_, h1⟩ | ⟨_, h2⟩
          · exact h1
          · rw [h] at h2; cases h2
        clear hr
        go_wp2
        all_goals (first
          | (go_ret
             have hb : nameB b0 = false := by
               rw [← Bool.not_eq_true, hk]
               try simp only [bne_iff_ne, ne_eq, bne_eq_false_iff_eq] at *
               omega
             rw [hb, Bool.false_and] at hc
             refine ⟨?_, .inr ⟨_, rfl⟩⟩
             (first | rw [hres, ← hc] | rw [← hc])
             rfl)
          | (have hb : nameB b0 = true := hk.2 (by
               try simp only [bne_iff_ne, ne_eq, bne_eq_false_iff_eq] at *
               omega)
             have := hw1 hb
             subst this
             rw [hb, Bool.true_and] at hc
             refine ⟨⟨pos + 1, rfl, hc⟩, ?_⟩
             simp
             omega))
      · have hnx : ∀ ty, (Instr.next (.pointer (some ⟨w.heap.size, 0, none⟩)) true ty).run Tryd.prog (w.iter s pos) = _ := fun ty => run_next_end w s pos ty hp
        clear h2 hlen0
        go_wp2
        go_ret
        rw [List.drop_eq_nil_of_le (by rw [Array.length_toList]; exact Nat.le_of_not_lt hp)] at hc
        refine ⟨?_, .inr ⟨_, rfl⟩⟩
        (first | rw [hres, ← hc] | rw [← hc])
        rfl
  · rename_i h1
    go_ret
    refine ⟨?_, .inl rfl⟩
    have : namedF s.data.toList = false := by
      unfold namedF
      rw [Array.length_toList]
      have e : s.data.size = s.size := rfl
      rw [e, decide_eq_false (show ¬ 1 ≤ s.size by omega)]; simp
    rw [this]
    rfl
theorem ext_iter (w : World) (s : ByteArray) (pos : Nat) : Ext w (w.iter s pos) := by
  refine ⟨?_, fun b hb => ?_, ?_⟩
  · simp [World.iter]
  · exact heap_alloc_old w _ hb
  · rfl
theorem named_calls (A : Key → Option O) (c : C) : DCalls (X0 gl0) 28 [.d .str c] A (.d .bool (.bool (namedF c.toStr))) [] := by
  intro A' Γ w args hA' hg hc hn hr
  obtain ⟨cc, hok⟩ := hc
  have hs : args.size = 1 := hn.symm
  obtain ⟨e1, _, _⟩ := repV_str (hr 0 _ _ rfl (Array.getElem?_eq_getElem (by omega)))
  have ea : args = #[.string ⟨c.toStr.toArray⟩] := by
    apply Array.ext
    · simpa using hs
    · intro i h1 h2
      match i with
      | 0 => simpa using e1
      | i + 1 => omega
  rw [ea]
  refine (named_run ⟨c.toStr.toArray⟩ w).mono fun e w' he => ?_
  obtain ⟨he1, he2⟩ := he
  have hext : Ext w w' := by
    rcases he2 with rfl | ⟨pos, rfl⟩
    · exact .refl _
    · exact ext_iter _ _ _
  refine ⟨_, Γ, he1, .refl Γ, (cc.ext hext).congr (fun _ => rfl) (fun _ => rfl) (fun _ h => h), ?_⟩
  exact repV_mk_bool
noncomputable def journal_named_g (_ : Nat) {R : Type} : OvG R := fun xs _ K => match xs with
  | [.d .str c] => K (.d .bool (.bool (namedF c.toStr))) []
  | _ => none
theorem journal_named_ok (N : Nat) {R : Type} : GOk (X0 gl0) 28 (journal_named_g N (R := R)) := by
  intro xs A Kr r hr
  unfold journal_named_g at hr
  split at hr
  · exact ⟨_, _, named_calls A _, hr⟩
  · cases hr
end Go.Proofs.YtefppgmopnnphaaDoor


set_option linter.all false
namespace Go.Proofs
open Go.Shelf 
def Tryd.laysM246_ren : Go.Shelf.Ren := ⟨fun | 246 => 111 | 283 => 66 | 284 => 67 | 285 => 68 | 286 => 69 | 129 => 64 | 317 => 81 | 318 => 82 | 319 => 83 | 320 => 84 | 337 => 92 | 338 => 93 | n => n, fun | 2 => 2 | 3 => 3 | 9 => 9 | 4 => 4 | 171 => 129 | 0 => 0 | 53 => 23 | 37 => 88 | 5 => 5 | 173 => 131 | 212 => 144 | 51 => 124 | 20 => 20 | 213 => 145 | 46 => 111 | 232 => 160 | 233 => 161 | n => n, fun | 17 => 0 | 18 => 2 | 19 => 3 | n => n⟩
theorem Tryd.laysM246 : Go.Proofs.LaysM.n246 Tryd.prog Tryd.laysM246_ren := {
  mixed := by kernel_rfl
  f129 := Tryd.func64.trans (congrArg some (by kernel_rfl))
  f246 := Tryd.func111.trans (congrArg some (by kernel_rfl))
  f283 := Tryd.func66.trans (congrArg some (by kernel_rfl))
  f284 := Tryd.func67.trans (congrArg some (by kernel_rfl))
  f285 := Tryd.func68.trans (congrArg some (by kernel_rfl))
  f286 := Tryd.func69.trans (congrArg some (by kernel_rfl))
  f317 := Tryd.func81.trans (congrArg some (by kernel_rfl))
  f318 := Tryd.func82.trans (congrArg some (by kernel_rfl))
  f319 := Tryd.func83.trans (congrArg some (by kernel_rfl))
  f320 := Tryd.func84.trans (congrArg some (by kernel_rfl))
  f337 := Tryd.func92.trans (congrArg some (by kernel_rfl))
  f338 := Tryd.func93.trans (congrArg some (by kernel_rfl))
  t0 := Tryd.underlying0
  a0 := Tryd.isAgg0
  z0 := Tryd.sizeOf0
  v0 := Tryd.zeroValue0
  t2 := Tryd.underlying2
  a2 := Tryd.isAgg2
  z2 := Tryd.sizeOf2
  v2 := Tryd.zeroValue2
  t3 := Tryd.underlying3
  a3 := Tryd.isAgg3
  z3 := Tryd.sizeOf3
  v3 := Tryd.zeroValue3
  t4 := Tryd.underlying4
  a4 := Tryd.isAgg4
  z4 := Tryd.sizeOf4
  v4 := Tryd.zeroValue4
  t5 := Tryd.underlying5
  a5 := Tryd.isAgg5
  z5 := Tryd.sizeOf5
  v5 := Tryd.zeroValue5
  t9 := Tryd.underlying9
  a9 := Tryd.isAgg9
  z9 := Tryd.sizeOf9
  v9 := Tryd.zeroValue9
  t20 := Tryd.underlying20
  a20 := Tryd.isAgg20
  z20 := Tryd.sizeOf20
  v20 := Tryd.zeroValue20
  t37 := Tryd.underlying88
  a37 := Tryd.isAgg88
  z37 := Tryd.sizeOf88
  v37 := Tryd.zeroValue88
  t46 := Tryd.underlying111
  a46 := Tryd.isAgg111
  z46 := Tryd.sizeOf111
  v46 := Tryd.zeroValue111
  t51 := Tryd.underlying124
  a51 := Tryd.isAgg124
  z51 := Tryd.sizeOf124
  v51 := Tryd.zeroValue124
  t53 := Tryd.underlying23
  a53 := Tryd.isAgg23
  z53 := Tryd.sizeOf23
  v53 := Tryd.zeroValue23
  t171 := Tryd.underlying129
  a171 := Tryd.isAgg129
  z171 := Tryd.sizeOf129
  v171 := Tryd.zeroValue129
  t173 := Tryd.underlying131
  a173 := Tryd.isAgg131
  z173 := Tryd.sizeOf131
  v173 := Tryd.zeroValue131
  t212 := Tryd.underlying144
  a212 := Tryd.isAgg144
  z212 := Tryd.sizeOf144
  v212 := Tryd.zeroValue144
  t213 := Tryd.underlying145
  a213 := Tryd.isAgg145
  z213 := Tryd.sizeOf145
  t232 := Tryd.underlying160
  a232 := Tryd.isAgg160
  z232 := Tryd.sizeOf160
  v232 := Tryd.zeroValue160
  t233 := Tryd.underlying161
  a233 := Tryd.isAgg161
  z233 := Tryd.sizeOf161
  v233 := Tryd.zeroValue161
  g17 := by kernel_rfl
  g18 := by kernel_rfl
  g19 := by kernel_rfl
  i0 := by kernel_rfl
  i2 := by kernel_rfl
  i3 := by kernel_rfl
  i4 := by kernel_rfl
  i5 := by kernel_rfl
  i9 := by kernel_rfl
  i20 := by kernel_rfl
  i37 := by kernel_rfl
  i46 := by kernel_rfl
  i51 := by kernel_rfl
  i53 := by kernel_rfl
  i171 := by kernel_rfl
  i173 := by kernel_rfl
  i212 := by kernel_rfl
  i232 := by kernel_rfl
  i233 := by kernel_rfl
  m17 := by kernel_rfl
  m18 := by kernel_rfl
  m19 := by kernel_rfl }
end Go.Proofs


namespace Go.Proofs.YtefppgmopnnphaaDoor
open Go Go.E Go.RowKit Go.Shelf Go.Sort Go.Lib
set_option maxRecDepth 100000
set_option maxHeartbeats 6400000
set_option linter.unusedSimpArgs false
theorem holds_zero0 (w : World) (T : TypeId) (nd : Nat) (hs : nd ≤ 24) : Holds (fun (b : UInt8) => Value.int .u8 (b.toNat : Int)) (w.alloc (.cells zeros24 T)) w.heap.size 0 (Array.replicate nd (0 : UInt8)) := fun j hj => by
  have hj' : j < nd := by simpa using hj
  refine ⟨?_, World.frozen?_alloc_new _ _ _ _⟩
  rw [World.cell?_alloc_new, zeros24_at _ (by omega), getElem!_pos _ j hj]
  simp
theorem fin_pos0 (w : World) (o : Obj) (dk : Array UInt8) (k : Nat) : ∃ os, (putRow (fun (b : UInt8) => Value.int .u8 (b.toNat : Int)) (w.alloc o) w.heap.size 0 dk).drewN k = grow (w.drewN k) os := by
  rw [alloc_eq_grow]
  obtain ⟨os', _, e⟩ := putRow_grow_new (fun (b : UInt8) => Value.int .u8 (b.toNat : Int)) w #[o] w.heap.size 0 dk (Nat.le_refl _)
  exact ⟨os', by rw [e]; rfl⟩
def TabW (w : World) : Prop := ∀ i, i < 20 → w.cell? ⟨0, i, none⟩ = some (.int .u64 ((10 ^ i : Nat) : Int))
theorem tabW_alloc {w : World} (h : TabW w) (o : Obj) : TabW (w.alloc o) := fun i hi => by
  have h' := h i hi
  have hlt : 0 < w.heap.size := by
    rcases Nat.lt_or_ge 0 w.heap.size with h1 | h1
    · exact h1
    · simp [World.cell?, Array.getElem?_eq_none h1] at h'
  unfold World.cell? at h' ⊢
  rw [RowKit.Below.heap_alloc w o _ hlt]
  exact h'
theorem numD_run (u : Nat) (h1 : 1 ≤ u) (h2 : u < 18446744073709551616) (w : World) (htab : TabW w) :
    Calls Tryd.prog 67 #[.int .u64 u] w fun e w' => e = .returned (.int .i64 (Lib.nDigits u)) ∧ w' = w := by
  have e129 : ∀ args w, (callFunc 64 args).run Tryd.prog w = .ok (.enter 64 args) w := enters_of Tryd.func64 (by kernel_rfl) rfl
  have e317 : ∀ args w, (callFunc 81 args).run Tryd.prog w = .ok (.enter 81 args) w := enters_of Tryd.func81 (by kernel_rfl) rfl
  have e318 : ∀ args w, (callFunc 82 args).run Tryd.prog w = .ok (.enter 82 args) w := enters_of Tryd.func82 (by kernel_rfl) rfl
  obtain ⟨hnd, h19⟩ := Lib.numDigits_eq u h1 h2
  have hL : Lib.bitLen u ≤ 64 := Lib.bitLen_le u 64 (Nat.le_refl _) h2
  have hcell := htab (Lib.l10 (Lib.bitLen u)) (by omega)
  have hto : ((u : Int)).toNat = u := by omega
  generalize hq : Lib.l10 (Lib.bitLen u) = q at hnd h19 hcell
  generalize hT : 10 ^ q = T at hnd hcell
  have h20 : q < 20 := by omega
  have Hnd := Lib.hid hnd
  clear hnd htab
  go_enter Tryd.func67, Tryd.ntmps67
  go_wp2_with (first
    | (go_at_fn 64; refine (Any.bits_Len64 (P := Tryd.prog) (ρ := Tryd.laysM246_ren) { Tryd.laysM246 with } _ _ (by omega) (by omega)).mono ?_; rintro e w' ⟨rfl, rfl⟩)
    | (go_at_fn 81; refine (Any.internal_strconv_log10Pow2 (P := Tryd.prog) (ρ := Tryd.laysM246_ren) { Tryd.laysM246 with } _ (by first | exact hL | (rw [hto]; exact hL)) _).mono ?_; rintro e w' ⟨rfl, rfl⟩)
    | (go_at_fn 82; refine (Any.internal_strconv_bool2_int (P := Tryd.prog) (ρ := Tryd.laysM246_ren) { Tryd.laysM246 with } _ _).mono ?_; rintro e w' ⟨rfl, rfl⟩))
  all_goals go_ret
  all_goals (
    refine ⟨?_, rfl⟩
    have hnd := Hnd.out
    congr 2
    split at hnd <;> simp_all <;> omega)
theorem fmtU_run (u : Nat) (h : u < 18446744073709551616) (w : World) (htab : TabW w) :
    Calls Tryd.prog 50 #[.int .u64 u, .int .i64 10] w fun e w' => e = .returned (.string ⟨(Lib.decDigits u).toArray⟩) ∧ ∃ k os, w' = grow (w.drewN k) os := by
  have e283 : ∀ args w, (callFunc 66 args).run Tryd.prog w = .ok (.enter 66 args) w := enters_of Tryd.func66 (by kernel_rfl) rfl
  have e284 : ∀ args w, (callFunc 67 args).run Tryd.prog w = .ok (.enter 67 args) w := enters_of Tryd.func67 (by kernel_rfl) rfl
  have e285 : ∀ args w, (callFunc 68 args).run Tryd.prog w = .ok (.enter 68 args) w := enters_of Tryd.func68 (by kernel_rfl) rfl
  by_cases hs : u < 100
  · go_enter Tryd.func50, Tryd.ntmps50
    go_wp2_with (go_at_fn 66; refine (Any.internal_strconv_small { Tryd.laysM246 with } u hs _).mono ?_; rintro e w' ⟨rfl, rfl⟩)
    go_ret
    exact ⟨rfl, 0, #[], by simp [World.drewN_zero]⟩
  · have hu1 : 1 ≤ u := by omega
    have hnd20 : Lib.nDigits u ≤ 20 := by have := Lib.numDigits_eq u hu1 h; split at this <;> omega
    have hal : Tryd.prog.arrayLen 129 = 24 := by kernel_rfl
    have hsl1 : ∀ W, (Instr.sliceAt 129 (.pointer (some ⟨w.heap.size, 0, none⟩)) none (some (.int .i64 (Lib.nDigits u : Int))) none).run Tryd.prog W = .ok (.slice (some ⟨w.heap.size, 0, none⟩) (Lib.nDigits u) 24) W := fun W => by
      rw [run_sliceAt_array_h W 129 ⟨w.heap.size, 0, none⟩ (by kernel_rfl) .i64 (Lib.nDigits u : Int) (by omega) (by rw [hal]; omega)]
      go_simp
    have hH0 := holds_zero0 w 129 (Lib.nDigits u) (by omega)
    have hfmt := Any.internal_strconv_formatBase10 (P := Tryd.prog) (ρ := Tryd.laysM246_ren) { Tryd.laysM246 with } w.heap.size 0 24 u (Array.replicate (Lib.nDigits u) 0) (w.alloc (.cells Lib.zeros24 129)) hH0 (by rw [Array.size_replicate]; exact Lib.lt_pow_nDigits u) h (by rw [Array.size_replicate]; omega)
    rw [Array.size_replicate] at hfmt
    have HH0 := Lib.hid hH0
    clear hH0 hal
    go_enter Tryd.func50, Tryd.ntmps50
    go_wp2_with (first
      | (go_at_fn 67; refine (numD_run u hu1 h _ (tabW_alloc htab _)).mono ?_; rintro e w' ⟨rfl, rfl⟩))
    go_at_fn 68
    refine hfmt.mono ?_
    rintro e w' ⟨rfl, k, v', dk, rfl, hF⟩
    have hcv : (convert 88 9 (.slice (some ⟨w.heap.size, 0, none⟩) (Lib.nDigits u) 24)).run Tryd.prog ((putRow (fun (b : UInt8) => Value.int .u8 (b.toNat : Int)) (w.alloc (.cells Lib.zeros24 129)) w.heap.size 0 dk).drewN k) = .ok (.string ⟨(Lib.decDigits u).toArray⟩) ((putRow (fun (b : UInt8) => Value.int .u8 (b.toNat : Int)) (w.alloc (.cells Lib.zeros24 129)) w.heap.size 0 dk).drewN k) := by
      have h := run_convert_bytes_back (P := Tryd.prog) ((putRow (fun (b : UInt8) => Value.int .u8 (b.toNat : Int)) (w.alloc (.cells Lib.zeros24 129)) w.heap.size 0 dk).drewN k) 88 9 5 ⟨w.heap.size, 0, none⟩ 24 (Lib.decDigits u) (by kernel_rfl) (by kernel_rfl) (by kernel_rfl) (fun j hj => by
        rw [Lib.row_is_numeral hF j hj, Lib.add_plain, World.cell?_drewN]
        exact cell?_putRow (fun (b : UInt8) => Value.int .u8 (b.toNat : Int)) _ w.heap.size 0 _ dk HH0.out (by rw [hF.size, Array.size_replicate]) j (by rw [hF.size]; rw [Lib.decDigits_length] at hj; exact hj))
      rw [Lib.decDigits_length] at h
      exact h
    go_wp2
    go_ret
    obtain ⟨os, eo⟩ := fin_pos0 w (.cells Lib.zeros24 129) dk k
    exact ⟨rfl, k, os, eo⟩
theorem tabW_of {Γ : G} {w : World} {s : S} (c : Conc Γ w s) (h : Γ.gl 0 = some (.arr 20 (.int .u64), .agg (Go.Lib.pow10Tab.map C.int))) : TabW w := fun i hi => by
  obtain ⟨l, h1, h2, h3⟩ := c.hgl _ _ _ h
  obtain ⟨arr, T, fr, r, h4, h5⟩ := c.hH _ _ h1
  simp only [RepC] at h3
  obtain ⟨cs, e, _, _, _, hr⟩ := h3
  cases e
  have hi' : (Go.Lib.pow10Tab.map C.int)[i]? = some (.int ((10 ^ i : Nat) : Int)) := by
    have h6 := Go.Lib.pow10Tab_at i hi
    have h7 := Go.Lib.pow10Tab_length
    rw [List.getElem?_map]
    rw [List.getD_eq_getElem?_getD] at h6
    cases h8 : Go.Lib.pow10Tab[i]? with
    | none => rw [List.getElem?_eq_none_iff] at h8; omega
    | some z => rw [h8] at h6; simp only [Option.getD_some] at h6; rw [h6]; rfl
  have h9 := hr _ _ hi'
  have m1 : IntKind.u64.min = 0 := by decide
  simp only [RepC, Ty.size, Nat.mul_one] at h9 h2
  obtain ⟨n, h11, h10, _, _⟩ := h9
  cases h11
  have h12 : (chunk (chunk l 0 (20 * 1)) i 1)[0]? = some (.int .u64 ((10 ^ i : Nat) : Int)) := by rw [h10]; rfl
  have h13 : l[i]? = some (.int .u64 ((10 ^ i : Nat) : Int)) := by
    simp only [chunk, List.drop_zero, List.getElem?_take, List.getElem?_drop] at h12
    simp at h12
    exact h12.2
  unfold World.cell?
  simp only [h4]
  have h14 : arr[i]? = some (.int .u64 ((10 ^ i : Nat) : Int)) := by
    have hl : i < l.length := by omega
    rw [← Array.getElem?_toList, h5, List.getElem?_append_left hl]
    exact h13
  simpa using h14
theorem ext_grow (w : World) (k : Nat) (os : Array Obj) : Ext w (grow (w.drewN k) os) := by
  refine ⟨?_, fun b hb => ?_, ?_⟩
  · simp [grow, World.drewN]
  · simp [grow, World.drewN, Array.getElem?_append, hb]
  · rfl
theorem decDigits_le (u : Nat) (h : u < 18446744073709551616) : (Lib.decDigits u).length ≤ 20 := by
  rw [Lib.decDigits_length]
  by_cases h1 : 1 ≤ u
  · have := Lib.numDigits_eq u h1 h; split at this <;> omega
  · have : u = 0 := by omega
    subst this; simp [Lib.nDigits]
def decF : Nat → Nat → List UInt8
  | 0, _ => []
  | f + 1, n => bif Nat.blt n 10 then [UInt8.ofNat (48 + n)] else decF f (n / 10) ++ [UInt8.ofNat (48 + n % 10)]
def decU (n : Nat) : List UInt8 := decF 20 n
theorem decF_eq : ∀ (f n : Nat), n < 10 ^ (f + 1) → decF (f + 1) n = Lib.decDigits n
  | f, n, h => by
    rw [Lib.decDigits, decF]
    by_cases hn : n < 10
    · rw [dif_pos hn, show Nat.blt n 10 = true from by simpa [Nat.blt_eq] using hn]; rfl
    · rw [dif_neg hn, show Nat.blt n 10 = false from by rw [← Bool.not_eq_true, Nat.blt_eq]; exact hn]
      cases f with
      | zero => simp at h; omega
      | succ f =>
        have h' : n / 10 < 10 ^ (f + 1) := by rw [Nat.pow_succ] at h; omega
        rw [cond_false, decF_eq f (n / 10) h']
theorem decU_eq (n : Nat) (h : n < 18446744073709551616) : decU n = Lib.decDigits n := decF_eq 19 n (Nat.lt_of_lt_of_le h (by decide))
theorem fmtU_calls (A : Key → Option O) (c : C) : DCalls (X0 gl0) 50 [.d (.int .u64) c, .d (.int .i64) (.int 10)] A (.d .str (.str (decU c.toInt.toNat))) [] := by
  intro A' Γ w args hA' hg hc hn hr
  obtain ⟨cc, hok⟩ := hc
  have hs : args.size = 2 := hn.symm
  obtain ⟨e1, _, h1, h2⟩ := repV_int (hr 0 _ _ rfl (Array.getElem?_eq_getElem (by omega)))
  obtain ⟨e2, _, _, _⟩ := repV_int (hr 1 _ _ rfl (Array.getElem?_eq_getElem (by omega)))
  have m1 : IntKind.u64.min = 0 := by decide
  have m2 : IntKind.u64.max = 18446744073709551615 := by decide
  have ea : args = #[.int .u64 (c.toInt.toNat : Int), .int .i64 10] := by
    apply Array.ext
    · simpa using hs
    · intro i h1 h2
      match i with
      | 0 =>
        have : ((c.toInt.toNat : Nat) : Int) = c.toInt := by omega
        simpa [this] using e1
      | 1 => simpa [C.toInt] using e2
      | i + 2 => omega
  rw [ea]
  refine (fmtU_run c.toInt.toNat (by omega) w (tabW_of cc (by rw [hg]; rfl))).mono fun e w' he => ?_
  obtain ⟨he1, k, os, he2⟩ := he
  subst he2
  refine ⟨_, Γ, he1, .refl Γ, (cc.ext (ext_grow w k os)).congr (fun _ => rfl) (fun _ => rfl) (fun _ h => h), ?_⟩
  have := decDigits_le c.toInt.toNat (by omega)
  rw [decU_eq _ (by omega)]
  exact repV_mk_str (by omega)
noncomputable def fmtU_g (_ : Nat) {R : Type} : OvG R := fun xs _ K => match xs with
  | [.d (.int .u64) c, .d (.int .i64) (.int b)] => if b = 10 then K (.d .str (.str (decU c.toInt.toNat))) [] else none
  | _ => none
theorem fmtU_ok (N : Nat) {R : Type} : GOk (X0 gl0) 50 (fmtU_g N (R := R)) := by
  intro xs A Kr r hr
  unfold fmtU_g at hr
  split at hr
  · rename_i c b
    by_cases hb : b = 10
    · subst hb
      exact ⟨_, _, fmtU_calls A c, by simpa using hr⟩
    · rw [if_neg hb] at hr; cases hr
  · cases hr
end Go.Proofs.YtefppgmopnnphaaDoor


namespace Go.Proofs.YtefppgmopnnphaaDoor
open Go Go.E Go.RowKit Go.Shelf
set_option maxRecDepth 100000
set_option maxHeartbeats 6400000
set_option linter.unusedSimpArgs false
theorem byte_info : ∃ i z, Tryd.prog.info? 5 = some i ∧ i.zero = some z ∧ i.size = 1 ∧ i.bytes = 1 ∧ z.cells.size = 1 := by
  have h : ((Tryd.prog.info? 5).map fun i => (i.size, i.bytes, i.zero.map fun z => z.cells.size)) = some (1, 1, some 1) := by kernel_rfl
  obtain ⟨i, hi, h2⟩ := Option.map_eq_some_iff.1 h
  simp only [Prod.mk.injEq] at h2
  obtain ⟨h3, h4, h5⟩ := h2
  obtain ⟨z, hz, h6⟩ := Option.map_eq_some_iff.1 h5
  exact ⟨i, z, hi, hz, h3, h4, h6⟩
theorem bld_lies : liesAt Tryd.prog Tryd.prog.depth 90 (2 / Tryd.prog.cellsOf 90) 0 90 1 = true := by kernel_rfl
theorem bld_info : (Tryd.prog.info? 90).map (·.size) = some 2 := by kernel_rfl
theorem copy_fresh (b : Nat) (w : World) (v : Value) (hw : w.heap[b]? = some (.cells #[.pointer none, v] 90 (0, 0))) :
    Calls Tryd.prog 49 #[.pointer (some ⟨b, 0, none⟩)] w fun e w' => e = .returned (.tuple #[]) ∧ w' = w.setCell ⟨b, 0, none⟩ (.pointer (some ⟨b, 0, none⟩)) := by
  obtain ⟨j, hj, hjs⟩ := Option.map_eq_some_iff.1 bld_info
  have h0 : w.cell? ⟨b, 0, none⟩ = some (.pointer none) := by rw [Lib.cell_of_heap hw]; rfl
  have hsh : w.shape? b = some (90, 2) := by simp [World.shape?, hw]
  have hfz : w.frozen? ⟨b, 0, none⟩ = false := Lib.frozen_of_heap hw 0
  go_enter Tryd.func49, Tryd.ntmps49
  go_wp2
  rw [Lib.run_to_unsafe w ⟨b, 0, none⟩ (t := 90) (by kernel_rfl) (by kernel_rfl) hj (by rw [hjs]; decide) hsh (Nat.zero_lt_succ 1)]
  simp only [Result.andThen]
  rw [Oper.upon_value]
  go_wp2
  rw [run_callFunc_extern Tryd.func65 (by kernel_rfl) (by kernel_rfl) (by kernel_rfl) (e := Extern.AbiNoEscape.same) (by kernel_rfl)]
  rw [Lib.run_noEscape]
  simp only [Result.andThen]
  rw [Oper.upon_value]
  go_wp2
  rw [Lib.run_from_unsafe w ⟨b, 0, none⟩ (u := 90) (by kernel_rfl) (by kernel_rfl) hj hsh bld_lies]
  simp only [Result.andThen]
  rw [Oper.upon_value]
  go_wp2
  go_end0
  exact ⟨rfl, rfl⟩
theorem copy_used (b : Nat) (w : World) (v : Value) (hw : w.heap[b]? = some (.cells #[.pointer (some ⟨b, 0, none⟩), v] 90 (0, 0))) :
    Calls Tryd.prog 49 #[.pointer (some ⟨b, 0, none⟩)] w fun e w' => e = .returned (.tuple #[]) ∧ w' = w := by
  obtain ⟨j, hj, hjs⟩ := Option.map_eq_some_iff.1 bld_info
  have h0 : w.cell? ⟨b, 0, none⟩ = some (.pointer (some ⟨b, 0, none⟩)) := by rw [Lib.cell_of_heap hw]; rfl
  go_enter Tryd.func49, Tryd.ntmps49
  go_wp2
  rw [Lib.run_neq_ptr_same w _ (te := 90) (by kernel_rfl) hj]
  go_wp2
  go_end0
  exact ⟨rfl, rfl⟩
theorem copy_any (b : Nat) (w : World) (adr v : Value) (hw : w.heap[b]? = some (.cells #[adr, v] 90 (0, 0))) (ha : adr = .pointer none ∨ adr = .pointer (some ⟨b, 0, none⟩)) :
    Calls Tryd.prog 49 #[.pointer (some ⟨b, 0, none⟩)] w fun e w' => e = .returned (.tuple #[]) ∧ oof w' = oof w ∧ w'.heap.size = w.heap.size ∧ w'.heap[b]? = some (.cells #[.pointer (some ⟨b, 0, none⟩), v] 90 (0, 0)) ∧ ∀ b2, b2 ≠ b → w'.heap[b2]? = w.heap[b2]? := by
  rcases ha with rfl | rfl
  · refine (copy_fresh b w v hw).mono ?_
    rintro e w' ⟨rfl, rfl⟩
    refine ⟨rfl, rfl, by simp [World.setCell], by simp [World.setCell, Array.getElem?_modify, hw], fun b2 h => ?_⟩
    have : b ≠ b2 := fun e => h e.symm
    simp [World.setCell, Array.getElem?_modify, this]
  · refine (copy_used b w v hw).mono ?_
    rintro e w' ⟨rfl, rfl⟩
    exact ⟨rfl, rfl, rfl, hw, fun _ _ => rfl⟩
def Wrote (w w' : World) (b : Nat) (v : Value) (l l' : List UInt8) : Prop := oof w' = oof w ∧ w.heap.size ≤ w'.heap.size ∧ ∃ v', w'.heap[b]? = some (.cells #[.pointer (some ⟨b, 0, none⟩), v'] 90 (0, 0)) ∧
  ((v' = v ∧ l' = l ∧ ∀ b2, b2 < w.heap.size → b2 ≠ b → w'.heap[b2]? = w.heap[b2]?) ∨
      ∃ g cap arr, v' = .slice (some ⟨g, 0, none⟩) l'.length cap ∧ w'.heap[g]? = some (.cells arr 5 (0, 0)) ∧ arr.size = cap ∧ arr.toList.take l'.length = bytesV l' ∧ l'.length ≤ cap ∧ cap ≤ maxLen ∧ 0 < cap ∧
        (w.heap.size ≤ g ∨ v = .slice (some ⟨g, 0, none⟩) l.length cap) ∧ ∀ b2, b2 < w.heap.size → b2 ≠ g → b2 ≠ b → w'.heap[b2]? = w.heap[b2]?)
theorem rowB_other {w w' : World} {v : Value} {l : List UInt8} {b : Nat} (h : RowB w v l) (hb : ∀ g n c, v = .slice (some ⟨g, 0, none⟩) n c → g ≠ b) (hs : ∀ b2, b2 ≠ b → w'.heap[b2]? = w.heap[b2]?) : RowB w' v l := by
  rcases h with h | ⟨g, cap, arr, rfl, h1, h2⟩
  · exact .inl h
  · exact .inr ⟨g, cap, arr, rfl, by rw [hs g (hb g _ _ rfl)]; exact h1, h2⟩
theorem wrote_of {w w1 w2 w3 : World} {b : Nat} {v v' : Value} {l l' : List UInt8} (hlt : b < w.heap.size) (hvb : ∀ g n c, v = .slice (some ⟨g, 0, none⟩) n c → g ≠ b)
    (h1 : oof w1 = oof w) (h2 : w.heap.size ≤ w1.heap.size) (h3 : w1.heap[b]? = some (.cells #[.pointer (some ⟨b, 0, none⟩), v] 90 (0, 0))) (h4 : ∀ b2, b2 < w.heap.size → b2 ≠ b → w1.heap[b2]? = w.heap[b2]?)
    (hg : Grew w1 w2 v v' l l') (h5 : w3 = w2.setCell ⟨b, 1, none⟩ v') : Wrote w w3 b v l l' := by
  obtain ⟨g1, g2, g3⟩ := hg
  have hb2 : w2.heap[b]? = some (.cells #[.pointer (some ⟨b, 0, none⟩), v] 90 (0, 0)) := by
    rcases g3 with ⟨_, _, g4⟩ | ⟨g, cap, arr, _, e2, _, _, _, _, _, e8, e9⟩
    · rw [g4 b (by omega)]; exact h3
    · have hne : b ≠ g := by
        rcases e8 with e8 | e8
        · omega
        · exact (hvb _ _ _ e8).symm
      rw [e9 b (by omega) hne]; exact h3
  have hoth : ∀ b2, b2 ≠ b → w3.heap[b2]? = w2.heap[b2]? := fun b2 h => by
    have : b ≠ b2 := fun e => h e.symm
    rw [h5]; simp [World.setCell, Array.getElem?_modify, this]
  refine ⟨by rw [h5]; exact g1.trans h1, by rw [h5]; simp [World.setCell]; omega, v', by rw [h5]; simp [World.setCell, Array.getElem?_modify, hb2], ?_⟩
  rcases g3 with ⟨rfl, rfl, g4⟩ | ⟨g, cap, arr, e1, e2, e3, e4, e5, e6, e7, e8, e9⟩
  · exact .inl ⟨rfl, rfl, fun b2 hb hn => by rw [hoth b2 hn, g4 b2 (by omega), h4 b2 hb hn]⟩
  · have hne : g ≠ b := by
      rcases e8 with e8 | e8
      · omega
      · exact hvb _ _ _ e8
    refine .inr ⟨g, cap, arr, e1, by rw [hoth g hne]; exact e2, e3, e4, e5, e6, e7, e8.imp (fun h => by omega) id, fun b2 hb hn hn' => ?_⟩
    rw [hoth b2 hn', e9 b2 (by omega) hn, h4 b2 hb hn']
theorem wstr_run (b : Nat) (w : World) (adr v : Value) (l s : List UInt8) (hw : w.heap[b]? = some (.cells #[adr, v] 90 (0, 0))) (ha : adr = .pointer none ∨ adr = .pointer (some ⟨b, 0, none⟩)) (hv : RowB w v l) (hvb : ∀ g n c, v = .slice (some ⟨g, 0, none⟩) n c → g ≠ b) (hl : (l ++ s).length ≤ 140737488355328) :
    Calls Tryd.prog 36 #[.pointer (some ⟨b, 0, none⟩), .string ⟨s.toArray⟩] w fun e w' => e = .returned (.tuple #[.int .i64 s.length, .nilIface]) ∧ Wrote w w' b v l (l ++ s) := by
  obtain ⟨i, z, hi, hz, i1, i2, i3⟩ := byte_info
  have hlt : b < w.heap.size := lt_of_heap hw
  have e240 : ∀ args w, (callFunc 49 args).run Tryd.prog w = .ok (.enter 49 args) w := enters_of Tryd.func49 (by kernel_rfl) rfl
  have hsz : (⟨s.toArray⟩ : ByteArray).size = s.length := by simp [ByteArray.size]
  go_enter Tryd.func36, Tryd.ntmps36
  go_wp2_with (go_at_fn 49; refine (copy_any b w adr v hw ha).mono ?_)
  rintro e w1 ⟨rfl, h1, h2, h3, h4⟩
  have c0 : w1.cell? ⟨b, 0, none⟩ = some (.pointer (some ⟨b, 0, none⟩)) := by rw [Lib.cell_of_heap h3]; rfl
  have c1 : w1.cell? ⟨b, 1, none⟩ = some v := by rw [Lib.cell_of_heap h3]; rfl
  have hv1 := rowB_other hv hvb h4
  go_wp2_with (at_builtin; refine wpList_append_bld rfl _ _ 88 9 rfl (by kernel_rfl) hi hz i1 i2 i3 rfl rfl hl (by have := Src.ofString (P := Tryd.prog) (w := w1) (tx := 9) (by kernel_rfl) (⟨s.toArray⟩ : ByteArray); rw [hsz] at this; exact this) hv1 ?_)
  intro v' w2 hg
  have hb2 : w2.heap[b]? = some (.cells #[.pointer (some ⟨b, 0, none⟩), v] 90 (0, 0)) := by
    rcases hg.2.2 with ⟨_, _, g4⟩ | ⟨g, cap, arr, _, e2, _, _, _, _, _, e8, e9⟩
    · rw [g4 b (by omega)]; exact h3
    · have hne : b ≠ g := by
        rcases e8 with e8 | e8
        · omega
        · exact (hvb _ _ _ e8).symm
      rw [e9 b (by omega) hne]; exact h3
  have d0 : w2.cell? ⟨b, 0, none⟩ = some (.pointer (some ⟨b, 0, none⟩)) := by rw [Lib.cell_of_heap hb2]; rfl
  have d1 : w2.cell? ⟨b, 1, none⟩ = some v := by rw [Lib.cell_of_heap hb2]; rfl
  have f1 : w2.frozen? ⟨b, 1, none⟩ = false := Lib.frozen_of_heap hb2 1
  have hone : v'.oneCell' = true := by
    rcases hg.2.2 with ⟨rfl, _⟩ | ⟨g, cap, arr, rfl, _⟩
    · rcases hv with ⟨rfl, _⟩ | ⟨_, _, _, rfl, _⟩ <;> rfl
    · rfl
  obtain ⟨ao, n', cap, rfl⟩ : ∃ ao n' cap, v' = .slice ao n' cap := by
    rcases hg.2.2 with ⟨rfl, _⟩ | ⟨g, cap, arr, rfl, _⟩
    · rcases hv with ⟨rfl, _⟩ | ⟨_, _, _, rfl, _⟩ <;> exact ⟨_, _, _, rfl⟩
    · exact ⟨_, _, _, rfl⟩
  go_wp2
  go_ret2
  exact ⟨by simp [hsz], wrote_of hlt hvb h1 (by omega) h3 (fun b2 _ h => h4 b2 h) hg rfl⟩
theorem uns_none (W : World) (q : Option Addr) : (Builtin.unsafeString_ #[112, 3] 9 #[.pointer q, .int .i64 0]).run Tryd.prog W = .ok (.string .empty) W :=
  Lib.run_unsafeString_none W _ _ _ q
theorem bstr_run (b : Nat) (w : World) (adr v : Value) (l : List UInt8) (hw : w.heap[b]? = some (.cells #[adr, v] 90 (0, 0))) (hv : RowB w v l) (hlen : l.length ≤ 140737488355328) :
    Calls Tryd.prog 38 #[.pointer (some ⟨b, 0, none⟩)] w fun e w' => e = .returned (.string ⟨l.toArray⟩) ∧ oof w' = oof w ∧ w'.heap.size = w.heap.size ∧
      ((∀ b2 : Nat, w'.heap[b2]? = w.heap[b2]?) ∨ ∃ (g cap : Nat) (arr : Array Value) (fr : Nat × Nat), v = .slice (some ⟨g, 0, none⟩) l.length cap ∧ w.heap[g]? = some (.cells arr 5 (0, 0)) ∧ w'.heap[g]? = some (.cells arr 5 fr) ∧ ∀ b2 : Nat, b2 ≠ g → w'.heap[b2]? = w.heap[b2]?) := by
  have mixed : Tryd.prog.follows Departure.mixedOrders = true := by kernel_rfl
  rcases hv with ⟨rfl, rfl⟩ | ⟨g, cap, arr, rfl, h1, h2, h3, h4, h5, h6⟩
  · have hUS := uns_none
    have c1 : w.drew.cell? ⟨b, 1, none⟩ = some (.slice none 0 0) := by
      have : w.drew.heap[b]? = some (.cells #[adr, .slice none 0 0] 90 (0, 0)) := hw
      rw [Lib.cell_of_heap this]; rfl
    have hSD : (Builtin.unsafeSliceData_ #[88] 112 #[.slice none 0 0]).run Tryd.prog w.drew = .ok (.pointer none) w.drew := rfl
    go_enter Tryd.func38, Tryd.ntmps38
    go_wp2
    go_region_o
    all_goals (go_wp2; go_ret; exact ⟨rfl, rfl, rfl, .inl fun _ => rfl⟩)
  · by_cases hl : l = []
    · subst hl
      have hUS := uns_none
      have c1 : w.drew.cell? ⟨b, 1, none⟩ = some (.slice (some ⟨g, 0, none⟩) 0 cap) := by
        have : w.drew.heap[b]? = some (.cells #[adr, .slice (some ⟨g, 0, none⟩) 0 cap] 90 (0, 0)) := hw
        rw [Lib.cell_of_heap this]; rfl
      have hSD : (Builtin.unsafeSliceData_ #[88] 112 #[.slice (some ⟨g, 0, none⟩) 0 cap]).run Tryd.prog w.drew = .ok (.pointer (some ⟨g, 0, none⟩)) w.drew :=
        Lib.run_unsafeSliceData_row _ _ _ _ _ _ (by omega)
      go_enter Tryd.func38, Tryd.ntmps38
      go_wp2
      go_region_o
      all_goals (go_wp2; go_ret; exact ⟨rfl, rfl, rfl, .inl fun _ => rfl⟩)
    · have c1 : w.drew.cell? ⟨b, 1, none⟩ = some (.slice (some ⟨g, 0, none⟩) l.length cap) := by
        have : w.drew.heap[b]? = some (.cells #[adr, .slice (some ⟨g, 0, none⟩) l.length cap] 90 (0, 0)) := hw
        rw [Lib.cell_of_heap this]; rfl
      have hSD : (Builtin.unsafeSliceData_ #[88] 112 #[.slice (some ⟨g, 0, none⟩) l.length cap]).run Tryd.prog w.drew = .ok (.pointer (some ⟨g, 0, none⟩)) w.drew :=
        Lib.run_unsafeSliceData_row _ _ _ _ _ _ (by omega)
      have hUS : (Builtin.unsafeString_ #[112, 3] 9 #[.pointer (some ⟨g, 0, none⟩), .int .i64 l.length]).run Tryd.prog w.drew = .ok (.string ⟨l.toArray⟩) (w.drew.freeze ⟨g, 0, none⟩ l.length) := by
        refine Lib.run_unsafeString_row w.drew 112 3 9 5 (by kernel_rfl) (by kernel_rfl) g arr.size (by have hg' : w.drew.heap[g]? = some (.cells arr 5 (0, 0)) := h1; simp [World.shape?, hg']) l hl (by omega) (by omega) ?_
        intro j x hx
        have hg' : w.drew.heap[g]? = some (.cells arr 5 (0, 0)) := h1
        have hb : (bytesV l)[j]? = some (.int .u8 (x.toNat : Int)) := by simp [bytesV, hx]
        rw [← h3, List.getElem?_take] at hb
        split at hb
        · rw [Array.getElem?_toList] at hb
          simp [World.cell?, Addr.add_lit, hg', hb]
        · cases hb
      have hll : l.length ≠ 0 := by simpa using hl
      have hfr : ∃ fr, (w.drew.freeze ⟨g, 0, none⟩ l.length).heap[g]? = some (.cells arr 5 fr) := by
        have hg' : w.drew.heap[g]? = some (.cells arr 5 (0, 0)) := h1
        simp [World.freeze, hll, Array.getElem?_modify, hg']
      have hot : ∀ b2, b2 ≠ g → (w.drew.freeze ⟨g, 0, none⟩ l.length).heap[b2]? = w.heap[b2]? := fun b2 h => by
        have : g ≠ b2 := fun e => h e.symm
        simp [World.freeze, hll, Array.getElem?_modify, this]
        rfl
      have hoo : oof (w.drew.freeze ⟨g, 0, none⟩ l.length) = oof w := by simp [World.freeze, hll, oof]; exact ⟨rfl, rfl⟩
      have hsz : (w.drew.freeze ⟨g, 0, none⟩ l.length).heap.size = w.heap.size := by simp [World.freeze, hll]
      go_enter Tryd.func38, Tryd.ntmps38
      go_wp2
      go_region_o
      all_goals (go_wp2; go_ret; exact ⟨rfl, hoo, hsz, .inr (by obtain ⟨fr, h⟩ := hfr; exact ⟨g, cap, arr, fr, rfl, h1, h, hot⟩)⟩)
theorem bld_open {A A' : Key → Option O} {Γ : G} {w : World} {xs : List V} {k : Key} {l : List UInt8} {T : TypeId} {v0 : Value} (c : Conc Γ w (S.start xs A')) (hA' : ∀ k o, A k = some o → A' k = some o) (hA : A k = some (.it l T)) (h0 : RepV Γ (.ptr (.g k) [] tBld) v0) :
    ∃ b adr v, v0 = .pointer (some ⟨b, 0, none⟩) ∧ (S.start xs A').obj (.g k) = some (.it l T) ∧ Γ.ι (.g k) = some (b, tBld) ∧ w.heap[b]? = some (.cells #[adr, v] T (0, 0)) ∧ (adr = .pointer none ∨ adr = .pointer (some ⟨b, 0, none⟩)) ∧ l.length ≤ 140737488355328 ∧ RowB w v l ∧ (∀ g n c, v = .slice (some ⟨g, 0, none⟩) n c → g ≠ b) ∧ OneC [adr, v] ∧
      ((v = .slice none 0 0 ∧ l = []) ∨ ∃ g cap, v = .slice (some ⟨g, 0, none⟩) l.length cap ∧ Γ.H g = some (bytesV l) ∧ Γ.κ g = some (.home (.g k) .bld, cap) ∧ l.length ≤ cap ∧ cap ≤ maxLen ∧ 0 < cap) := by
  have hobj : (S.start xs A').obj (.g k) = some (.it l T) := hA' _ _ hA
  obtain ⟨b, τ0, off, h1, h2, hpv⟩ := repV_ptr h0
  have e : (off, tBld) = (0, τ0) := by simpa [Ty.walk] using h2.symm
  cases e
  obtain ⟨b', adr, v, i1, i2, i3, i4, i5, i6, i7⟩ := c.own h1 hobj
  rw [h1] at i1; cases i1
  refine ⟨b, adr, v, hpv, hobj, h1, i4, i5, i6, c.bldRow i7, fun g n cc hv => ?_, ?_, i7⟩
  · intro e
    subst e
    rcases i7 with ⟨h, _⟩ | ⟨g, cap, h, q, _⟩
    · rw [hv] at h; cases h
    · rw [hv] at h; cases h
      rw [i2] at q; cases q
  · have ha : adr.oneCell' = true := by rcases i5 with rfl | rfl <;> rfl
    have hv : v.oneCell' = true := by rcases i7 with ⟨rfl, _⟩ | ⟨g, cap, rfl, _⟩ <;> rfl
    intro u hu
    simp at hu
    rcases hu with rfl | rfl
    · exact ha
    · exact hv
theorem wrote_conc {Γ : G} {w w' : World} {s : S} (c : Conc Γ w s) {k : Key} {l l' : List UInt8} {b : Nat} {adr v : Value} (ho : s.obj k = some (.it l 90)) (hι : Γ.ι k = some (b, tBld)) (hw : w.heap[b]? = some (.cells #[adr, v] 90 (0, 0)))
    (hv : (v = .slice none 0 0 ∧ l = []) ∨ ∃ g cap, v = .slice (some ⟨g, 0, none⟩) l.length cap ∧ Γ.H g = some (bytesV l) ∧ Γ.κ g = some (.home k .bld, cap) ∧ l.length ≤ cap ∧ cap ≤ maxLen ∧ 0 < cap) (hlen : l'.length ≤ 140737488355328) (hpre : ∃ m, l' = l ++ m) (h : Wrote w w' b v l l') :
    ∃ Γ', GLe Γ Γ' ∧ Pres Γ Γ' ∧ Conc Γ' w' { s with loc := (k, .it l' 90) :: s.loc } := by
  obtain ⟨h1, h2, v', h3, h4⟩ := h
  exact c.bldTo ho hι hw hv h1 h2 h3 (.inr rfl) hlen hpre h4
theorem wstr_calls {A : Key → Option O} {k : Key} {l : List UInt8} (hA : A k = some (.it l 90)) (c : C) (hl : (l ++ c.toStr).length ≤ 140737488355328) :
    DCalls (X0 gl0) 36 [.ptr (.g k) [] tBld, .d .str c] A (.tup [.d (.int .i64) (.int c.toStr.length), .d .iface .nil]) [(.g k, .it (l ++ c.toStr) 90)] := by
  intro A' Γ w args hA' hg hc hn hr
  obtain ⟨cc, hok⟩ := hc
  have hs : args.size = 2 := hn.symm
  obtain ⟨b, adr, v, hpv, hobj, hι, hw, ha, hll, hrow, hvb, h1c, hv⟩ := bld_open cc hA' hA (hr 0 _ _ rfl (Array.getElem?_eq_getElem (by omega)))
  obtain ⟨e1, _, _⟩ := repV_str (hr 1 _ _ rfl (Array.getElem?_eq_getElem (by omega)))
  have ea : args = #[.pointer (some ⟨b, 0, none⟩), .string ⟨c.toStr.toArray⟩] := by
    apply Array.ext
    · simpa using hs
    · intro i h1 h2
      match i with
      | 0 => simpa using hpv
      | 1 => simpa using e1
      | i + 2 => omega
  rw [ea]
  refine (wstr_run b w adr v l c.toStr hw ha hrow hvb hl).mono fun e w' he => ?_
  obtain ⟨he1, he2⟩ := he
  obtain ⟨Γ', g1, g2, g3⟩ := wrote_conc cc hobj hι hw hv hl ⟨_, rfl⟩ he2
  refine ⟨_, Γ', he1, g1, g3.congr (fun _ => rfl) (fun _ => rfl) (fun _ h => h), ?_⟩
  have m1 : IntKind.i64.min = -9223372036854775808 := by decide
  have m2 : IntKind.i64.max = 9223372036854775807 := by decide
  rw [List.length_append] at hl
  show RepV Γ' (.tup [.d (.int .i64) (.int (c.toStr.length : Int)), .d .iface .nil]) (.tuple #[.int .i64 (c.toStr.length : Int), .nilIface])
  refine ⟨#[.int .i64 (c.toStr.length : Int), .nilIface], rfl, ?_⟩
  show RepCaps Γ' [.d (.int .i64) (.int (c.toStr.length : Int)), .d .iface .nil] [.int .i64 (c.toStr.length : Int), .nilIface]
  simp only [RepCaps]
  refine ⟨_, _, rfl, ?_, rfl, _, _, rfl, ?_, rfl, rfl⟩
  · show RepX Γ' none [] (.d (.int .i64) (.int (c.toStr.length : Int))) [.int .i64 (c.toStr.length : Int)]
    have q : RepV Γ' (.d (.int .i64) (.int (c.toStr.length : Int))) (.int .i64 (c.toStr.length : Int)) := repV_mk_int (by omega) (by omega)
    simpa only [RepX, Value.cells] using (repV_d.1 q).1
  · show RepX Γ' none [] (.d .iface .nil) [.nilIface]
    have q : RepV Γ' (.d .iface .nil) .nilIface := repV_d.2 ⟨by simp [RepC, Value.cells], rfl⟩
    simpa only [RepX, Value.cells] using (repV_d.1 q).1
noncomputable def bld_WriteString_g (_ : Nat) {R : Type} : OvG R := fun xs A K => match xs with
  | [.ptr (.g k) [] τ, .d .str c] => (match A k with
    | some (.it l T) => if Ty.beq τ tBld = true ∧ T = 90 ∧ (l ++ c.toStr).length ≤ 140737488355328 then K (.tup [.d (.int .i64) (.int c.toStr.length), .d .iface .nil]) [(.g k, .it (l ++ c.toStr) 90)] else none
    | _ => none)
  | _ => none
theorem bld_WriteString_ok (N : Nat) {R : Type} : GOk (X0 gl0) 36 (bld_WriteString_g N (R := R)) := by
  intro xs A Kr r hr
  unfold bld_WriteString_g at hr
  split at hr
  · split at hr
    · rename_i hA
      simp only [Option.ite_none_right_eq_some] at hr
      obtain ⟨⟨h1, rfl, h3⟩, hr⟩ := hr
      rw [(Ty.beq_iff _ _).1 h1]
      exact ⟨_, _, wstr_calls hA _ h3, hr⟩
    · cases hr
  · cases hr
theorem bstr_calls {A : Key → Option O} {k : Key} {l : List UInt8} (hA : A k = some (.it l 90)) :
    DCalls (X0 gl0) 38 [.ptr (.g k) [] tBld] A (.d .str (.str l)) [(.g k, .box (.top tBld))] := by
  intro A' Γ w args hA' hg hc hn hr
  obtain ⟨cc, hok⟩ := hc
  have hs : args.size = 1 := hn.symm
  obtain ⟨b, adr, v, hpv, hobj, hι, hw, ha, hll, hrow, hvb, h1c, hv⟩ := bld_open cc hA' hA (hr 0 _ _ rfl (Array.getElem?_eq_getElem (by omega)))
  have ea : args = #[.pointer (some ⟨b, 0, none⟩)] := by
    apply Array.ext
    · simpa using hs
    · intro i h1 h2
      match i with
      | 0 => simpa using hpv
      | i + 1 => omega
  rw [ea]
  refine (bstr_run b w adr v l hw hrow hll).mono fun e w' he => ?_
  obtain ⟨he1, he2, he3, he4⟩ := he
  have key : ∃ Γ', GLe Γ Γ' ∧ Pres Γ Γ' ∧ Conc Γ' w' { S.start [.ptr (.g k) [] tBld] A' with loc := (.g k, .box (.top tBld)) :: (S.start [.ptr (.g k) [] tBld] A').loc } := by
    rcases he4 with h | ⟨g, cap, arr, fr, h1, h2, h3, h4⟩
    · exact cc.bldEnd hobj hι hw h1c he2 (by omega) none (fun g h => by cases h) fun b2 _ _ => h b2
    · refine cc.bldEnd hobj hι hw h1c he2 (by omega) (some g) (fun g' h => ?_) fun b2 _ h => h4 b2 fun e => h (by rw [e])
      cases h
      refine ⟨?_, arr, 5, fr, h2, h3⟩
      rcases hv with ⟨q, _⟩ | ⟨g2, cap2, q, _, q3, _⟩
      · rw [h1] at q; cases q
      · rw [h1] at q; cases q
        exact ⟨_, q3⟩
  obtain ⟨Γ', g1, g2, g3⟩ := key
  refine ⟨_, Γ', he1, g1, g3.congr (fun _ => rfl) (fun _ => rfl) (fun _ h => h), ?_⟩
  exact repV_mk_str hll
noncomputable def bld_String_g (_ : Nat) {R : Type} : OvG R := fun xs A K => match xs with
  | [.ptr (.g k) [] τ] => (match A k with
    | some (.it l T) => if Ty.beq τ tBld = true ∧ T = 90 then K (.d .str (.str l)) [(.g k, .box (.top tBld))] else none
    | _ => none)
  | _ => none
theorem bld_String_ok (N : Nat) {R : Type} : GOk (X0 gl0) 38 (bld_String_g N (R := R)) := by
  intro xs A Kr r hr
  unfold bld_String_g at hr
  split at hr
  · split at hr
    · rename_i hA
      simp only [Option.ite_none_right_eq_some] at hr
      obtain ⟨⟨h1, rfl⟩, hr⟩ := hr
      rw [(Ty.beq_iff _ _).1 h1]
      exact ⟨_, _, bstr_calls hA, hr⟩
    · cases hr
  · cases hr
end Go.Proofs.YtefppgmopnnphaaDoor


namespace Go.Proofs.YtefppgmopnnphaaDoor
open Go Go.E
set_option maxRecDepth 100000
set_option maxHeartbeats 4000000
set_option linter.unusedVariables false
noncomputable def law30_to_hs : Hints := [([1, 0, 1, 1], ⟨[], [(3, .sl 32 tEntry3 5003)], [], [], [], []⟩),
    ([4, 1, 0, 1, 1], ⟨[9, 10], [(3, .sl 32 tEntry3 5003), (11, .d (.int .i64))], [], [], [], []⟩),
    ([1, 0, 1, 1, 4, 0, 1, 1, 5, 4, 1, 0, 1, 1], ⟨[6, 9, 10, 11], [(3, .sl 32 tEntry3 5003)], [], [(.l 6, .box (.agg tEntry3 [.d (.int .u64), (.ts 32 tPost)]))], [], []⟩),
    ([4, 1, 0, 1, 1, 4, 0, 1, 1, 5, 4, 1, 0, 1, 1], ⟨[6, 9, 10, 11, 19, 20], [(3, .sl 32 tEntry3 5003), (21, .d (.int .i64))], [], [(.l 6, .box (.agg tEntry3 [.d (.int .u64), (.ts 32 tPost)]))], [], []⟩),
    ([9], ⟨[], [(2, .sl 32 tEntry3 5002)], [], [], [], []⟩)]
noncomputable def law30_to_ov (N : Nat) : OvS (X0 gl0) where
  g R := []
  ok := fun R => fun _ h => nomatch h
noncomputable def law30_to_l1 {R : Type} (N : Nat) (k4 : KD R) : KD R → List C → List Es → Option R := (fun k5 d2 m2 => (bif decide (C.toInt (dk d2 6) < C.toInt (dk d2 4)) then (if 0 ≤ C.toInt (dk d2 6) ∧ C.toInt (dk d2 6) < (↑(List.length (C.elems (dk d2 3))) : Int) then (bif Nat.beq (List.length (C.elems (dk d2 8))) (List.length (C.elems (dk d2 8))) then (if (List.length (C.elems (dk d2 8)) + 1) * 32 ≤ 140737488355328 ∧ List.length (C.elems (dk d2 8)) + 1 ≤ 9223372036854775807 then (bif Nat.beq (List.length (C.elems (dk d2 8)) + 1) (List.length (C.elems (dk d2 8) ++ [C.set (C.set (C.set (C.agg [C.str [], C.int 0, C.bool false]) 0 (C.get (List.getD (C.elems (dk d2 3)) (Int.toNat (C.toInt (dk d2 6))) C.nil) 0)) 1 (C.get (List.getD (C.elems (dk d2 3)) (Int.toNat (C.toInt (dk d2 6))) C.nil) 1)) 2 (C.get (List.getD (C.elems (dk d2 3)) (Int.toNat (C.toInt (dk d2 6))) C.nil) 2)])) then (bif Nat.beq (List.length (C.elems (dk d2 5))) (List.length (C.elems (dk d2 5))) then (k5 [dk d2 0, dk d2 1, dk d2 2, dk d2 3, dk d2 4, C.slice (C.elems (dk d2 5)), C.int (IntKind.wrap IntKind.i64 (C.toInt (dk d2 6) + 1)), dk d2 7, C.slice (C.elems (dk d2 8) ++ [C.set (C.set (C.set (C.agg [C.str [], C.int 0, C.bool false]) 0 (C.get (List.getD (C.elems (dk d2 3)) (Int.toNat (C.toInt (dk d2 6))) C.nil) 0)) 1 (C.get (List.getD (C.elems (dk d2 3)) (Int.toNat (C.toInt (dk d2 6))) C.nil) 1)) 2 (C.get (List.getD (C.elems (dk d2 3)) (Int.toNat (C.toInt (dk d2 6))) C.nil) 2)])] []) else none) else none) else none) else none) else none) else (bif Nat.beq (List.length (C.elems (dk d2 5))) (List.length (C.elems (dk d2 5))) then (k4 [dk d2 0, dk d2 1, dk d2 2, C.slice (C.elems (dk d2 5)), dk d2 7, C.slice (C.elems (dk d2 8))] []) else none)))
noncomputable def law30_to_l2 {R : Type} (N : Nat) (k2 : KD R) : KD R → List C → List Es → Option R := (fun k3 d1 m1 => (bif decide (C.toInt (dk d1 3) < C.toInt (dk d1 1)) then (if 0 ≤ C.toInt (dk d1 3) ∧ C.toInt (dk d1 3) < (↑(List.length (C.elems (dk d1 0))) : Int) then (jn (fun d2 m2 => (bif Nat.beq (List.length (C.elems (dk d2 3))) (List.length (C.elems (dk d2 3))) then (if (List.length (C.elems (dk d2 3)) + 1) * 32 ≤ 140737488355328 ∧ List.length (C.elems (dk d2 3)) + 1 ≤ 9223372036854775807 then (bif Nat.beq (List.length (C.elems (dk d2 3)) + 1) (List.length (C.elems (dk d2 3) ++ [C.agg [dk d2 4, C.slice (C.elems (dk d2 5))]])) then (k3 [dk d2 0, dk d2 1, C.slice (C.elems (dk d2 3) ++ [C.agg [dk d2 4, C.slice (C.elems (dk d2 5))]]), C.int (IntKind.wrap IntKind.i64 (C.toInt (dk d2 2) + 1))] []) else none) else none) else none)) (fun k4 => (bif Nat.beq (List.length (C.elems (dk d1 2))) (List.length (C.elems (dk d1 2))) then (loopK N (law30_to_l1 N k4) [dk d1 0, dk d1 1, dk d1 3, C.get (List.getD (C.elems (dk d1 0)) (Int.toNat (C.toInt (dk d1 3))) C.nil) 1, C.int (↑(List.length (C.elems (C.get (List.getD (C.elems (dk d1 0)) (Int.toNat (C.toInt (dk d1 3))) C.nil) 1))) : Int), C.slice (C.elems (dk d1 2)), C.int 0, C.get (List.getD (C.elems (dk d1 0)) (Int.toNat (C.toInt (dk d1 3))) C.nil) 0, C.slice []] []) else none))) else none) else (bif Nat.beq (List.length (C.elems (dk d1 2))) (List.length (C.elems (dk d1 2))) then (k2 [C.slice (C.elems (dk d1 2))] []) else none)))
noncomputable def law30_to_p0 {R : Type} (N : Nat) (a0 : C) (k1 : KD R) : Option R := (jn (fun d1 m1 => (bif Nat.beq (List.length (C.elems (dk d1 0))) (List.length (C.elems (dk d1 0))) then (k1 [C.slice (C.elems (dk d1 0))] []) else none)) (fun k2 => (loopK N (law30_to_l2 N k2) [a0, C.int (↑(List.length (C.elems a0)) : Int), C.slice [], C.int 0] [])))
noncomputable def law30_to_p {R : Type} (N : Nat) : C → KD R → Option R := lid "law30_to_p N" (law30_to_p0 N)
theorem law30_to_pe {R : Type} (N : Nat) (a0 : C) (k : KD R) : law30_to_p N a0 k = law30_to_p0 N a0 k := by unfold law30_to_p; rw [lid_eq]
theorem law30_to_run {R : Type} (N : Nat) (a0 : C) (K : V → List (Key × O) → Option R) : exF (X0 gl0) ((law30_to_ov N).ov R) extX noX (fun f => bif Nat.beq f 10 then law30_to_hs else []) N 400 8 10 [.d (.slice 32 tEntry3) a0] A0 K =
    law30_to_p N a0 (fun d1 m1 => K (V.ts 32 tEntry3 (C.elems (dk d1 0))) []) := by
  rw [law30_to_pe]
  exact (show _ = jn (fun d1 m1 => (bif Nat.beq (List.length (C.elems (dk d1 0))) (List.length (C.elems (dk d1 0))) then
    (K (V.ts 32 tEntry3 (C.elems (dk d1 0))) [])
  else
    none)) (law30_to_p0 N a0) by kernel_rfl).trans ((jn_eq _ _).trans (congrArg (law30_to_p0 N a0) (funext fun _ => funext fun _ => by simp only [Nat.beq_refl, cond_true])))
noncomputable def law30_to_g (N : Nat) {R : Type} : OvG R := fun xs _ K => match xs with
  | [.d t0 a0] => if t0 = (.slice 32 tEntry3) then law30_to_p N a0 (fun d1 m1 => K (V.ts 32 tEntry3 (C.elems (dk d1 0))) []) else none
  | _ => none
theorem law30_to_ok (N : Nat) {R : Type} : GOk (X0 gl0) 10 (law30_to_g N (R := R)) := by
  intro xs A Kr r hr
  unfold law30_to_g at hr
  split at hr
  · simp only [Option.ite_none_right_eq_some] at hr
    obtain ⟨hty, hr⟩ := hr
    subst hty
    rw [← law30_to_run] at hr
    obtain ⟨v, L, h1, h2⟩ := exF_ok (ok0 gl0) (mo gl0) ((law30_to_ov N).ov_ok _) (extX_ok gl0) _ _ _ _ _ _ hr
    exact ⟨v, L, h1.mono (leA_none fun _ => rfl), h2⟩
  · cases hr
end Go.Proofs.YtefppgmopnnphaaDoor


namespace Go.Proofs.YtefppgmopnnphaaDoor
open Go Go.E
set_option maxRecDepth 100000
set_option maxHeartbeats 4000000
set_option linter.unusedVariables false
noncomputable def law30_from_hs : Hints := [([1, 0, 1, 1], ⟨[], [(3, .sl 32 tEntry3 5003)], [], [], [], []⟩),
    ([4, 1, 0, 1, 1], ⟨[9, 10], [(3, .sl 32 tEntry3 5003), (11, .d (.int .i64))], [], [], [], []⟩),
    ([1, 0, 1, 1, 4, 0, 1, 1, 5, 4, 1, 0, 1, 1], ⟨[6, 9, 10, 11], [(3, .sl 32 tEntry3 5003)], [], [(.l 6, .box (.agg tEntry3 [.d (.int .u64), (.ts 32 tPost)]))], [], []⟩),
    ([4, 1, 0, 1, 1, 4, 0, 1, 1, 5, 4, 1, 0, 1, 1], ⟨[6, 9, 10, 11, 19, 20], [(3, .sl 32 tEntry3 5003), (21, .d (.int .i64))], [], [(.l 6, .box (.agg tEntry3 [.d (.int .u64), (.ts 32 tPost)]))], [], []⟩),
    ([9], ⟨[], [(2, .sl 32 tEntry3 5002)], [], [], [], []⟩)]
noncomputable def law30_from_ov (N : Nat) : OvS (X0 gl0) where
  g R := []
  ok := fun R => fun _ h => nomatch h
noncomputable def law30_from_l1 {R : Type} (N : Nat) (k4 : KD R) : KD R → List C → List Es → Option R := (fun k5 d2 m2 => (bif decide (C.toInt (dk d2 6) < C.toInt (dk d2 4)) then (if 0 ≤ C.toInt (dk d2 6) ∧ C.toInt (dk d2 6) < (↑(List.length (C.elems (dk d2 3))) : Int) then (bif Nat.beq (List.length (C.elems (dk d2 8))) (List.length (C.elems (dk d2 8))) then (if (List.length (C.elems (dk d2 8)) + 1) * 32 ≤ 140737488355328 ∧ List.length (C.elems (dk d2 8)) + 1 ≤ 9223372036854775807 then (bif Nat.beq (List.length (C.elems (dk d2 8)) + 1) (List.length (C.elems (dk d2 8) ++ [C.set (C.set (C.set (C.agg [C.str [], C.int 0, C.bool false]) 0 (C.get (List.getD (C.elems (dk d2 3)) (Int.toNat (C.toInt (dk d2 6))) C.nil) 0)) 1 (C.get (List.getD (C.elems (dk d2 3)) (Int.toNat (C.toInt (dk d2 6))) C.nil) 1)) 2 (C.get (List.getD (C.elems (dk d2 3)) (Int.toNat (C.toInt (dk d2 6))) C.nil) 2)])) then (bif Nat.beq (List.length (C.elems (dk d2 5))) (List.length (C.elems (dk d2 5))) then (k5 [dk d2 0, dk d2 1, dk d2 2, dk d2 3, dk d2 4, C.slice (C.elems (dk d2 5)), C.int (IntKind.wrap IntKind.i64 (C.toInt (dk d2 6) + 1)), dk d2 7, C.slice (C.elems (dk d2 8) ++ [C.set (C.set (C.set (C.agg [C.str [], C.int 0, C.bool false]) 0 (C.get (List.getD (C.elems (dk d2 3)) (Int.toNat (C.toInt (dk d2 6))) C.nil) 0)) 1 (C.get (List.getD (C.elems (dk d2 3)) (Int.toNat (C.toInt (dk d2 6))) C.nil) 1)) 2 (C.get (List.getD (C.elems (dk d2 3)) (Int.toNat (C.toInt (dk d2 6))) C.nil) 2)])] []) else none) else none) else none) else none) else none) else (bif Nat.beq (List.length (C.elems (dk d2 5))) (List.length (C.elems (dk d2 5))) then (k4 [dk d2 0, dk d2 1, dk d2 2, C.slice (C.elems (dk d2 5)), dk d2 7, C.slice (C.elems (dk d2 8))] []) else none)))
noncomputable def law30_from_l2 {R : Type} (N : Nat) (k2 : KD R) : KD R → List C → List Es → Option R := (fun k3 d1 m1 => (bif decide (C.toInt (dk d1 3) < C.toInt (dk d1 1)) then (if 0 ≤ C.toInt (dk d1 3) ∧ C.toInt (dk d1 3) < (↑(List.length (C.elems (dk d1 0))) : Int) then (jn (fun d2 m2 => (bif Nat.beq (List.length (C.elems (dk d2 3))) (List.length (C.elems (dk d2 3))) then (if (List.length (C.elems (dk d2 3)) + 1) * 32 ≤ 140737488355328 ∧ List.length (C.elems (dk d2 3)) + 1 ≤ 9223372036854775807 then (bif Nat.beq (List.length (C.elems (dk d2 3)) + 1) (List.length (C.elems (dk d2 3) ++ [C.agg [dk d2 4, C.slice (C.elems (dk d2 5))]])) then (k3 [dk d2 0, dk d2 1, C.slice (C.elems (dk d2 3) ++ [C.agg [dk d2 4, C.slice (C.elems (dk d2 5))]]), C.int (IntKind.wrap IntKind.i64 (C.toInt (dk d2 2) + 1))] []) else none) else none) else none)) (fun k4 => (bif Nat.beq (List.length (C.elems (dk d1 2))) (List.length (C.elems (dk d1 2))) then (loopK N (law30_from_l1 N k4) [dk d1 0, dk d1 1, dk d1 3, C.get (List.getD (C.elems (dk d1 0)) (Int.toNat (C.toInt (dk d1 3))) C.nil) 1, C.int (↑(List.length (C.elems (C.get (List.getD (C.elems (dk d1 0)) (Int.toNat (C.toInt (dk d1 3))) C.nil) 1))) : Int), C.slice (C.elems (dk d1 2)), C.int 0, C.get (List.getD (C.elems (dk d1 0)) (Int.toNat (C.toInt (dk d1 3))) C.nil) 0, C.slice []] []) else none))) else none) else (bif Nat.beq (List.length (C.elems (dk d1 2))) (List.length (C.elems (dk d1 2))) then (k2 [C.slice (C.elems (dk d1 2))] []) else none)))
noncomputable def law30_from_p0 {R : Type} (N : Nat) (a0 : C) (k1 : KD R) : Option R := (jn (fun d1 m1 => (bif Nat.beq (List.length (C.elems (dk d1 0))) (List.length (C.elems (dk d1 0))) then (k1 [C.slice (C.elems (dk d1 0))] []) else none)) (fun k2 => (loopK N (law30_from_l2 N k2) [a0, C.int (↑(List.length (C.elems a0)) : Int), C.slice [], C.int 0] [])))
noncomputable def law30_from_p {R : Type} (N : Nat) : C → KD R → Option R := lid "law30_from_p N" (law30_from_p0 N)
theorem law30_from_pe {R : Type} (N : Nat) (a0 : C) (k : KD R) : law30_from_p N a0 k = law30_from_p0 N a0 k := by unfold law30_from_p; rw [lid_eq]
theorem law30_from_run {R : Type} (N : Nat) (a0 : C) (K : V → List (Key × O) → Option R) : exF (X0 gl0) ((law30_from_ov N).ov R) extX noX (fun f => bif Nat.beq f 15 then law30_from_hs else []) N 400 8 15 [.d (.slice 32 tEntry3) a0] A0 K =
    law30_from_p N a0 (fun d1 m1 => K (V.ts 32 tEntry3 (C.elems (dk d1 0))) []) := by
  rw [law30_from_pe]
  exact (show _ = jn (fun d1 m1 => (bif Nat.beq (List.length (C.elems (dk d1 0))) (List.length (C.elems (dk d1 0))) then
    (K (V.ts 32 tEntry3 (C.elems (dk d1 0))) [])
  else
    none)) (law30_from_p0 N a0) by kernel_rfl).trans ((jn_eq _ _).trans (congrArg (law30_from_p0 N a0) (funext fun _ => funext fun _ => by simp only [Nat.beq_refl, cond_true])))
noncomputable def law30_from_g (N : Nat) {R : Type} : OvG R := fun xs _ K => match xs with
  | [.d t0 a0] => if t0 = (.slice 32 tEntry3) then law30_from_p N a0 (fun d1 m1 => K (V.ts 32 tEntry3 (C.elems (dk d1 0))) []) else none
  | _ => none
theorem law30_from_ok (N : Nat) {R : Type} : GOk (X0 gl0) 15 (law30_from_g N (R := R)) := by
  intro xs A Kr r hr
  unfold law30_from_g at hr
  split at hr
  · simp only [Option.ite_none_right_eq_some] at hr
    obtain ⟨hty, hr⟩ := hr
    subst hty
    rw [← law30_from_run] at hr
    obtain ⟨v, L, h1, h2⟩ := exF_ok (ok0 gl0) (mo gl0) ((law30_from_ov N).ov_ok _) (extX_ok gl0) _ _ _ _ _ _ hr
    exact ⟨v, L, h1.mono (leA_none fun _ => rfl), h2⟩
  · cases hr
end Go.Proofs.YtefppgmopnnphaaDoor


namespace Go.Proofs.YtefppgmopnnphaaDoor
open Go Go.E
set_option maxRecDepth 100000
set_option maxHeartbeats 4000000
set_option linter.unusedVariables false
noncomputable def law30_light_hs : Hints := [([1, 0, 1, 1], ⟨[0], [(3, .d (.int .i64))], [], [], [], []⟩),
    ([4, 1, 0, 1, 1], ⟨[0, 8, 9], [(3, .d (.int .i64)), (10, .d (.int .i64))], [], [], [], []⟩),
    ([1, 1, 4, 0, 1, 1, 5, 4, 1, 0, 1, 1], ⟨[0, 8, 9, 10], [(3, .d (.int .i64))], [], [], [], []⟩),
    ([4, 1, 1, 4, 0, 1, 1, 5, 4, 1, 0, 1, 1], ⟨[0, 8, 9, 10, 15, 16], [(3, .d (.int .i64)), (17, .d (.int .i64))], [], [], [], []⟩),
    ([0, 1, 1, 1], ⟨[], [(2, .d .bool)], [], [], [], []⟩),
    ([9], ⟨[], [(2, .d .bool)], [], [], [], []⟩)]
noncomputable def law30_light_ov (N : Nat) : OvS (X0 gl0) where
  g R := []
  ok := fun R => fun _ h => nomatch h
noncomputable def law30_light_l1 {R : Type} (N : Nat) (k4 : KD R) : KD R → List C → List Es → Option R := (fun k5 d2 m2 => (bif decide (C.toInt (dk d2 7) < C.toInt (dk d2 5)) then (if 0 ≤ C.toInt (dk d2 7) ∧ C.toInt (dk d2 7) < (↑(List.length (C.elems (dk d2 4))) : Int) then (k5 [dk d2 0, dk d2 1, dk d2 2, dk d2 3, dk d2 4, dk d2 5, C.int (IntKind.wrap IntKind.i64 (C.toInt (dk d2 6) + IntKind.wrap IntKind.i64 (1 + (↑(List.length (C.toStr (C.get (List.getD (C.elems (dk d2 4)) (Int.toNat (C.toInt (dk d2 7))) C.nil) 0))) : Int)))), C.int (IntKind.wrap IntKind.i64 (C.toInt (dk d2 7) + 1))] []) else none) else (k4 [dk d2 0, dk d2 1, dk d2 2, dk d2 3, dk d2 6] [])))
noncomputable def law30_light_l2 {R : Type} (N : Nat) (k2 : KD R) : KD R → List C → List Es → Option R := (fun k3 d1 m1 => (bif decide (C.toInt (dk d1 4) < C.toInt (dk d1 2)) then (if 0 ≤ C.toInt (dk d1 4) ∧ C.toInt (dk d1 4) < (↑(List.length (C.elems (dk d1 1))) : Int) then (jn (fun d2 m2 => (k3 [dk d2 0, dk d2 1, dk d2 2, dk d2 4, C.int (IntKind.wrap IntKind.i64 (C.toInt (dk d2 3) + 1))] [])) (fun k4 => (loopK N (law30_light_l1 N k4) [dk d1 0, dk d1 1, dk d1 2, dk d1 4, C.get (List.getD (C.elems (dk d1 1)) (Int.toNat (C.toInt (dk d1 4))) C.nil) 1, C.int (↑(List.length (C.elems (C.get (List.getD (C.elems (dk d1 1)) (Int.toNat (C.toInt (dk d1 4))) C.nil) 1))) : Int), dk d1 3, C.int 0] []))) else none) else (k2 [dk d1 0, dk d1 3] [])))
noncomputable def law30_light_p0 {R : Type} (N : Nat) (a0 : C) (k1 : KD R) : Option R := (jn (fun d1 m1 => (jn (fun d2 m2 => (k1 [C.bool (C.toBool (dk d2 0))] [])) (fun k2 => (bif decide (C.toInt (dk d1 1) ≤ 5000) then (k2 [C.bool (decide ((↑(List.length (C.elems (dk d1 0))) : Int) ≤ 200))] []) else (k2 [C.bool false] []))))) (fun k2 => (loopK N (law30_light_l2 N k2) [a0, a0, C.int (↑(List.length (C.elems a0)) : Int), C.int 0, C.int 0] [])))
noncomputable def law30_light_p {R : Type} (N : Nat) : C → KD R → Option R := lid "law30_light_p N" (law30_light_p0 N)
theorem law30_light_pe {R : Type} (N : Nat) (a0 : C) (k : KD R) : law30_light_p N a0 k = law30_light_p0 N a0 k := by unfold law30_light_p; rw [lid_eq]
theorem law30_light_run {R : Type} (N : Nat) (a0 : C) (K : V → List (Key × O) → Option R) : exF (X0 gl0) ((law30_light_ov N).ov R) extX noX (fun f => bif Nat.beq f 8 then law30_light_hs else []) N 400 8 8 [.d (.slice 32 tEntry3) a0] A0 K =
    law30_light_p N a0 (fun d1 m1 => K (V.d Ty.bool (C.bool (C.toBool (dk d1 0)))) []) := by
  rw [law30_light_pe]
  exact (show _ = jn (fun d1 m1 => (K (V.d Ty.bool (C.bool (C.toBool (dk d1 0)))) [])) (law30_light_p0 N a0) by kernel_rfl).trans (jn_eq _ _)
noncomputable def law30_light_g (N : Nat) {R : Type} : OvG R := fun xs _ K => match xs with
  | [.d t0 a0] => if t0 = (.slice 32 tEntry3) then law30_light_p N a0 (fun d1 m1 => K (V.d Ty.bool (C.bool (C.toBool (dk d1 0)))) []) else none
  | _ => none
theorem law30_light_ok (N : Nat) {R : Type} : GOk (X0 gl0) 8 (law30_light_g N (R := R)) := by
  intro xs A Kr r hr
  unfold law30_light_g at hr
  split at hr
  · simp only [Option.ite_none_right_eq_some] at hr
    obtain ⟨hty, hr⟩ := hr
    subst hty
    rw [← law30_light_run] at hr
    obtain ⟨v, L, h1, h2⟩ := exF_ok (ok0 gl0) (mo gl0) ((law30_light_ov N).ov_ok _) (extX_ok gl0) _ _ _ _ _ _ hr
    exact ⟨v, L, h1.mono (leA_none fun _ => rfl), h2⟩
  · cases hr
end Go.Proofs.YtefppgmopnnphaaDoor


namespace Go.Proofs.YtefppgmopnnphaaDoor
open Go Go.E
set_option maxRecDepth 100000
set_option maxHeartbeats 4000000
set_option linter.unusedVariables false
noncomputable def money_Add_hs : Hints := [([9], ⟨[], [(4, .d (.int .u64)), (5, .d (.int .i64))], [], [], [], []⟩)]
noncomputable def money_Add_ov (N : Nat) : OvS (X0 gl0) where
  g R := []
  ok := fun R => fun _ h => nomatch h
noncomputable def money_Add_p0 {R : Type} (N : Nat) (a0 a1 : C) (k1 : KD R) : Option R := (bif !decide ((C.toInt a0 + C.toInt a1) / 18446744073709551616 = 0) then (k1 [C.int 0, C.int 11] []) else (k1 [C.int ((C.toInt a0 + C.toInt a1) % 18446744073709551616), C.int 0] []))
noncomputable def money_Add_p {R : Type} (N : Nat) : C → C → KD R → Option R := lid "money_Add_p N" (money_Add_p0 N)
theorem money_Add_pe {R : Type} (N : Nat) (a0 a1 : C) (k : KD R) : money_Add_p N a0 a1 k = money_Add_p0 N a0 a1 k := by unfold money_Add_p; rw [lid_eq]
theorem money_Add_run {R : Type} (N : Nat) (a0 a1 : C) (K : V → List (Key × O) → Option R) : exF (X0 gl0) ((money_Add_ov N).ov R) extX noX (fun f => bif Nat.beq f 30 then money_Add_hs else []) N 400 8 30 [.d (.int .u64) a0, .d (.int .u64) a1] A0 K =
    money_Add_p N a0 a1 (fun d1 m1 => K (V.tup [V.d (Ty.int IntKind.u64) (dk d1 0), V.d (Ty.int IntKind.i64) (dk d1 1)]) []) := by
  rw [money_Add_pe]
  exact (show _ = jn (fun d1 m1 => (K (V.tup [V.d (Ty.int IntKind.u64) (dk d1 0), V.d (Ty.int IntKind.i64) (dk d1 1)]) [])) (money_Add_p0 N a0 a1) by kernel_rfl).trans (jn_eq _ _)
noncomputable def money_Add_g (N : Nat) {R : Type} : OvG R := fun xs _ K => match xs with
  | [.d t0 a0, .d t1 a1] => if t0 = (.int .u64) ∧ t1 = (.int .u64) then money_Add_p N a0 a1 (fun d1 m1 => K (V.tup [V.d (Ty.int IntKind.u64) (dk d1 0), V.d (Ty.int IntKind.i64) (dk d1 1)]) []) else none
  | _ => none
theorem money_Add_ok (N : Nat) {R : Type} : GOk (X0 gl0) 30 (money_Add_g N (R := R)) := by
  intro xs A Kr r hr
  unfold money_Add_g at hr
  split at hr
  · simp only [Option.ite_none_right_eq_some] at hr
    obtain ⟨hty, hr⟩ := hr
    obtain ⟨rfl, rfl⟩ := hty
    rw [← money_Add_run] at hr
    obtain ⟨v, L, h1, h2⟩ := exF_ok (ok0 gl0) (mo gl0) ((money_Add_ov N).ov_ok _) (extX_ok gl0) _ _ _ _ _ _ hr
    exact ⟨v, L, h1.mono (leA_none fun _ => rfl), h2⟩
  · cases hr
end Go.Proofs.YtefppgmopnnphaaDoor


namespace Go.Proofs.YtefppgmopnnphaaDoor
open Go Go.E
set_option maxRecDepth 100000
set_option maxHeartbeats 4000000
set_option linter.unusedVariables false
noncomputable def journal_Entry_sides_hs : Hints := [([1, 0, 1], ⟨[2, 3], [], [], [], [], []⟩),
    ([4, 1, 0, 1], ⟨[2, 3, 9, 10], [(11, .d (.int .i64))], [], [], [], []⟩),
    ([9], ⟨[], [(2, .as (.ptr (.l 2) [] (.int .u64))), (3, .as (.ptr (.l 3) [] (.int .u64))), (4, .d (.int .i64))], [], [(.l 2, .box (.d (.int .u64))), (.l 3, .box (.d (.int .u64)))], [], []⟩)]
noncomputable def journal_Entry_sides_ov (N : Nat) : OvS (X0 gl0) where
  g R := [(30, money_Add_g N)]
  ok := fun R => List.forall_mem_cons.2 ⟨money_Add_ok N, fun _ h => nomatch h⟩
noncomputable def journal_Entry_sides_l1 {R : Type} (N : Nat) (k1 : KD R) (k2 : KD R) : KD R → List C → List Es → Option R := (fun k3 d1 m1 => (bif decide (C.toInt (dk d1 2) < C.toInt (dk d1 1)) then (if 0 ≤ C.toInt (dk d1 2) ∧ C.toInt (dk d1 2) < (↑(List.length (C.elems (dk d1 0))) : Int) then (bif C.toBool (C.get (List.getD (C.elems (dk d1 0)) (Int.toNat (C.toInt (dk d1 2))) C.nil) 2) then (money_Add_p N (dk d1 4) (C.get (List.getD (C.elems (dk d1 0)) (Int.toNat (C.toInt (dk d1 2))) C.nil) 1) (fun d2 m2 => (bif !decide (C.toInt (dk d2 1) = 0) then (k1 [dk d2 1, C.int 0, C.int 0] []) else (k3 [dk d1 0, dk d1 1, C.int (IntKind.wrap IntKind.i64 (C.toInt (dk d1 2) + 1)), dk d1 3, dk d2 0] [])))) else (money_Add_p N (dk d1 3) (C.get (List.getD (C.elems (dk d1 0)) (Int.toNat (C.toInt (dk d1 2))) C.nil) 1) (fun d2 m2 => (bif !decide (C.toInt (dk d2 1) = 0) then (k1 [dk d2 1, C.int 0, C.int 0] []) else (k3 [dk d1 0, dk d1 1, C.int (IntKind.wrap IntKind.i64 (C.toInt (dk d1 2) + 1)), dk d2 0, dk d1 4] []))))) else none) else (k2 [dk d1 3, dk d1 4] [])))
noncomputable def journal_Entry_sides_p0 {R : Type} (N : Nat) (a0 : C) (k1 : KD R) : Option R := (jn (fun d1 m1 => (k1 [C.int 0, dk d1 0, dk d1 1] [])) (fun k2 => (loopK N (journal_Entry_sides_l1 N k1 k2) [C.get a0 1, C.int (↑(List.length (C.elems (C.get a0 1))) : Int), C.int 0, zeroC (Ty.int IntKind.u64), zeroC (Ty.int IntKind.u64)] [])))
noncomputable def journal_Entry_sides_p {R : Type} (N : Nat) : C → KD R → Option R := lid "journal_Entry_sides_p N" (journal_Entry_sides_p0 N)
theorem journal_Entry_sides_pe {R : Type} (N : Nat) (a0 : C) (k : KD R) : journal_Entry_sides_p N a0 k = journal_Entry_sides_p0 N a0 k := by unfold journal_Entry_sides_p; rw [lid_eq]
theorem journal_Entry_sides_run {R : Type} (N : Nat) (a0 : C) (K : V → List (Key × O) → Option R) : exF (X0 gl0) ((journal_Entry_sides_ov N).ov R) extX (fun f r => bif Nat.beq f 29 then (bif Nat.beq r 0 then [(1, 5)] else bif Nat.beq r 7 then [(24, 7), (6, 6)] else []) else []) (fun f => bif Nat.beq f 29 then journal_Entry_sides_hs else []) N 400 8 29 [.d tEntry3 a0] A0 K =
    journal_Entry_sides_p N a0 (fun d1 m1 => K (V.tup [V.d (Ty.int IntKind.u64) (dk d1 1), V.d (Ty.int IntKind.u64) (dk d1 2), V.d (Ty.int IntKind.i64) (dk d1 0)]) []) := by
  rw [journal_Entry_sides_pe]
  exact (show _ = jn (fun d1 m1 => (K (V.tup [V.d (Ty.int IntKind.u64) (dk d1 1), V.d (Ty.int IntKind.u64) (dk d1 2), V.d (Ty.int IntKind.i64) (dk d1 0)]) [])) (journal_Entry_sides_p0 N a0) by kernel_rfl).trans (jn_eq _ _)
noncomputable def journal_Entry_sides_g (N : Nat) {R : Type} : OvG R := fun xs _ K => match xs with
  | [.d t0 a0] => if t0 = tEntry3 then journal_Entry_sides_p N a0 (fun d1 m1 => K (V.tup [V.d (Ty.int IntKind.u64) (dk d1 1), V.d (Ty.int IntKind.u64) (dk d1 2), V.d (Ty.int IntKind.i64) (dk d1 0)]) []) else none
  | _ => none
theorem journal_Entry_sides_ok (N : Nat) {R : Type} : GOk (X0 gl0) 29 (journal_Entry_sides_g N (R := R)) := by
  intro xs A Kr r hr
  unfold journal_Entry_sides_g at hr
  split at hr
  · simp only [Option.ite_none_right_eq_some] at hr
    obtain ⟨hty, hr⟩ := hr
    subst hty
    rw [← journal_Entry_sides_run] at hr
    obtain ⟨v, L, h1, h2⟩ := exF_ok (ok0 gl0) (mo gl0) ((journal_Entry_sides_ov N).ov_ok _) (extX_ok gl0) _ _ _ _ _ _ hr
    exact ⟨v, L, h1.mono (leA_none fun _ => rfl), h2⟩
  · cases hr
end Go.Proofs.YtefppgmopnnphaaDoor


namespace Go.Proofs.YtefppgmopnnphaaDoor
open Go Go.E
set_option maxRecDepth 100000
set_option maxHeartbeats 4000000
set_option linter.unusedVariables false
noncomputable def journal_Entry_Right_hs : Hints := [([0, 0, 1], ⟨[1], [(17, .d .bool)], [], [], [], []⟩),
    ([1, 0, 1, 1], ⟨[1], [], [], [], [], []⟩),
    ([4, 1, 0, 1, 1], ⟨[1, 19, 20], [(21, .d (.int .i64))], [], [], [], []⟩),
    ([0, 1, 4, 0, 1, 1, 5, 4, 1, 0, 1, 1], ⟨[1, 19, 20, 21], [(33, .d .bool)], [], [], [], []⟩),
    ([9], ⟨[], [(2, .d (.int .i64))], [], [], [], []⟩)]
noncomputable def journal_Entry_Right_ov (N : Nat) : OvS (X0 gl0) where
  g R := [(28, journal_named_g N), (29, journal_Entry_sides_g N)]
  ok := fun R => List.forall_mem_cons.2 ⟨journal_named_ok N, List.forall_mem_cons.2 ⟨journal_Entry_sides_ok N, fun _ h => nomatch h⟩⟩
noncomputable def journal_Entry_Right_l1 {R : Type} (N : Nat) (k1 : KD R) (k2 : KD R) : KD R → List C → List Es → Option R := (fun k3 d2 m2 => (bif decide (C.toInt (dk d2 3) < C.toInt (dk d2 2)) then (if 0 ≤ C.toInt (dk d2 3) ∧ C.toInt (dk d2 3) < (↑(List.length (C.elems (dk d2 1))) : Int) then (jn (fun d3 m3 => (bif C.toBool (dk d3 4) then (k1 [C.int 10] []) else (k3 [dk d3 0, dk d3 1, dk d3 2, C.int (IntKind.wrap IntKind.i64 (C.toInt (dk d3 3) + 1))] []))) (fun k4 => (bif !namedF (C.toStr (C.get (List.getD (C.elems (dk d2 1)) (Int.toNat (C.toInt (dk d2 3))) C.nil) 0)) then (k4 [dk d2 0, dk d2 1, dk d2 2, dk d2 3, C.bool true] []) else (k4 [dk d2 0, dk d2 1, dk d2 2, dk d2 3, C.bool (decide (C.toInt (C.get (List.getD (C.elems (dk d2 1)) (Int.toNat (C.toInt (dk d2 3))) C.nil) 1) = 0))] [])))) else none) else (k2 [dk d2 0] [])))
noncomputable def journal_Entry_Right_p0 {R : Type} (N : Nat) (a0 : C) (k1 : KD R) : Option R := (jn (fun d1 m1 => (bif C.toBool (dk d1 1) then (k1 [C.int 1] []) else (jn (fun d2 m2 => (journal_Entry_sides_p N (dk d2 0) (fun d3 m3 => (bif !decide (C.toInt (dk d3 0) = 0) then (k1 [dk d3 0] []) else (bif !decide (C.toInt (dk d3 1) = C.toInt (dk d3 2)) then (k1 [C.int 12] []) else (k1 [C.int 0] [])))))) (fun k2 => (loopK N (journal_Entry_Right_l1 N k1 k2) [dk d1 0, C.get (dk d1 0) 1, C.int (↑(List.length (C.elems (C.get (dk d1 0) 1))) : Int), C.int 0] []))))) (fun k2 => (bif decide ((↑(List.length (C.elems (C.get a0 1))) : Int) < 2) then (k2 [a0, C.bool true] []) else (k2 [a0, C.bool (decide (8 < (↑(List.length (C.elems (C.get a0 1))) : Int)))] []))))
noncomputable def journal_Entry_Right_p {R : Type} (N : Nat) : C → KD R → Option R := lid "journal_Entry_Right_p N" (journal_Entry_Right_p0 N)
theorem journal_Entry_Right_pe {R : Type} (N : Nat) (a0 : C) (k : KD R) : journal_Entry_Right_p N a0 k = journal_Entry_Right_p0 N a0 k := by unfold journal_Entry_Right_p; rw [lid_eq]
theorem journal_Entry_Right_run {R : Type} (N : Nat) (a0 : C) (K : V → List (Key × O) → Option R) : exF (X0 gl0) ((journal_Entry_Right_ov N).ov R) extX (fun f r => bif Nat.beq f 13 then (bif Nat.beq r 0 then [(1, 5)] else []) else []) (fun f => bif Nat.beq f 13 then journal_Entry_Right_hs else []) N 400 8 13 [.d tEntry3 a0] A0 K =
    journal_Entry_Right_p N a0 (fun d1 m1 => K (V.d (Ty.int IntKind.i64) (dk d1 0)) []) := by
  rw [journal_Entry_Right_pe]
  exact (show _ = jn (fun d1 m1 => (K (V.d (Ty.int IntKind.i64) (dk d1 0)) [])) (journal_Entry_Right_p0 N a0) by kernel_rfl).trans (jn_eq _ _)
noncomputable def journal_Entry_Right_g (N : Nat) {R : Type} : OvG R := fun xs _ K => match xs with
  | [.d t0 a0] => if t0 = tEntry3 then journal_Entry_Right_p N a0 (fun d1 m1 => K (V.d (Ty.int IntKind.i64) (dk d1 0)) []) else none
  | _ => none
theorem journal_Entry_Right_ok (N : Nat) {R : Type} : GOk (X0 gl0) 13 (journal_Entry_Right_g N (R := R)) := by
  intro xs A Kr r hr
  unfold journal_Entry_Right_g at hr
  split at hr
  · simp only [Option.ite_none_right_eq_some] at hr
    obtain ⟨hty, hr⟩ := hr
    subst hty
    rw [← journal_Entry_Right_run] at hr
    obtain ⟨v, L, h1, h2⟩ := exF_ok (ok0 gl0) (mo gl0) ((journal_Entry_Right_ov N).ov_ok _) (extX_ok gl0) _ _ _ _ _ _ hr
    exact ⟨v, L, h1.mono (leA_none fun _ => rfl), h2⟩
  · cases hr
end Go.Proofs.YtefppgmopnnphaaDoor


namespace Go.Proofs.YtefppgmopnnphaaDoor
open Go Go.E
set_option maxRecDepth 100000
set_option maxHeartbeats 4000000
set_option linter.unusedVariables false
noncomputable def ref30_Named_hs : Hints := [([1, 0, 1], ⟨[0], [], [], [], [], []⟩),
    ([4, 1, 0, 1], ⟨[0], [(3, .d (.int .i64))], [], [], [], []⟩),
    ([0, 1, 4, 0, 1, 5, 4, 1, 0, 1], ⟨[0, 3], [(5, .d .bool)], [], [], [], []⟩),
    ([0, 1, 1], ⟨[], [(2, .d .bool)], [], [], [], []⟩),
    ([9], ⟨[], [(2, .d .bool)], [], [], [], []⟩)]
noncomputable def ref30_Named_ov (N : Nat) : OvS (X0 gl0) where
  g R := []
  ok := fun R => fun _ h => nomatch h
noncomputable def ref30_Named_l1 {R : Type} (N : Nat) (k1 : KD R) (k2 : KD R) : KD R → List C → List Es → Option R := (fun k3 d1 m1 => (bif decide (C.toInt (dk d1 1) < (↑(List.length (C.toStr (dk d1 0))) : Int)) then (if 0 ≤ C.toInt (dk d1 1) ∧ C.toInt (dk d1 1) < (↑(List.length (C.toStr (dk d1 0))) : Int) then (jn (fun d2 m2 => (bif !C.toBool (dk d2 2) then (k1 [C.bool false] []) else (k3 [dk d2 0, C.int (IntKind.wrap IntKind.i64 (C.toInt (dk d2 1) + 1))] []))) (fun k4 => (bif decide ((↑(UInt8.toNat (List.getD (C.toStr (dk d1 0)) (Int.toNat (C.toInt (dk d1 1))) (UInt8.ofNat 0))) : Int) = 46) then (k4 [dk d1 0, dk d1 1, C.bool true] []) else (bif decide (97 ≤ (↑(UInt8.toNat (List.getD (C.toStr (dk d1 0)) (Int.toNat (C.toInt (dk d1 1))) (UInt8.ofNat 0))) : Int)) then (bif decide ((↑(UInt8.toNat (List.getD (C.toStr (dk d1 0)) (Int.toNat (C.toInt (dk d1 1))) (UInt8.ofNat 0))) : Int) ≤ 122) then (k4 [dk d1 0, dk d1 1, C.bool true] []) else (bif decide (48 ≤ (↑(UInt8.toNat (List.getD (C.toStr (dk d1 0)) (Int.toNat (C.toInt (dk d1 1))) (UInt8.ofNat 0))) : Int)) then (k4 [dk d1 0, dk d1 1, C.bool (decide ((↑(UInt8.toNat (List.getD (C.toStr (dk d1 0)) (Int.toNat (C.toInt (dk d1 1))) (UInt8.ofNat 0))) : Int) ≤ 57))] []) else (k4 [dk d1 0, dk d1 1, C.bool false] []))) else (bif decide (48 ≤ (↑(UInt8.toNat (List.getD (C.toStr (dk d1 0)) (Int.toNat (C.toInt (dk d1 1))) (UInt8.ofNat 0))) : Int)) then (k4 [dk d1 0, dk d1 1, C.bool (decide ((↑(UInt8.toNat (List.getD (C.toStr (dk d1 0)) (Int.toNat (C.toInt (dk d1 1))) (UInt8.ofNat 0))) : Int) ≤ 57))] []) else (k4 [dk d1 0, dk d1 1, C.bool false] [])))))) else none) else (k2 [dk d1 0] [])))
noncomputable def ref30_Named_p0 {R : Type} (N : Nat) (a0 : C) (k1 : KD R) : Option R := (jn (fun d1 m1 => (jn (fun d2 m2 => (k1 [C.bool (C.toBool (dk d2 0))] [])) (fun k2 => (bif decide (1 ≤ (↑(List.length (C.toStr (dk d1 0))) : Int)) then (k2 [C.bool (decide ((↑(List.length (C.toStr (dk d1 0))) : Int) ≤ 20))] []) else (k2 [C.bool false] []))))) (fun k2 => (loopK N (ref30_Named_l1 N k1 k2) [a0, C.int 0] [])))
noncomputable def ref30_Named_p {R : Type} (N : Nat) : C → KD R → Option R := lid "ref30_Named_p N" (ref30_Named_p0 N)
theorem ref30_Named_pe {R : Type} (N : Nat) (a0 : C) (k : KD R) : ref30_Named_p N a0 k = ref30_Named_p0 N a0 k := by unfold ref30_Named_p; rw [lid_eq]
theorem ref30_Named_run {R : Type} (N : Nat) (a0 : C) (K : V → List (Key × O) → Option R) : exF (X0 gl0) ((ref30_Named_ov N).ov R) extX noX (fun f => bif Nat.beq f 26 then ref30_Named_hs else []) N 400 8 26 [.d .str a0] A0 K =
    ref30_Named_p N a0 (fun d1 m1 => K (V.d Ty.bool (C.bool (C.toBool (dk d1 0)))) []) := by
  rw [ref30_Named_pe]
  exact (show _ = jn (fun d1 m1 => (K (V.d Ty.bool (C.bool (C.toBool (dk d1 0)))) [])) (ref30_Named_p0 N a0) by kernel_rfl).trans (jn_eq _ _)
noncomputable def ref30_Named_g (N : Nat) {R : Type} : OvG R := fun xs _ K => match xs with
  | [.d t0 a0] => if t0 = .str then ref30_Named_p N a0 (fun d1 m1 => K (V.d Ty.bool (C.bool (C.toBool (dk d1 0)))) []) else none
  | _ => none
theorem ref30_Named_ok (N : Nat) {R : Type} : GOk (X0 gl0) 26 (ref30_Named_g N (R := R)) := by
  intro xs A Kr r hr
  unfold ref30_Named_g at hr
  split at hr
  · simp only [Option.ite_none_right_eq_some] at hr
    obtain ⟨hty, hr⟩ := hr
    subst hty
    rw [← ref30_Named_run] at hr
    obtain ⟨v, L, h1, h2⟩ := exF_ok (ok0 gl0) (mo gl0) ((ref30_Named_ov N).ov_ok _) (extX_ok gl0) _ _ _ _ _ _ hr
    exact ⟨v, L, h1.mono (leA_none fun _ => rfl), h2⟩
  · cases hr
end Go.Proofs.YtefppgmopnnphaaDoor


namespace Go.Proofs.YtefppgmopnnphaaDoor
open Go Go.E
set_option maxRecDepth 100000
set_option maxHeartbeats 4000000
set_option linter.unusedVariables false
noncomputable def ref02_Add_hs : Hints := [([9], ⟨[], [(4, .d (.int .u64)), (5, .d (.int .i64))], [], [], [], []⟩)]
noncomputable def ref02_Add_ov (N : Nat) : OvS (X0 gl0) where
  g R := []
  ok := fun R => fun _ h => nomatch h
noncomputable def ref02_Add_p0 {R : Type} (N : Nat) (a0 a1 : C) (k1 : KD R) : Option R := (bif decide (IntKind.wrap IntKind.u64 (18446744073709551615 - C.toInt a0) < C.toInt a1) then (k1 [C.int 0, C.int 11] []) else (k1 [C.int (IntKind.wrap IntKind.u64 (C.toInt a0 + C.toInt a1)), C.int 0] []))
noncomputable def ref02_Add_p {R : Type} (N : Nat) : C → C → KD R → Option R := lid "ref02_Add_p N" (ref02_Add_p0 N)
theorem ref02_Add_pe {R : Type} (N : Nat) (a0 a1 : C) (k : KD R) : ref02_Add_p N a0 a1 k = ref02_Add_p0 N a0 a1 k := by unfold ref02_Add_p; rw [lid_eq]
theorem ref02_Add_run {R : Type} (N : Nat) (a0 a1 : C) (K : V → List (Key × O) → Option R) : exF (X0 gl0) ((ref02_Add_ov N).ov R) extX noX (fun f => bif Nat.beq f 27 then ref02_Add_hs else []) N 400 8 27 [.d (.int .u64) a0, .d (.int .u64) a1] A0 K =
    ref02_Add_p N a0 a1 (fun d1 m1 => K (V.tup [V.d (Ty.int IntKind.u64) (dk d1 0), V.d (Ty.int IntKind.i64) (dk d1 1)]) []) := by
  rw [ref02_Add_pe]
  exact (show _ = jn (fun d1 m1 => (K (V.tup [V.d (Ty.int IntKind.u64) (dk d1 0), V.d (Ty.int IntKind.i64) (dk d1 1)]) [])) (ref02_Add_p0 N a0 a1) by kernel_rfl).trans (jn_eq _ _)
noncomputable def ref02_Add_g (N : Nat) {R : Type} : OvG R := fun xs _ K => match xs with
  | [.d t0 a0, .d t1 a1] => if t0 = (.int .u64) ∧ t1 = (.int .u64) then ref02_Add_p N a0 a1 (fun d1 m1 => K (V.tup [V.d (Ty.int IntKind.u64) (dk d1 0), V.d (Ty.int IntKind.i64) (dk d1 1)]) []) else none
  | _ => none
theorem ref02_Add_ok (N : Nat) {R : Type} : GOk (X0 gl0) 27 (ref02_Add_g N (R := R)) := by
  intro xs A Kr r hr
  unfold ref02_Add_g at hr
  split at hr
  · simp only [Option.ite_none_right_eq_some] at hr
    obtain ⟨hty, hr⟩ := hr
    obtain ⟨rfl, rfl⟩ := hty
    rw [← ref02_Add_run] at hr
    obtain ⟨v, L, h1, h2⟩ := exF_ok (ok0 gl0) (mo gl0) ((ref02_Add_ov N).ov_ok _) (extX_ok gl0) _ _ _ _ _ _ hr
    exact ⟨v, L, h1.mono (leA_none fun _ => rfl), h2⟩
  · cases hr
end Go.Proofs.YtefppgmopnnphaaDoor


namespace Go.Proofs.YtefppgmopnnphaaDoor
open Go Go.E
set_option maxRecDepth 100000
set_option maxHeartbeats 4000000
set_option linter.unusedVariables false
noncomputable def ref30_Right_hs : Hints := [([0, 0, 1], ⟨[1], [(17, .d .bool)], [], [], [], []⟩),
    ([1, 0, 1, 1], ⟨[1], [], [], [], [], []⟩),
    ([4, 1, 0, 1, 1], ⟨[1], [(3, .d (.int .i64))], [], [], [], []⟩),
    ([0, 4, 0, 1, 5, 4, 1, 0, 1, 1], ⟨[1, 3], [(41, .d .bool)], [], [], [], []⟩),
    ([1, 0, 1, 1, 1, 1], ⟨[], [(4, .d (.int .u64)), (5, .d (.int .u64))], [], [], [], []⟩),
    ([4, 1, 0, 1, 1, 1, 1], ⟨[1], [(4, .d (.int .u64)), (5, .d (.int .u64)), (7, .d (.int .i64))], [], [], [], []⟩),
    ([1, 0, 4, 0, 1, 5, 4, 1, 0, 1, 1, 1, 1], ⟨[1, 7], [(4, .d (.int .u64)), (5, .d (.int .u64)), (6, .d (.int .i64))], [], [], [], []⟩),
    ([9], ⟨[], [(2, .d (.int .i64))], [], [], [], []⟩)]
noncomputable def ref30_Right_ov (N : Nat) : OvS (X0 gl0) where
  g R := [(26, ref30_Named_g N), (27, ref02_Add_g N)]
  ok := fun R => List.forall_mem_cons.2 ⟨ref30_Named_ok N, List.forall_mem_cons.2 ⟨ref02_Add_ok N, fun _ h => nomatch h⟩⟩
noncomputable def ref30_Right_l1 {R : Type} (N : Nat) (k1 : KD R) (k2 : KD R) : KD R → List C → List Es → Option R := (fun k3 d3 m3 => (bif decide (C.toInt (dk d3 3) < (↑(List.length (C.elems (C.get (dk d3 0) 1))) : Int)) then (if 0 ≤ C.toInt (dk d3 3) ∧ C.toInt (dk d3 3) < (↑(List.length (C.elems (C.get (dk d3 0) 1))) : Int) then (jn (fun d4 m4 => (bif !decide (C.toInt (dk d4 4) = 0) then (k1 [dk d4 4] []) else (k3 [dk d4 0, dk d4 2, dk d4 3, C.int (IntKind.wrap IntKind.i64 (C.toInt (dk d4 1) + 1))] []))) (fun k4 => (bif C.toBool (C.get (List.getD (C.elems (C.get (dk d3 0) 1)) (Int.toNat (C.toInt (dk d3 3))) C.nil) 2) then (if 0 ≤ C.toInt (dk d3 3) ∧ C.toInt (dk d3 3) < (↑(List.length (C.elems (C.get (dk d3 0) 1))) : Int) then (ref02_Add_p N (dk d3 2) (C.get (List.getD (C.elems (C.get (dk d3 0) 1)) (Int.toNat (C.toInt (dk d3 3))) C.nil) 1) (fun d4 m4 => (k4 [dk d3 0, dk d3 3, dk d3 1, dk d4 0, dk d4 1] []))) else none) else (if 0 ≤ C.toInt (dk d3 3) ∧ C.toInt (dk d3 3) < (↑(List.length (C.elems (C.get (dk d3 0) 1))) : Int) then (ref02_Add_p N (dk d3 1) (C.get (List.getD (C.elems (C.get (dk d3 0) 1)) (Int.toNat (C.toInt (dk d3 3))) C.nil) 1) (fun d4 m4 => (k4 [dk d3 0, dk d3 3, dk d4 0, dk d3 2, dk d4 1] []))) else none)))) else none) else (k2 [dk d3 1, dk d3 2] [])))
noncomputable def ref30_Right_l2 {R : Type} (N : Nat) (k1 : KD R) (k2 : KD R) : KD R → List C → List Es → Option R := (fun k3 d2 m2 => (bif decide (C.toInt (dk d2 1) < (↑(List.length (C.elems (C.get (dk d2 0) 1))) : Int)) then (jn (fun d3 m3 => (bif C.toBool (dk d3 2) then (k1 [C.int 10] []) else (k3 [dk d3 0, C.int (IntKind.wrap IntKind.i64 (C.toInt (dk d3 1) + 1))] []))) (fun k4 => (if 0 ≤ C.toInt (dk d2 1) ∧ C.toInt (dk d2 1) < (↑(List.length (C.elems (C.get (dk d2 0) 1))) : Int) then (ref30_Named_p N (C.get (List.getD (C.elems (C.get (dk d2 0) 1)) (Int.toNat (C.toInt (dk d2 1))) C.nil) 0) (fun d3 m3 => (bif !C.toBool (dk d3 0) then (k4 [dk d2 0, dk d2 1, C.bool true] []) else (if 0 ≤ C.toInt (dk d2 1) ∧ C.toInt (dk d2 1) < (↑(List.length (C.elems (C.get (dk d2 0) 1))) : Int) then (k4 [dk d2 0, dk d2 1, C.bool (decide (C.toInt (C.get (List.getD (C.elems (C.get (dk d2 0) 1)) (Int.toNat (C.toInt (dk d2 1))) C.nil) 1) = 0))] []) else none)))) else none))) else (k2 [dk d2 0] [])))
noncomputable def ref30_Right_p0 {R : Type} (N : Nat) (a0 : C) (k1 : KD R) : Option R := (jn (fun d1 m1 => (bif C.toBool (dk d1 1) then (k1 [C.int 1] []) else (jn (fun d2 m2 => (jn (fun d3 m3 => (bif !decide (C.toInt (dk d3 0) = C.toInt (dk d3 1)) then (k1 [C.int 12] []) else (k1 [C.int 0] []))) (fun k2 => (loopK N (ref30_Right_l1 N k1 k2) [dk d2 0, C.int 0, C.int 0, C.int 0] [])))) (fun k2 => (loopK N (ref30_Right_l2 N k1 k2) [dk d1 0, C.int 0] []))))) (fun k2 => (bif decide ((↑(List.length (C.elems (C.get a0 1))) : Int) < 2) then (k2 [a0, C.bool true] []) else (k2 [a0, C.bool (decide (8 < (↑(List.length (C.elems (C.get a0 1))) : Int)))] []))))
noncomputable def ref30_Right_p {R : Type} (N : Nat) : C → KD R → Option R := lid "ref30_Right_p N" (ref30_Right_p0 N)
theorem ref30_Right_pe {R : Type} (N : Nat) (a0 : C) (k : KD R) : ref30_Right_p N a0 k = ref30_Right_p0 N a0 k := by unfold ref30_Right_p; rw [lid_eq]
theorem ref30_Right_run {R : Type} (N : Nat) (a0 : C) (K : V → List (Key × O) → Option R) : exF (X0 gl0) ((ref30_Right_ov N).ov R) extX (fun f r => bif Nat.beq f 12 then (bif Nat.beq r 0 then [(1, 5)] else []) else []) (fun f => bif Nat.beq f 12 then ref30_Right_hs else []) N 400 8 12 [.d tEntry3 a0] A0 K =
    ref30_Right_p N a0 (fun d1 m1 => K (V.d (Ty.int IntKind.i64) (dk d1 0)) []) := by
  rw [ref30_Right_pe]
  exact (show _ = jn (fun d1 m1 => (K (V.d (Ty.int IntKind.i64) (dk d1 0)) [])) (ref30_Right_p0 N a0) by kernel_rfl).trans (jn_eq _ _)
noncomputable def ref30_Right_g (N : Nat) {R : Type} : OvG R := fun xs _ K => match xs with
  | [.d t0 a0] => if t0 = tEntry3 then ref30_Right_p N a0 (fun d1 m1 => K (V.d (Ty.int IntKind.i64) (dk d1 0)) []) else none
  | _ => none
theorem ref30_Right_ok (N : Nat) {R : Type} : GOk (X0 gl0) 12 (ref30_Right_g N (R := R)) := by
  intro xs A Kr r hr
  unfold ref30_Right_g at hr
  split at hr
  · simp only [Option.ite_none_right_eq_some] at hr
    obtain ⟨hty, hr⟩ := hr
    subst hty
    rw [← ref30_Right_run] at hr
    obtain ⟨v, L, h1, h2⟩ := exF_ok (ok0 gl0) (mo gl0) ((ref30_Right_ov N).ov_ok _) (extX_ok gl0) _ _ _ _ _ _ hr
    exact ⟨v, L, h1.mono (leA_none fun _ => rfl), h2⟩
  · cases hr
end Go.Proofs.YtefppgmopnnphaaDoor


namespace Go.Proofs.YtefppgmopnnphaaDoor
open Go Go.E
set_option maxRecDepth 100000
set_option maxHeartbeats 4000000
set_option linter.unusedVariables false
noncomputable def ref30_Same_hs : Hints := [([1, 0, 1, 1], ⟨[], [], [], [], [], []⟩),
    ([4, 1, 0, 1, 1], ⟨[0, 1], [(5, .d (.int .i64))], [], [], [], []⟩),
    ([0, 0, 4, 0, 1, 5, 4, 1, 0, 1, 1], ⟨[0, 1, 5], [(43, .d .bool)], [], [], [], []⟩),
    ([1, 1, 4, 0, 1, 5, 4, 1, 0, 1, 1], ⟨[0, 1, 5], [], [], [], [], []⟩),
    ([4, 1, 1, 4, 0, 1, 5, 4, 1, 0, 1, 1], ⟨[0, 1, 5], [(6, .d (.int .i64))], [], [], [], []⟩),
    ([9], ⟨[], [(4, .d .bool)], [], [], [], []⟩)]
noncomputable def ref30_Same_ov (N : Nat) : OvS (X0 gl0) where
  g R := []
  ok := fun R => fun _ h => nomatch h
noncomputable def ref30_Same_l1 {R : Type} (N : Nat) (k1 : KD R) (k4 : KD R) : KD R → List C → List Es → Option R := (fun k5 d3 m3 => (if 0 ≤ C.toInt (dk d3 2) ∧ C.toInt (dk d3 2) < (↑(List.length (C.elems (dk d3 0))) : Int) then (bif decide (C.toInt (dk d3 3) < (↑(List.length (C.elems (C.get (List.getD (C.elems (dk d3 0)) (Int.toNat (C.toInt (dk d3 2))) C.nil) 1))) : Int)) then (if 0 ≤ C.toInt (dk d3 2) ∧ C.toInt (dk d3 2) < (↑(List.length (C.elems (dk d3 0))) : Int) then (if 0 ≤ C.toInt (dk d3 3) ∧ C.toInt (dk d3 3) < (↑(List.length (C.elems (C.get (List.getD (C.elems (dk d3 0)) (Int.toNat (C.toInt (dk d3 2))) C.nil) 1))) : Int) then (if 0 ≤ C.toInt (dk d3 2) ∧ C.toInt (dk d3 2) < (↑(List.length (C.elems (dk d3 1))) : Int) then (if 0 ≤ C.toInt (dk d3 3) ∧ C.toInt (dk d3 3) < (↑(List.length (C.elems (C.get (List.getD (C.elems (dk d3 1)) (Int.toNat (C.toInt (dk d3 2))) C.nil) 1))) : Int) then (bif !C.beq (List.getD (C.elems (C.get (List.getD (C.elems (dk d3 0)) (Int.toNat (C.toInt (dk d3 2))) C.nil) 1)) (Int.toNat (C.toInt (dk d3 3))) C.nil) (List.getD (C.elems (C.get (List.getD (C.elems (dk d3 1)) (Int.toNat (C.toInt (dk d3 2))) C.nil) 1)) (Int.toNat (C.toInt (dk d3 3))) C.nil) then (k1 [C.bool false] []) else (k5 [dk d3 0, dk d3 1, dk d3 2, C.int (IntKind.wrap IntKind.i64 (C.toInt (dk d3 3) + 1))] [])) else none) else none) else none) else none) else (k4 [dk d3 0, dk d3 1, dk d3 2] [])) else none))
noncomputable def ref30_Same_l2 {R : Type} (N : Nat) (k1 : KD R) (k2 : KD R) : KD R → List C → List Es → Option R := (fun k3 d1 m1 => (bif decide (C.toInt (dk d1 2) < (↑(List.length (C.elems (dk d1 0))) : Int)) then (jn (fun d2 m2 => (bif C.toBool (dk d2 3) then (k1 [C.bool false] []) else (jn (fun d3 m3 => (k3 [dk d3 0, dk d3 1, C.int (IntKind.wrap IntKind.i64 (C.toInt (dk d3 2) + 1))] [])) (fun k4 => (loopK N (ref30_Same_l1 N k1 k4) [dk d2 0, dk d2 1, dk d2 2, C.int 0] []))))) (fun k4 => (if 0 ≤ C.toInt (dk d1 2) ∧ C.toInt (dk d1 2) < (↑(List.length (C.elems (dk d1 0))) : Int) then (if 0 ≤ C.toInt (dk d1 2) ∧ C.toInt (dk d1 2) < (↑(List.length (C.elems (dk d1 1))) : Int) then (bif !decide (C.toInt (C.get (List.getD (C.elems (dk d1 0)) (Int.toNat (C.toInt (dk d1 2))) C.nil) 0) = C.toInt (C.get (List.getD (C.elems (dk d1 1)) (Int.toNat (C.toInt (dk d1 2))) C.nil) 0)) then (k4 [dk d1 0, dk d1 1, dk d1 2, C.bool true] []) else (if 0 ≤ C.toInt (dk d1 2) ∧ C.toInt (dk d1 2) < (↑(List.length (C.elems (dk d1 0))) : Int) then (if 0 ≤ C.toInt (dk d1 2) ∧ C.toInt (dk d1 2) < (↑(List.length (C.elems (dk d1 1))) : Int) then (k4 [dk d1 0, dk d1 1, dk d1 2, C.bool !decide ((↑(List.length (C.elems (C.get (List.getD (C.elems (dk d1 0)) (Int.toNat (C.toInt (dk d1 2))) C.nil) 1))) : Int) = (↑(List.length (C.elems (C.get (List.getD (C.elems (dk d1 1)) (Int.toNat (C.toInt (dk d1 2))) C.nil) 1))) : Int))] []) else none) else none)) else none) else none))) else (k2 [] [])))
noncomputable def ref30_Same_p0 {R : Type} (N : Nat) (a0 a1 : C) (k1 : KD R) : Option R := (bif !decide ((↑(List.length (C.elems a0)) : Int) = (↑(List.length (C.elems a1)) : Int)) then (k1 [C.bool false] []) else (jn (fun d1 m1 => (k1 [C.bool true] [])) (fun k2 => (loopK N (ref30_Same_l2 N k1 k2) [a0, a1, C.int 0] []))))
noncomputable def ref30_Same_p {R : Type} (N : Nat) : C → C → KD R → Option R := lid "ref30_Same_p N" (ref30_Same_p0 N)
theorem ref30_Same_pe {R : Type} (N : Nat) (a0 a1 : C) (k : KD R) : ref30_Same_p N a0 a1 k = ref30_Same_p0 N a0 a1 k := by unfold ref30_Same_p; rw [lid_eq]
theorem ref30_Same_run {R : Type} (N : Nat) (a0 a1 : C) (K : V → List (Key × O) → Option R) : exF (X0 gl0) ((ref30_Same_ov N).ov R) extX noX (fun f => bif Nat.beq f 14 then ref30_Same_hs else []) N 400 8 14 [.d (.slice 32 tEntry3) a0, .d (.slice 32 tEntry3) a1] A0 K =
    ref30_Same_p N a0 a1 (fun d1 m1 => K (V.d Ty.bool (C.bool (C.toBool (dk d1 0)))) []) := by
  rw [ref30_Same_pe]
  exact (show _ = jn (fun d1 m1 => (K (V.d Ty.bool (C.bool (C.toBool (dk d1 0)))) [])) (ref30_Same_p0 N a0 a1) by kernel_rfl).trans (jn_eq _ _)
noncomputable def ref30_Same_g (N : Nat) {R : Type} : OvG R := fun xs _ K => match xs with
  | [.d t0 a0, .d t1 a1] => if t0 = (.slice 32 tEntry3) ∧ t1 = (.slice 32 tEntry3) then ref30_Same_p N a0 a1 (fun d1 m1 => K (V.d Ty.bool (C.bool (C.toBool (dk d1 0)))) []) else none
  | _ => none
theorem ref30_Same_ok (N : Nat) {R : Type} : GOk (X0 gl0) 14 (ref30_Same_g N (R := R)) := by
  intro xs A Kr r hr
  unfold ref30_Same_g at hr
  split at hr
  · simp only [Option.ite_none_right_eq_some] at hr
    obtain ⟨hty, hr⟩ := hr
    obtain ⟨rfl, rfl⟩ := hty
    rw [← ref30_Same_run] at hr
    obtain ⟨v, L, h1, h2⟩ := exF_ok (ok0 gl0) (mo gl0) ((ref30_Same_ov N).ov_ok _) (extX_ok gl0) _ _ _ _ _ _ hr
    exact ⟨v, L, h1.mono (leA_none fun _ => rfl), h2⟩
  · cases hr
end Go.Proofs.YtefppgmopnnphaaDoor


namespace Go.Proofs.YtefppgmopnnphaaDoor
open Go Go.E
def W64 (a : Int) : Prop := 0 ≤ a ∧ a < 18446744073709551616
theorem getD_mem {l : List C} {i : Nat} (h : i < l.length) : l.getD i .nil ∈ l := by
  rw [List.getD_eq_getElem?_getD, List.getElem?_eq_getElem h]; exact List.getElem_mem h
end Go.Proofs.YtefppgmopnnphaaDoor


namespace Go.Proofs.YtefppgmopnnphaaDoor
open Go Go.E
set_option maxRecDepth 100000
set_option maxHeartbeats 4000000
set_option linter.unusedSimpArgs false
variable {R : Type} {N : Nat}
theorem entW {x : C} (h : C.wf tEntry3 x) : x.get 1 = .slice (x.get 1).elems ∧ (x.get 1).elems.length * 32 ≤ 140737488355328 ∧ ∀ p ∈ (x.get 1).elems, C.wf tPost p := by
  have t := C.wf_field (i := 1) (f := .slice 32 tPost) h rfl
  simp only [C.wf] at t
  exact ⟨t.1, t.2.1, t.2.2.2⟩
theorem law30_to_in (ps acc : List C) (a b c h : C) (hp : ∀ p ∈ ps, C.wf tPost p) (hl : ps.length * 32 ≤ 140737488355328) (hN : 4398046511105 < N) (k : KD R) :
    loopK N (law30_to_l1 N k) [a, b, c, .slice ps, .int (ps.length : Int), .slice acc, .int 0, h, .slice []] [] = k [a, b, c, .slice acc, h, .slice ps] [] := by
  refine loopK_count (fun i => [a, b, c, .slice ps, .int (ps.length : Int), .slice acc, .int (i : Int), h, .slice (ps.take i)]) (fun _ => []) ps.length (k [a, b, c, .slice acc, h, .slice ps] []) ?_ ?_ (by omega)
  · intro i hi rec
    have h1 : (i : Int) < (ps.length : Int) := by omega
    have h2 : (ps.take i).length = i := by simp; omega
    have h3 : IntKind.i64.wrap ((i : Int) + 1) = ((i + 1 : Nat) : Int) := wrap_succ (by omega)
    have h4 : ps.take (i + 1) = ps.take i ++ [ps.getD i .nil] := by
      rw [List.take_add_one, List.getElem?_eq_getElem hi, List.getD_eq_getElem?_getD, List.getElem?_eq_getElem hi]; rfl
    have h5 : C.agg [(ps.getD i .nil).get 0, (ps.getD i .nil).get 1, (ps.getD i .nil).get 2] = ps.getD i .nil := C.wf_eta (hp _ (getD_mem hi))
    unfold law30_to_l1
    simp only [go_sem, c_int, c_slice, c_bool, h1, h2, h3, h4, h5, List.length_append, List.length_cons, List.length_nil, Nat.zero_add, decide_true, cond_true, Int.natCast_nonneg, and_self, if_true, Int.toNat_natCast]
    rw [if_pos (by omega)]
  · intro rec
    unfold law30_to_l1
    simp only [go_sem, c_int, c_slice, c_bool, List.take_length, Int.lt_irrefl, decide_false, cond_false]
theorem law30_to_eq (l : List C) (hw : ∀ x ∈ l, C.wf tEntry3 x) (hl : l.length * 32 ≤ 140737488355328) (hN : 4398046511105 < N) (k : KD R) : law30_to_p N (.slice l) k = k [.slice l] [] := by
  rw [law30_to_pe]
  unfold law30_to_p0
  simp only [jn_eq, c_slice]
  refine loopK_count (fun i => [.slice l, .int (l.length : Int), .slice (l.take i), .int (i : Int)]) (fun _ => []) l.length (k [.slice l] []) ?_ ?_ (by omega)
  · intro i hi rec
    have h1 : (i : Int) < (l.length : Int) := by omega
    have h2 : (l.take i).length = i := by simp; omega
    have h3 : IntKind.i64.wrap ((i : Int) + 1) = ((i + 1 : Nat) : Int) := wrap_succ (by omega)
    have h4 : l.take (i + 1) = l.take i ++ [l.getD i .nil] := by
      rw [List.take_add_one, List.getElem?_eq_getElem hi, List.getD_eq_getElem?_getD, List.getElem?_eq_getElem hi]; rfl
    have hx := hw _ (getD_mem hi)
    have h5 : C.agg [(l.getD i .nil).get 0, (l.getD i .nil).get 1] = l.getD i .nil := C.wf_eta hx
    obtain ⟨p1, p2, p3⟩ := entW hx
    unfold law30_to_l2
    simp only [go_sem, c_int, c_slice, c_bool, h1, h2, h3, h4, List.length_append, List.length_cons, List.length_nil, Nat.zero_add, decide_true, cond_true, Int.natCast_nonneg, and_self, if_true, Int.toNat_natCast]
    rw [p1, c_slice, law30_to_in _ _ _ _ _ _ p3 p2 hN]
    simp only [go_sem, c_int, c_slice, c_bool, h2, h3, List.length_append, List.length_cons, List.length_nil, Nat.zero_add, if_true]
    rw [if_pos (by omega), ← p1, h5]
  · intro rec
    unfold law30_to_l2
    simp only [go_sem, c_int, c_slice, c_bool, List.take_length, Int.lt_irrefl, decide_false, cond_false]
theorem law30_from_in (ps acc : List C) (a b c h : C) (hp : ∀ p ∈ ps, C.wf tPost p) (hl : ps.length * 32 ≤ 140737488355328) (hN : 4398046511105 < N) (k : KD R) :
    loopK N (law30_from_l1 N k) [a, b, c, .slice ps, .int (ps.length : Int), .slice acc, .int 0, h, .slice []] [] = k [a, b, c, .slice acc, h, .slice ps] [] := by
  refine loopK_count (fun i => [a, b, c, .slice ps, .int (ps.length : Int), .slice acc, .int (i : Int), h, .slice (ps.take i)]) (fun _ => []) ps.length (k [a, b, c, .slice acc, h, .slice ps] []) ?_ ?_ (by omega)
  · intro i hi rec
    have h1 : (i : Int) < (ps.length : Int) := by omega
    have h2 : (ps.take i).length = i := by simp; omega
    have h3 : IntKind.i64.wrap ((i : Int) + 1) = ((i + 1 : Nat) : Int) := wrap_succ (by omega)
    have h4 : ps.take (i + 1) = ps.take i ++ [ps.getD i .nil] := by
      rw [List.take_add_one, List.getElem?_eq_getElem hi, List.getD_eq_getElem?_getD, List.getElem?_eq_getElem hi]; rfl
    have h5 : C.agg [(ps.getD i .nil).get 0, (ps.getD i .nil).get 1, (ps.getD i .nil).get 2] = ps.getD i .nil := C.wf_eta (hp _ (getD_mem hi))
    unfold law30_from_l1
    simp only [go_sem, c_int, c_slice, c_bool, h1, h2, h3, h4, h5, List.length_append, List.length_cons, List.length_nil, Nat.zero_add, decide_true, cond_true, Int.natCast_nonneg, and_self, if_true, Int.toNat_natCast]
    rw [if_pos (by omega)]
  · intro rec
    unfold law30_from_l1
    simp only [go_sem, c_int, c_slice, c_bool, List.take_length, Int.lt_irrefl, decide_false, cond_false]
theorem law30_from_eq (l : List C) (hw : ∀ x ∈ l, C.wf tEntry3 x) (hl : l.length * 32 ≤ 140737488355328) (hN : 4398046511105 < N) (k : KD R) : law30_from_p N (.slice l) k = k [.slice l] [] := by
  rw [law30_from_pe]
  unfold law30_from_p0
  simp only [jn_eq, c_slice]
  refine loopK_count (fun i => [.slice l, .int (l.length : Int), .slice (l.take i), .int (i : Int)]) (fun _ => []) l.length (k [.slice l] []) ?_ ?_ (by omega)
  · intro i hi rec
    have h1 : (i : Int) < (l.length : Int) := by omega
    have h2 : (l.take i).length = i := by simp; omega
    have h3 : IntKind.i64.wrap ((i : Int) + 1) = ((i + 1 : Nat) : Int) := wrap_succ (by omega)
    have h4 : l.take (i + 1) = l.take i ++ [l.getD i .nil] := by
      rw [List.take_add_one, List.getElem?_eq_getElem hi, List.getD_eq_getElem?_getD, List.getElem?_eq_getElem hi]; rfl
    have hx := hw _ (getD_mem hi)
    have h5 : C.agg [(l.getD i .nil).get 0, (l.getD i .nil).get 1] = l.getD i .nil := C.wf_eta hx
    obtain ⟨p1, p2, p3⟩ := entW hx
    unfold law30_from_l2
    simp only [go_sem, c_int, c_slice, c_bool, h1, h2, h3, h4, List.length_append, List.length_cons, List.length_nil, Nat.zero_add, decide_true, cond_true, Int.natCast_nonneg, and_self, if_true, Int.toNat_natCast]
    rw [p1, c_slice, law30_from_in _ _ _ _ _ _ p3 p2 hN]
    simp only [go_sem, c_int, c_slice, c_bool, h2, h3, List.length_append, List.length_cons, List.length_nil, Nat.zero_add, if_true]
    rw [if_pos (by omega), ← p1, h5]
  · intro rec
    unfold law30_from_l2
    simp only [go_sem, c_int, c_slice, c_bool, List.take_length, Int.lt_irrefl, decide_false, cond_false]
theorem runE_foldl {α σ ε : Type} (g : σ → α → σ) : ∀ (l : List α) (i : Nat) (s : σ), runE (ε := ε) (fun _ s c => .inl (g s c)) i s l = .inl (l.foldl g s)
  | [], _, _ => rfl
  | c :: l, i, s => by simp only [runE, List.foldl_cons]; exact runE_foldl g l (i + 1) (g s c)
def stepL (s : Int) (p : C) : Int := IntKind.wrap IntKind.i64 (s + IntKind.wrap IntKind.i64 (1 + ((p.get 0).toStr.length : Int)))
def cntL (l : List C) : Int := l.foldl (fun n x => (x.get 1).elems.foldl stepL n) 0
def lightB (l : List C) : Bool := decide (cntL l ≤ 5000) && decide ((l.length : Int) ≤ 200)
theorem law30_light_in (ps : List C) (a b c d : C) (n : Int) (hl : ps.length * 32 ≤ 140737488355328) (hN : 4398046511105 < N) (k : KD R) :
    loopK N (law30_light_l1 N k) [a, b, c, d, .slice ps, .int (ps.length : Int), .int n, .int 0] [] = k [a, b, c, d, .int (ps.foldl stepL n)] [] := by
  have key := loopK_run0 (ε := Unit) (N := N) (F := law30_light_l1 N k) (fun i (s : Int) => [a, b, c, d, .slice ps, .int (ps.length : Int), .int s, .int (i : Int)]) (fun _ _ => []) ps
      (fun _ s p => .inl (stepL s p)) (fun s => k [a, b, c, d, .int s] []) (fun _ => none) (s0 := n)
      (fun i s p hp hi rec => by
        have h1 : (i : Int) < (ps.length : Int) := by omega
        unfold law30_light_l1 stepL
        simp only [go_sem, c_int, c_slice, c_bool, h1, getD_of hp, decide_true, cond_true, Int.natCast_nonneg, and_self, if_true, Int.toNat_natCast, wrap_succ (show i < 4611686018427387904 by omega)])
      (fun s rec => by
        unfold law30_light_l1
        simp only [go_sem, c_int, c_slice, c_bool, Int.lt_irrefl, decide_false, cond_false]) (by omega)
  rw [runE_foldl] at key
  exact key
theorem law30_light_eq (l : List C) (hw : ∀ x ∈ l, C.wf tEntry3 x) (hl : l.length * 32 ≤ 140737488355328) (hN : 4398046511105 < N) (k : KD R) : law30_light_p N (.slice l) k = k [.bool (lightB l)] [] := by
  rw [law30_light_pe]
  unfold law30_light_p0
  simp only [jn_eq, c_slice]
  have key := loopK_run0 (ε := Unit) (N := N) (F := law30_light_l2 N (fun d1 m1 => (fun k2 : KD R => (bif decide (C.toInt (dk d1 1) ≤ 5000) then (k2 [C.bool (decide ((↑(List.length (C.elems (dk d1 0))) : Int) ≤ 200))] []) else (k2 [C.bool false] []))) (fun d2 m2 => k [C.bool (C.toBool (dk d2 0))] [])))
      (fun i (s : Int) => [.slice l, .slice l, .int (l.length : Int), .int s, .int (i : Int)]) (fun _ _ => []) l
      (fun _ s x => .inl ((x.get 1).elems.foldl stepL s)) (fun s => k [.bool (decide (s ≤ 5000) && decide ((l.length : Int) ≤ 200))] []) (fun _ => none) (s0 := 0)
      (fun i s x hx hi rec => by
        have h1 : (i : Int) < (l.length : Int) := by omega
        obtain ⟨p1, p2, p3⟩ := entW (hw x (List.mem_of_getElem? hx))
        unfold law30_light_l2
        simp only [go_sem, c_int, c_slice, c_bool, h1, getD_of hx, decide_true, cond_true, Int.natCast_nonneg, and_self, if_true, Int.toNat_natCast]
        rw [p1, c_slice, law30_light_in _ _ _ _ _ _ p2 hN]
        simp only [go_sem, c_int, wrap_succ (show i < 4611686018427387904 by omega)])
      (fun s rec => by
        unfold law30_light_l2
        simp only [go_sem, c_int, c_slice, c_bool, Int.lt_irrefl, decide_false, cond_false]
        by_cases h : s ≤ 5000 <;> simp [h, c_bool] <;> rfl) (by omega)
  rw [runE_foldl] at key
  exact key
theorem nameB_dec (b : UInt8) : nameB b = (decide ((b.toNat : Int) = 46) || ((decide (97 ≤ (b.toNat : Int)) && decide ((b.toNat : Int) ≤ 122)) || (decide (48 ≤ (b.toNat : Int)) && decide ((b.toNat : Int) ≤ 57)))) := by
  unfold nameB
  by_cases h1 : b.toNat = 46
  · simp [h1]
  · have : ¬ ((b.toNat : Int) = 46) := by omega
    simp only [this, decide_false, Bool.false_or]
    have e1 : decide (97 ≤ (b.toNat : Int)) = decide (97 ≤ b.toNat) := by congr 1; simp; omega
    have e2 : decide ((b.toNat : Int) ≤ 122) = decide (b.toNat ≤ 122) := by congr 1; simp; omega
    have e3 : decide (48 ≤ (b.toNat : Int)) = decide (48 ≤ b.toNat) := by congr 1; simp; omega
    have e4 : decide ((b.toNat : Int) ≤ 57) = decide (b.toNat ≤ 57) := by congr 1; simp; omega
    have e5 : (b.toNat == 46) = false := by simpa using h1
    rw [e1, e2, e3, e4, e5, Bool.or_false]
theorem runE_all {α : Type} (p : α → Bool) : ∀ (l : List α) (i : Nat), runE (σ := Unit) (ε := Unit) (fun _ _ c => bif p c then .inl () else .inr ()) i () l = bif l.all p then .inl () else .inr ()
  | [], _ => rfl
  | c :: l, i => by
    simp only [runE, List.all_cons]
    cases p c with
    | true => simpa using runE_all p l (i + 1)
    | false => rfl
theorem ref30_Named_eq (s : C) (hl : s.toStr.length ≤ 140737488355328) (hN : 140737488355329 < N) (k : KD R) : ref30_Named_p N s k = k [.bool (namedF s.toStr)] [] := by
  rw [ref30_Named_pe]
  unfold ref30_Named_p0
  simp only [jn_eq]
  have key := loopK_run0 (σ := Unit) (ε := Unit) (N := N) (F := ref30_Named_l1 N k (fun d1 m1 => (fun k2 : KD R => (bif decide (1 ≤ (↑(List.length (C.toStr (dk d1 0))) : Int)) then (k2 [C.bool (decide ((↑(List.length (C.toStr (dk d1 0))) : Int) ≤ 20))] []) else (k2 [C.bool false] []))) (fun d2 m2 => k [C.bool (C.toBool (dk d2 0))] [])))
      (fun i _ => [s, .int (i : Int)]) (fun _ _ => []) s.toStr (fun _ _ c => bif nameB c then .inl () else .inr ())
      (fun _ => k [.bool (decide (1 ≤ s.toStr.length) && decide (s.toStr.length ≤ 20))] []) (fun _ => k [.bool false] []) (s0 := ())
      (fun i _ b hb hi rec => by
        have h1 : (i : Int) < (s.toStr.length : Int) := by omega
        have h2 : ∀ d, s.toStr.getD i d = b := fun d => by rw [List.getD_eq_getElem?_getD, hb]; rfl
        unfold ref30_Named_l1
        rw [nameB_dec]
        simp only [go_sem, jn_eq, c_int, c_slice, c_bool, h1, h2, decide_true, cond_true, Int.natCast_nonneg, and_self, if_true, Int.toNat_natCast, wrap_succ (show i < 4611686018427387904 by omega)]
        generalize (b.toNat : Int) = n
        by_cases a1 : n = 46
        · simp [a1, c_bool]
        · by_cases a2 : 97 ≤ n <;> by_cases a3 : n ≤ 122 <;> by_cases a4 : 48 ≤ n <;> by_cases a5 : n ≤ 57 <;> simp [a1, a2, a3, a4, a5, c_bool])
      (fun _ rec => by
        unfold ref30_Named_l1
        simp only [go_sem, c_int, c_slice, c_bool, Int.lt_irrefl, decide_false, cond_false]
        by_cases h : 1 ≤ s.toStr.length
        · have h' : (1 : Int) ≤ (s.toStr.length : Int) := by omega
          have e : decide ((s.toStr.length : Int) ≤ 20) = decide (s.toStr.length ≤ 20) := by congr 1; simp; omega
          rw [← e]
          simp [h, h', c_bool]
          rfl
        · have h' : ¬ (1 : Int) ≤ (s.toStr.length : Int) := by omega
          simp [h, h', c_bool]) (by omega)
  rw [runE_all] at key
  refine key.trans ?_
  unfold namedF
  cases s.toStr.all nameB with
  | true => simp [endE]
  | false => simp [endE]
def addS (s : Int × Int) (p : C) : (Int × Int) ⊕ Unit :=
  bif (p.get 2).toBool then (if s.2 + (p.get 1).toInt < 18446744073709551616 then .inl (s.1, s.2 + (p.get 1).toInt) else .inr ())
  else (if s.1 + (p.get 1).toInt < 18446744073709551616 then .inl (s.1 + (p.get 1).toInt, s.2) else .inr ())
theorem postW {p : C} (h : C.wf tPost p) : W64 (p.get 1).toInt := by
  have t := C.wf_field (i := 1) (f := .int .u64) h rfl
  simp only [C.wf] at t
  have m1 : IntKind.u64.min = 0 := by decide
  have m2 : IntKind.u64.max = 18446744073709551615 := by decide
  exact ⟨by omega, by omega⟩
theorem postN {p : C} (h : C.wf tPost p) : (p.get 0).toStr.length ≤ 140737488355328 := by
  have t := C.wf_field (i := 0) (f := .str) h rfl
  simp only [C.wf] at t
  exact t.2
theorem money_add (a b : C) (ha : W64 a.toInt) (hb : W64 b.toInt) (k : KD R) : money_Add_p N a b k = if a.toInt + b.toInt < 18446744073709551616 then k [.int (a.toInt + b.toInt), .int 0] [] else k [.int 0, .int 11] [] := by
  obtain ⟨a1, a2⟩ := ha
  obtain ⟨b1, b2⟩ := hb
  rw [money_Add_pe]
  unfold money_Add_p0
  by_cases h : a.toInt + b.toInt < 18446744073709551616
  · rw [if_pos h, show (a.toInt + b.toInt) / 18446744073709551616 = 0 from by omega, show (a.toInt + b.toInt) % 18446744073709551616 = a.toInt + b.toInt from by omega]
    rfl
  · rw [if_neg h, show decide ((a.toInt + b.toInt) / 18446744073709551616 = 0) = false from by rw [decide_eq_false_iff_not]; omega]
    rfl
theorem ref02_add (a b : C) (ha : W64 a.toInt) (hb : W64 b.toInt) (k : KD R) : ref02_Add_p N a b k = if a.toInt + b.toInt < 18446744073709551616 then k [.int (a.toInt + b.toInt), .int 0] [] else k [.int 0, .int 11] [] := by
  obtain ⟨a1, a2⟩ := ha
  obtain ⟨b1, b2⟩ := hb
  rw [ref02_Add_pe]
  unfold ref02_Add_p0
  rw [wrap_u64 (by omega) (by omega)]
  by_cases h : a.toInt + b.toInt < 18446744073709551616
  · rw [if_pos h, show decide (18446744073709551615 - a.toInt < b.toInt) = false from by rw [decide_eq_false_iff_not]; omega, wrap_u64 (by omega) h]
    rfl
  · rw [if_neg h, show decide (18446744073709551615 - a.toInt < b.toInt) = true from by rw [decide_eq_true_iff]; omega]
    rfl
def sidesR (ps : List C) : (Int × Int) ⊕ Unit := runE (fun _ s p => addS s p) 0 (0, 0) ps
def SidesP (s : Int × Int) : Prop := W64 s.1 ∧ W64 s.2
theorem addS_ok {s s' : Int × Int} {p : C} (h : SidesP s) (hp : W64 (p.get 1).toInt) (e : addS s p = .inl s') : SidesP s' := by
  obtain ⟨⟨a1, a2⟩, b1, b2⟩ := h
  obtain ⟨c1, c2⟩ := hp
  unfold addS at e
  cases hb : (p.get 2).toBool with
  | true =>
    rw [hb, cond_true] at e
    split at e
    · cases e; exact ⟨⟨a1, a2⟩, by dsimp only; omega, by dsimp only; omega⟩
    · cases e
  | false =>
    rw [hb, cond_false] at e
    split at e
    · cases e; exact ⟨⟨by dsimp only; omega, by dsimp only; omega⟩, b1, b2⟩
    · cases e
theorem sides_eq (x : C) (hx : C.wf tEntry3 x) (hN : 4398046511105 < N) (k : KD R) : journal_Entry_sides_p N x k = (match sidesR (x.get 1).elems with | .inl s => k [.int 0, .int s.1, .int s.2] [] | .inr _ => k [.int 11, .int 0, .int 0] []) := by
  obtain ⟨p1, p2, p3⟩ := entW hx
  rw [journal_Entry_sides_pe]
  unfold journal_Entry_sides_p0
  simp only [jn_eq]
  generalize (x.get 1).elems = ps at p1 p2 p3 ⊢
  rw [p1]
  have key := loopK_run (N := N) (F := journal_Entry_sides_l1 N k (fun d1 m1 => k [C.int 0, dk d1 0, dk d1 1] [])) (fun i (s : Int × Int) => [.slice ps, .int (ps.length : Int), .int (i : Int), .int s.1, .int s.2]) (fun _ _ => []) ps
      (fun _ s p => addS s p) (fun s => k [.int 0, .int s.1, .int s.2] []) (fun _ => k [.int 11, .int 0, .int 0] []) (fun i s => i ≤ ps.length ∧ SidesP s) (s0 := (0, 0)) ⟨Nat.zero_le _, by unfold W64; decide, by unfold W64; decide⟩
      (fun i s p hp hi => ⟨fun rec => by
        have hi2 := (List.getElem?_eq_some_iff.1 hp).1
        have h1 : (i : Int) < (ps.length : Int) := by omega
        have hw := postW (p3 p (List.mem_of_getElem? hp))
        obtain ⟨_, ⟨a1, a2⟩, b1, b2⟩ := hi
        unfold journal_Entry_sides_l1 addS
        simp only [go_sem, c_int, c_slice, c_bool, h1, getD_of hp, decide_true, cond_true, Int.natCast_nonneg, and_self, if_true, Int.toNat_natCast, wrap_succ (show i < 4611686018427387904 by omega)]
        rw [money_add _ _ (by simpa [c_int] using ⟨b1, b2⟩) hw, money_add _ _ (by simpa [c_int] using ⟨a1, a2⟩) hw]
        simp only [c_int]
        cases hb : (p.get 2).toBool with
        | true =>
          simp only [cond_true]
          by_cases h : s.2 + (p.get 1).toInt < 18446744073709551616 <;> simp [h, c_int, dk_0, dk_1]
        | false =>
          simp only [cond_false]
          by_cases h : s.1 + (p.get 1).toInt < 18446744073709551616 <;> simp [h, c_int, dk_0, dk_1], fun s' e => ⟨(List.getElem?_eq_some_iff.1 hp).1, addS_ok hi.2 (postW (p3 p (List.mem_of_getElem? hp))) e⟩⟩)
      (fun s hs rec => by
        unfold journal_Entry_sides_l1
        simp only [go_sem, c_int, c_slice, c_bool, Int.lt_irrefl, decide_false, cond_false]) (by omega)
  refine Eq.trans ?_ (key.trans ?_)
  · rfl
  · unfold sidesR
    cases runE (fun _ s p => addS s p) 0 (0, 0) ps <;> rfl
def postOk (p : C) : Bool := namedF (p.get 0).toStr && !decide ((p.get 1).toInt = 0)
def rightN (ps : List C) : Int :=
  if ps.length < 2 ∨ 8 < ps.length then 1
  else bif ps.all postOk then (match sidesR ps with | .inl s => if s.1 = s.2 then 0 else 12 | .inr _ => 11) else 10
theorem Right_eq (x : C) (hx : C.wf tEntry3 x) (hN : 4398046511105 < N) (k : KD R) : journal_Entry_Right_p N x k = k [.int (rightN (x.get 1).elems)] [] := by
  obtain ⟨p1, p2, p3⟩ := entW hx
  rw [journal_Entry_Right_pe]
  unfold journal_Entry_Right_p0 rightN
  simp only [jn_eq]
  by_cases h2 : (x.get 1).elems.length < 2
  · have h2' : ((x.get 1).elems.length : Int) < 2 := by omega
    simp [h2, h2', c_bool, dk_0, dk_1]
  · have h2' : ¬ ((x.get 1).elems.length : Int) < 2 := by omega
    by_cases h8 : 8 < (x.get 1).elems.length
    · have h8' : (8 : Int) < ((x.get 1).elems.length : Int) := by omega
      simp [h2, h2', h8, h8', c_bool, dk_0, dk_1]
    · have h8' : ¬ (8 : Int) < ((x.get 1).elems.length : Int) := by omega
      rw [if_neg (by omega)]
      simp only [h2', h8', decide_false, cond_false, dk_0, dk_1, c_bool]
      have e1 : x.get 1 = .slice (x.get 1).elems := p1
      have es := sides_eq (R := R) x hx hN
      generalize hps : (x.get 1).elems = ps at *
      rw [e1]
      have key := loopK_run0 (σ := Unit) (ε := Unit) (N := N) (F := journal_Entry_Right_l1 N k (fun d2 m2 => journal_Entry_sides_p N (dk d2 0) (fun d3 m3 => (bif !decide (C.toInt (dk d3 0) = 0) then (k [dk d3 0] []) else (bif !decide (C.toInt (dk d3 1) = C.toInt (dk d3 2)) then (k [C.int 12] []) else (k [C.int 0] []))))))
        (fun i _ => [x, .slice ps, .int (ps.length : Int), .int (i : Int)]) (fun _ _ => []) ps (fun _ _ p => bif postOk p then .inl () else .inr ())
        (fun _ => k [.int (match sidesR ps with | .inl s => if s.1 = s.2 then 0 else 12 | .inr _ => 11)] []) (fun _ => k [.int 10] []) (s0 := ())
        (fun i _ p hp hi rec => by
          have h1 : (i : Int) < (ps.length : Int) := by omega
          unfold journal_Entry_Right_l1 postOk
          simp only [go_sem, jn_eq, c_int, c_slice, c_bool, h1, getD_of hp, decide_true, cond_true, Int.natCast_nonneg, and_self, if_true, Int.toNat_natCast, wrap_succ (show i < 4611686018427387904 by omega)]
          cases namedF (p.get 0).toStr with
          | false => rfl
          | true =>
            by_cases h : (p.get 1).toInt = 0 <;> simp [h, c_bool, dk_0, dk_1, dk_2, dk_3, dk_4])
        (fun _ rec => by
          unfold journal_Entry_Right_l1
          simp only [go_sem, c_int, c_slice, c_bool, Int.lt_irrefl, decide_false, cond_false, es]
          cases sidesR ps with
          | inr _ => simp [c_int, dk_0]
          | inl s => by_cases h : s.1 = s.2 <;> simp [h, c_int, dk_0, dk_1, dk_2]) (by omega)
      rw [runE_all postOk] at key
      refine key.trans ?_
      cases ps.all postOk <;> rfl
theorem rRight_eq (x : C) (hx : C.wf tEntry3 x) (hN : 140737488355329 < N) (k : KD R) : ref30_Right_p N x k = k [.int (rightN (x.get 1).elems)] [] := by
  obtain ⟨p1, p2, p3⟩ := entW hx
  rw [ref30_Right_pe]
  unfold ref30_Right_p0 rightN
  simp only [jn_eq]
  by_cases h2 : (x.get 1).elems.length < 2
  · have h2' : ((x.get 1).elems.length : Int) < 2 := by omega
    simp [h2, h2', c_bool, dk_0, dk_1]
  · have h2' : ¬ ((x.get 1).elems.length : Int) < 2 := by omega
    by_cases h8 : 8 < (x.get 1).elems.length
    · have h8' : (8 : Int) < ((x.get 1).elems.length : Int) := by omega
      simp [h2, h2', h8, h8', c_bool, dk_0, dk_1]
    · have h8' : ¬ (8 : Int) < ((x.get 1).elems.length : Int) := by omega
      rw [if_neg (by omega)]
      simp only [h2', h8', decide_false, cond_false, dk_0, dk_1, c_bool]
      generalize hps : (x.get 1).elems = ps at *
      have key1 := loopK_run (N := N) (F := ref30_Right_l1 N k (fun d3 m3 => (bif !decide (C.toInt (dk d3 0) = C.toInt (dk d3 1)) then (k [C.int 12] []) else (k [C.int 0] [])))) (fun i (s : Int × Int) => [x, .int s.1, .int s.2, .int (i : Int)]) (fun _ _ => []) ps
        (fun _ s p => addS s p) (fun s => k [.int (if s.1 = s.2 then 0 else 12)] []) (fun _ => k [.int 11] []) (fun i s => i ≤ ps.length ∧ SidesP s) (s0 := (0, 0)) ⟨Nat.zero_le _, by unfold W64; decide, by unfold W64; decide⟩
        (fun i s p hp hi => ⟨fun rec => by
          have hi2 := (List.getElem?_eq_some_iff.1 hp).1
          have h1 : (i : Int) < (ps.length : Int) := by omega
          have hw := postW (p3 p (List.mem_of_getElem? hp))
          obtain ⟨_, ⟨a1, a2⟩, b1, b2⟩ := hi
          unfold ref30_Right_l1 addS
          simp only [go_sem, jn_eq, c_int, c_slice, c_bool, hps, h1, getD_of hp, decide_true, cond_true, Int.natCast_nonneg, and_self, if_true, Int.toNat_natCast, wrap_succ (show i < 4611686018427387904 by omega)]
          rw [ref02_add _ _ (by simpa [c_int] using ⟨b1, b2⟩) hw, ref02_add _ _ (by simpa [c_int] using ⟨a1, a2⟩) hw]
          simp only [c_int]
          cases hb : (p.get 2).toBool with
          | true =>
            simp only [cond_true]
            by_cases h : s.2 + (p.get 1).toInt < 18446744073709551616 <;> simp [h, c_int, dk_0, dk_1, dk_2, dk_3, dk_4, wrap_succ (show i < 4611686018427387904 by omega)]
          | false =>
            simp only [cond_false]
            by_cases h : s.1 + (p.get 1).toInt < 18446744073709551616 <;> simp [h, c_int, dk_0, dk_1, dk_2, dk_3, dk_4, wrap_succ (show i < 4611686018427387904 by omega)], fun s' e => ⟨(List.getElem?_eq_some_iff.1 hp).1, addS_ok hi.2 (postW (p3 p (List.mem_of_getElem? hp))) e⟩⟩)
        (fun s hs rec => by
          unfold ref30_Right_l1
          simp only [go_sem, c_int, c_slice, c_bool, hps, Int.lt_irrefl, decide_false, cond_false]
          by_cases h : s.1 = s.2 <;> simp [h]) (by omega)
      have key := loopK_run0 (σ := Unit) (ε := Unit) (N := N) (F := ref30_Right_l2 N k (fun d2 m2 => loopK N (ref30_Right_l1 N k (fun d3 m3 => (bif !decide (C.toInt (dk d3 0) = C.toInt (dk d3 1)) then (k [C.int 12] []) else (k [C.int 0] [])))) [dk d2 0, C.int 0, C.int 0, C.int 0] []))
        (fun i _ => [x, .int (i : Int)]) (fun _ _ => []) ps (fun _ _ p => bif postOk p then .inl () else .inr ())
        (fun _ => k [.int (match sidesR ps with | .inl s => if s.1 = s.2 then 0 else 12 | .inr _ => 11)] []) (fun _ => k [.int 10] []) (s0 := ())
        (fun i _ p hp hi rec => by
          have h1 : (i : Int) < (ps.length : Int) := by omega
          have hn := postN (p3 p (List.mem_of_getElem? hp))
          unfold ref30_Right_l2 postOk
          simp only [go_sem, jn_eq, c_int, c_slice, c_bool, hps, h1, getD_of hp, decide_true, cond_true, Int.natCast_nonneg, and_self, if_true, Int.toNat_natCast, wrap_succ (show i < 4611686018427387904 by omega)]
          rw [ref30_Named_eq _ hn hN]
          simp only [go_sem, c_int, c_bool]
          cases namedF (p.get 0).toStr with
          | false => rfl
          | true =>
            by_cases h : (p.get 1).toInt = 0 <;> simp [h, c_int, c_bool, dk_0, dk_1, dk_2, dk_3, dk_4, wrap_succ (show i < 4611686018427387904 by omega)])
        (fun _ rec => by
          unfold ref30_Right_l2
          simp only [go_sem, c_int, c_slice, c_bool, hps, Int.lt_irrefl, decide_false, cond_false]
          refine Eq.trans ?_ (key1.trans ?_)
          · rfl
          · unfold sidesR
            cases runE (fun _ s p => addS s p) 0 (0, 0) ps <;> rfl) (by omega)
      rw [runE_all postOk] at key
      refine Eq.trans ?_ (key.trans ?_)
      · rfl
      · cases ps.all postOk <;> rfl
theorem Same_refl (l : List C) (hw : ∀ x ∈ l, C.wf tEntry3 x) (hl : l.length * 32 ≤ 140737488355328) (hN : 4398046511105 < N) (k : KD R) : ref30_Same_p N (.slice l) (.slice l) k = k [.bool true] [] := by
  rw [ref30_Same_pe]
  unfold ref30_Same_p0
  simp only [jn_eq, c_slice, decide_true, Bool.not_true, cond_false]
  refine loopK_count (fun i => [.slice l, .slice l, .int (i : Int)]) (fun _ => []) l.length (k [.bool true] []) ?_ ?_ (by omega)
  · intro i hi rec
    have h1 : (i : Int) < (l.length : Int) := by omega
    obtain ⟨p1, p2, p3⟩ := entW (hw _ (getD_mem hi))
    unfold ref30_Same_l2
    simp only [go_sem, jn_eq, c_int, c_slice, c_bool, h1, decide_true, cond_true, Int.natCast_nonneg, and_self, if_true, Int.toNat_natCast, Bool.not_true, cond_false]
    refine (loopK_count (fun j => [.slice l, .slice l, .int (i : Int), .int (j : Int)]) (fun _ => []) ((l.getD i .nil).get 1).elems.length (rec [.slice l, .slice l, .int ((i + 1 : Nat) : Int)] []) ?_ ?_ (by omega))
    · intro j hj rec2
      have h2 : (j : Int) < (((l.getD i .nil).get 1).elems.length : Int) := by omega
      unfold ref30_Same_l1
      simp only [go_sem, jn_eq, c_int, c_slice, c_bool, h1, h2, decide_true, cond_true, Int.natCast_nonneg, and_self, if_true, Int.toNat_natCast, Bool.not_true, cond_false, wrap_succ (show j < 4611686018427387904 by omega)]
    · intro rec2
      unfold ref30_Same_l1
      simp only [go_sem, jn_eq, c_int, c_slice, c_bool, h1, Int.lt_irrefl, decide_false, decide_true, cond_true, Int.natCast_nonneg, and_self, if_true, Int.toNat_natCast, Bool.not_true, cond_false, wrap_succ (show i < 4611686018427387904 by omega)]
  · intro rec
    unfold ref30_Same_l2
    simp only [go_sem, c_int, c_slice, c_bool, Int.lt_irrefl, decide_false, cond_false]
end Go.Proofs.YtefppgmopnnphaaDoor


namespace Go.Proofs.YtefppgmopnnphaaDoor
open Go Go.E
set_option maxRecDepth 100000
set_option maxHeartbeats 4000000
set_option linter.unusedVariables false
noncomputable def law30_awake_hs : Hints := [([0, 1, 1, 1], ⟨[], [(0, .d .bool)], [], [], [], []⟩),
    ([9], ⟨[], [(0, .d .bool)], [], [], [], []⟩)]
noncomputable def law30_awake_ov (N : Nat) : OvS (X0 gl0) where
  g R := [(28, journal_named_g N), (24, cl_Post_g N), (25, cl_Entry3_g N), (36, bld_WriteString_g N), (50, fmtU_g N), (38, bld_String_g N)]
  ok := fun R => List.forall_mem_cons.2 ⟨journal_named_ok N, List.forall_mem_cons.2 ⟨cl_Post_ok N, List.forall_mem_cons.2 ⟨cl_Entry3_ok N, List.forall_mem_cons.2 ⟨bld_WriteString_ok N, List.forall_mem_cons.2 ⟨fmtU_ok N, List.forall_mem_cons.2 ⟨bld_String_ok N, fun _ h => nomatch h⟩⟩⟩⟩⟩⟩
noncomputable def law30_awake_p0 {R : Type} (N : Nat) (k1 : KD R) : Option R := (jn (fun d1 m1 => (k1 [C.bool (C.toBool (dk d1 0))] [])) (fun k2 => (k2 [C.bool true] [])))
noncomputable def law30_awake_p {R : Type} (N : Nat) : KD R → Option R := lid "law30_awake_p N" (law30_awake_p0 N)
theorem law30_awake_pe {R : Type} (N : Nat)  (k : KD R) : law30_awake_p N  k = law30_awake_p0 N  k := by unfold law30_awake_p; rw [lid_eq]
theorem law30_awake_run {R : Type} (N : Nat)  (K : V → List (Key × O) → Option R) : exF (X0 gl0) ((law30_awake_ov N).ov R) extX (fun f r => bif Nat.beq f 11 then (bif Nat.beq r 8 then [(8, 6)] else []) else bif Nat.beq f 13 then (bif Nat.beq r 0 then [(1, 5)] else []) else bif Nat.beq f 29 then (bif Nat.beq r 0 then [(1, 5)] else bif Nat.beq r 7 then [(6, 6)] else []) else bif Nat.beq f 19 then (bif Nat.beq r 15 then [(9, 6)] else []) else []) (fun f => bif Nat.beq f 9 then law30_awake_hs else []) N 3000 20 9 [] A0 K =
    law30_awake_p N  (fun d1 m1 => K (V.d Ty.bool (C.bool (C.toBool (dk d1 0)))) []) := by
  rw [law30_awake_pe]
  exact (show _ = jn (fun d1 m1 => (K (V.d Ty.bool (C.bool (C.toBool (dk d1 0)))) [])) (law30_awake_p0 N ) by kernel_rfl).trans (jn_eq _ _)
noncomputable def law30_awake_g (N : Nat) {R : Type} : OvG R := fun xs _ K => match xs with
  | [] => law30_awake_p N  (fun d1 m1 => K (V.d Ty.bool (C.bool (C.toBool (dk d1 0)))) [])
  | _ => none
theorem law30_awake_ok (N : Nat) {R : Type} : GOk (X0 gl0) 9 (law30_awake_g N (R := R)) := by
  intro xs A Kr r hr
  unfold law30_awake_g at hr
  split at hr
  · skip
    rw [← law30_awake_run] at hr
    obtain ⟨v, L, h1, h2⟩ := exF_ok (ok0 gl0) (mo gl0) ((law30_awake_ov N).ov_ok _) (extX_ok gl0) _ _ _ _ _ _ hr
    exact ⟨v, L, h1.mono (leA_none fun _ => rfl), h2⟩
  · cases hr
end Go.Proofs.YtefppgmopnnphaaDoor


namespace Go.Proofs.YtefppgmopnnphaaDoor
open Go Go.E
set_option maxRecDepth 100000
set_option maxHeartbeats 4000000
set_option linter.unusedVariables false
noncomputable def journal_Journal_Add_hs : Hints := [([0, 1, 0, 1, 1, 1], ⟨[0, 8], [(33, .d .bool)], [], [], [], []⟩),
    ([9], ⟨[], [(6, .sl 32 tEntry3 5006), (7, .d (.int .i64))], [], [], [], []⟩)]
noncomputable def journal_Journal_Add_ov (N : Nat) : OvS (X0 gl0) where
  g R := [(13, journal_Entry_Right_g N), (24, cl_Post_g N), (25, cl_Entry3_g N)]
  ok := fun R => List.forall_mem_cons.2 ⟨journal_Entry_Right_ok N, List.forall_mem_cons.2 ⟨cl_Post_ok N, List.forall_mem_cons.2 ⟨cl_Entry3_ok N, fun _ h => nomatch h⟩⟩⟩
noncomputable def journal_Journal_Add_p0 {R : Type} (N : Nat) (a0 a1 a2 : C) (k1 : KD R) : Option R := (bif Nat.beq (List.length (C.elems a2)) (List.length (C.elems a2)) && true then (journal_Entry_Right_p N (C.agg [a1, C.slice (C.elems a2)]) (fun d1 m1 => (bif !decide (C.toInt (dk d1 0) = 0) then (k1 [C.slice [], dk d1 0] []) else (jn (fun d2 m2 => (bif C.toBool (dk d2 1) then (k1 [C.slice [], C.int 29] []) else (bif Nat.beq (List.length (C.elems (dk d2 0))) (List.length (C.elems (dk d2 0))) then (if (List.length (C.elems (dk d2 0)) + 1) * 32 ≤ 140737488355328 ∧ List.length (C.elems (dk d2 0)) + 1 ≤ 9223372036854775807 then (bif Nat.beq (List.length (C.elems (dk d2 0)) + 1) (List.length (C.elems (dk d2 0) ++ [dk d2 2])) then (k1 [C.slice (C.elems (dk d2 0) ++ [dk d2 2]), C.int 0] []) else none) else none) else none))) (fun k2 => (bif decide (0 < (↑(List.length (C.elems a0)) : Int)) then (if 0 ≤ IntKind.wrap IntKind.i64 ((↑(List.length (C.elems a0)) : Int) - 1) ∧ IntKind.wrap IntKind.i64 ((↑(List.length (C.elems a0)) : Int) - 1) < (↑(List.length (C.elems a0)) : Int) then (k2 [a0, C.bool (decide (C.toInt a1 < C.toInt (C.get (List.getD (C.elems a0) (Int.toNat (IntKind.wrap IntKind.i64 ((↑(List.length (C.elems a0)) : Int) - 1))) C.nil) 0))), C.agg [a1, C.slice (C.elems a2)]] []) else none) else (k2 [a0, C.bool false, C.agg [a1, C.slice (C.elems a2)]] []))))))) else none)
noncomputable def journal_Journal_Add_p {R : Type} (N : Nat) : C → C → C → KD R → Option R := lid "journal_Journal_Add_p N" (journal_Journal_Add_p0 N)
theorem journal_Journal_Add_pe {R : Type} (N : Nat) (a0 a1 a2 : C) (k : KD R) : journal_Journal_Add_p N a0 a1 a2 k = journal_Journal_Add_p0 N a0 a1 a2 k := by unfold journal_Journal_Add_p; rw [lid_eq]
theorem journal_Journal_Add_run {R : Type} (N : Nat) (a0 a1 a2 : C) (K : V → List (Key × O) → Option R) : exF (X0 gl0) ((journal_Journal_Add_ov N).ov R) extX (fun f r => bif Nat.beq f 11 then (bif Nat.beq r 8 then [(8, 6)] else []) else []) (fun f => bif Nat.beq f 11 then journal_Journal_Add_hs else []) N 400 8 11 [.d (.slice 32 tEntry3) a0, .d (.int .u64) a1, .d (.slice 32 tPost) a2] A0 K =
    journal_Journal_Add_p N a0 a1 a2 (fun d1 m1 => K (V.tup [V.ts 32 tEntry3 (C.elems (dk d1 0)), V.d (Ty.int IntKind.i64) (dk d1 1)]) []) := by
  rw [journal_Journal_Add_pe]
  exact (show _ = jn (fun d1 m1 => (bif Nat.beq (List.length (C.elems (dk d1 0))) (List.length (C.elems (dk d1 0))) then
    (K (V.tup [V.ts 32 tEntry3 (C.elems (dk d1 0)), V.d (Ty.int IntKind.i64) (dk d1 1)]) [])
  else
    none)) (journal_Journal_Add_p0 N a0 a1 a2) by kernel_rfl).trans ((jn_eq _ _).trans (congrArg (journal_Journal_Add_p0 N a0 a1 a2) (funext fun _ => funext fun _ => by simp only [Nat.beq_refl, cond_true])))
noncomputable def journal_Journal_Add_g (N : Nat) {R : Type} : OvG R := fun xs _ K => match xs with
  | [.d t0 a0, .d t1 a1, .d t2 a2] => if t0 = (.slice 32 tEntry3) ∧ t1 = (.int .u64) ∧ t2 = (.slice 32 tPost) then journal_Journal_Add_p N a0 a1 a2 (fun d1 m1 => K (V.tup [V.ts 32 tEntry3 (C.elems (dk d1 0)), V.d (Ty.int IntKind.i64) (dk d1 1)]) []) else none
  | _ => none
theorem journal_Journal_Add_ok (N : Nat) {R : Type} : GOk (X0 gl0) 11 (journal_Journal_Add_g N (R := R)) := by
  intro xs A Kr r hr
  unfold journal_Journal_Add_g at hr
  split at hr
  · simp only [Option.ite_none_right_eq_some] at hr
    obtain ⟨hty, hr⟩ := hr
    obtain ⟨rfl, rfl, rfl⟩ := hty
    rw [← journal_Journal_Add_run] at hr
    obtain ⟨v, L, h1, h2⟩ := exF_ok (ok0 gl0) (mo gl0) ((journal_Journal_Add_ov N).ov_ok _) (extX_ok gl0) _ _ _ _ _ _ hr
    exact ⟨v, L, h1.mono (leA_none fun _ => rfl), h2⟩
  · cases hr
end Go.Proofs.YtefppgmopnnphaaDoor


namespace Go.Proofs.YtefppgmopnnphaaDoor
open Go Go.E
set_option maxRecDepth 100000
set_option maxHeartbeats 4000000
set_option linter.unusedVariables false
noncomputable def law30_JournalAdds_hs : Hints := [([0, 0, 1], ⟨[0, 3], [(19, .d .bool)], [], [], [], []⟩),
    ([0, 0, 1, 1, 1, 1, 1, 1], ⟨[0, 3, 5, 7, 8, 9], [(61, .d .bool)], [], [], [], []⟩),
    ([1, 0, 1, 1, 1, 1, 1, 1], ⟨[0, 3, 5, 7, 8], [(9, .d (.int .i64))], [], [], [], []⟩),
    ([1, 0, 1, 1, 1, 1, 1, 1, 1, 1], ⟨[0, 5, 7, 8, 9], [(10, .sl 32 tEntry3 5010)], [], [], [], []⟩),
    ([0, 1, 1, 1, 1, 1, 1, 1, 1, 1], ⟨[], [(4, .d .bool)], [], [], [], []⟩),
    ([9], ⟨[], [(4, .d .bool)], [], [], [], []⟩)]
noncomputable def law30_JournalAdds_ov (N : Nat) : OvS (X0 gl0) where
  g R := [(8, law30_light_g N), (9, law30_awake_g N), (10, law30_to_g N), (11, journal_Journal_Add_g N), (12, ref30_Right_g N), (13, journal_Entry_Right_g N), (14, ref30_Same_g N), (15, law30_from_g N)]
  ok := fun R => List.forall_mem_cons.2 ⟨law30_light_ok N, List.forall_mem_cons.2 ⟨law30_awake_ok N, List.forall_mem_cons.2 ⟨law30_to_ok N, List.forall_mem_cons.2 ⟨journal_Journal_Add_ok N, List.forall_mem_cons.2 ⟨ref30_Right_ok N, List.forall_mem_cons.2 ⟨journal_Entry_Right_ok N, List.forall_mem_cons.2 ⟨ref30_Same_ok N, List.forall_mem_cons.2 ⟨law30_from_ok N, fun _ h => nomatch h⟩⟩⟩⟩⟩⟩⟩⟩
noncomputable def law30_JournalAdds_p0 {R : Type} (N : Nat) (a0 a1 : C) (k1 : KD R) : Option R := (jn (fun d1 m1 => (bif C.toBool (dk d1 2) then (law30_awake_p N (fun d2 m2 => (k1 [C.bool (C.toBool (dk d2 0))] []))) else (law30_to_p N (dk d1 0) (fun d2 m2 => (law30_to_p N (C.slice [dk d1 1]) (fun d3 m3 => (if Int.ofNat 0 ≤ 0 ∧ 0 < (↑(List.length (C.elems (dk d3 0))) : Int) then (journal_Journal_Add_p N (C.slice (C.elems (dk d2 0))) (C.get (List.getD (C.elems (dk d3 0)) (Int.toNat 0) C.nil) 0) (C.get (List.getD (C.elems (dk d3 0)) (Int.toNat 0) C.nil) 1) (fun d4 m4 => (ref30_Right_p N (dk d1 1) (fun d5 m5 => (journal_Entry_Right_p N (List.getD (C.elems (dk d3 0)) (Int.toNat 0) C.nil) (fun d6 m6 => (bif !decide (C.toInt (dk d6 0) = C.toInt (dk d5 0)) then (k1 [C.bool false] []) else (jn (fun d7 m7 => (jn (fun d8 m8 => (jn (fun d9 m9 => (jn (fun d10 m10 => (k1 [C.bool (C.toBool (dk d10 0))] [])) (fun k2 => (law30_awake_p N (fun d10 m10 => (bif C.toBool (dk d10 0) then (bif decide (C.toInt (dk d9 3) = C.toInt (dk d9 4)) then (law30_from_p N (dk d9 2) (fun d11 m11 => (ref30_Same_p N (C.slice (C.elems (dk d11 0))) (C.slice (C.elems (dk d9 5))) (fun d12 m12 => (bif C.toBool (dk d12 0) then (law30_from_p N (dk d9 1) (fun d13 m13 => (ref30_Same_p N (C.slice (C.elems (dk d13 0))) (dk d9 0) (fun d14 m14 => (k2 [C.bool (C.toBool (dk d14 0))] []))))) else (k2 [C.bool false] [])))))) else (k2 [C.bool false] [])) else (k2 [C.bool false] []))))))) (fun k2 => (bif decide (C.toInt (dk d8 5) = 0) then (bif Nat.beq (List.length (C.elems (dk d8 0))) (List.length (C.elems (dk d8 0))) then (if (List.length (C.elems (dk d8 0)) + 1) * 32 ≤ 140737488355328 ∧ List.length (C.elems (dk d8 0)) + 1 ≤ 9223372036854775807 then (bif Nat.beq (List.length (C.elems (dk d8 0)) + 1) (List.length (C.elems (dk d8 0) ++ [dk d8 1])) then (k2 [dk d8 0, dk d8 2, dk d8 3, dk d8 4, dk d8 5, C.slice (C.elems (dk d8 0) ++ [dk d8 1])] []) else none) else none) else none) else (k2 [dk d8 0, dk d8 2, dk d8 3, dk d8 4, dk d8 5, C.slice []] []))))) (fun k2 => (bif C.toBool (dk d7 6) then (k2 [dk d7 0, dk d7 1, dk d7 2, dk d7 3, dk d7 4, C.int 29] []) else (k2 [dk d7 0, dk d7 1, dk d7 2, dk d7 3, dk d7 4, dk d7 5] []))))) (fun k2 => (bif decide (C.toInt (dk d5 0) = 0) then (bif decide (0 < (↑(List.length (C.elems (dk d1 0))) : Int)) then (if 0 ≤ IntKind.wrap IntKind.i64 ((↑(List.length (C.elems (dk d1 0))) : Int) - 1) ∧ IntKind.wrap IntKind.i64 ((↑(List.length (C.elems (dk d1 0))) : Int) - 1) < (↑(List.length (C.elems (dk d1 0))) : Int) then (k2 [dk d1 0, dk d1 1, C.slice (C.elems (dk d2 0)), C.slice (C.elems (dk d4 0)), dk d4 1, dk d5 0, C.bool (decide (C.toInt (C.get (dk d1 1) 0) < C.toInt (C.get (List.getD (C.elems (dk d1 0)) (Int.toNat (IntKind.wrap IntKind.i64 ((↑(List.length (C.elems (dk d1 0))) : Int) - 1))) C.nil) 0)))] []) else none) else (k2 [dk d1 0, dk d1 1, C.slice (C.elems (dk d2 0)), C.slice (C.elems (dk d4 0)), dk d4 1, dk d5 0, C.bool false] [])) else (k2 [dk d1 0, dk d1 1, C.slice (C.elems (dk d2 0)), C.slice (C.elems (dk d4 0)), dk d4 1, dk d5 0, C.bool false] []))))))))))) else none))))))) (fun k2 => (law30_light_p N a0 (fun d1 m1 => (bif !C.toBool (dk d1 0) then (k2 [a0, a1, C.bool true] []) else (law30_light_p N (C.slice [a1]) (fun d2 m2 => (k2 [a0, a1, C.bool !C.toBool (dk d2 0)] []))))))))
noncomputable def law30_JournalAdds_p {R : Type} (N : Nat) : C → C → KD R → Option R := lid "law30_JournalAdds_p N" (law30_JournalAdds_p0 N)
theorem law30_JournalAdds_pe {R : Type} (N : Nat) (a0 a1 : C) (k : KD R) : law30_JournalAdds_p N a0 a1 k = law30_JournalAdds_p0 N a0 a1 k := by unfold law30_JournalAdds_p; rw [lid_eq]
theorem law30_JournalAdds_run {R : Type} (N : Nat) (a0 a1 : C) (K : V → List (Key × O) → Option R) : exF (X0 gl0) ((law30_JournalAdds_ov N).ov R) extX (fun f r => bif Nat.beq f 3 then (bif Nat.beq r 0 then [(3, 5)] else []) else []) (fun f => bif Nat.beq f 3 then law30_JournalAdds_hs else []) N 400 8 3 [.d (.slice 32 tEntry3) a0, .d tEntry3 a1] A0 K =
    law30_JournalAdds_p N a0 a1 (fun d1 m1 => K (V.d Ty.bool (C.bool (C.toBool (dk d1 0)))) []) := by
  rw [law30_JournalAdds_pe]
  exact (show _ = jn (fun d1 m1 => (K (V.d Ty.bool (C.bool (C.toBool (dk d1 0)))) [])) (law30_JournalAdds_p0 N a0 a1) by kernel_rfl).trans (jn_eq _ _)
noncomputable def law30_JournalAdds_g (N : Nat) {R : Type} : OvG R := fun xs _ K => match xs with
  | [.d t0 a0, .d t1 a1] => if t0 = (.slice 32 tEntry3) ∧ t1 = tEntry3 then law30_JournalAdds_p N a0 a1 (fun d1 m1 => K (V.d Ty.bool (C.bool (C.toBool (dk d1 0)))) []) else none
  | _ => none
theorem law30_JournalAdds_ok (N : Nat) {R : Type} : GOk (X0 gl0) 3 (law30_JournalAdds_g N (R := R)) := by
  intro xs A Kr r hr
  unfold law30_JournalAdds_g at hr
  split at hr
  · simp only [Option.ite_none_right_eq_some] at hr
    obtain ⟨hty, hr⟩ := hr
    obtain ⟨rfl, rfl⟩ := hty
    rw [← law30_JournalAdds_run] at hr
    obtain ⟨v, L, h1, h2⟩ := exF_ok (ok0 gl0) (mo gl0) ((law30_JournalAdds_ov N).ov_ok _) (extX_ok gl0) _ _ _ _ _ _ hr
    exact ⟨v, L, h1.mono (leA_none fun _ => rfl), h2⟩
  · cases hr
end Go.Proofs.YtefppgmopnnphaaDoor


namespace Go.Proofs.YtefppgmopnnphaaDoor
open Go Go.E
set_option maxRecDepth 100000
set_option maxHeartbeats 4000000
set_option linter.unusedSimpArgs false
variable {R : Type} {N : Nat}
theorem awake30_eq (k : KD R) : law30_awake_p N k = k [.bool true] [] := by
  rw [law30_awake_pe]
  unfold law30_awake_p0
  simp only [jn_eq, dk_0, c_bool]
def lateB (l : List C) (h : Int) : Bool := decide (0 < l.length) && decide (h < ((l.getD (l.length - 1) .nil).get 0).toInt)
def addE (l : List C) (x : C) : Int := if rightN (x.get 1).elems = 0 then (bif lateB l (x.get 0).toInt then 29 else 0) else rightN (x.get 1).elems
theorem wrap_pred {n : Nat} (h0 : 0 < n) (h : n < 4611686018427387904) : IntKind.i64.wrap ((n : Int) - 1) = ((n - 1 : Nat) : Int) := by rw [IntWalk.i64_in _ (by omega)]; omega
theorem Add_eq (l : List C) (x : C) (hx : C.wf tEntry3 x) (hl : l.length ≤ 200) (hN : 4398046511105 < N) (k : KD R) :
    journal_Journal_Add_p N (.slice l) (x.get 0) (x.get 1) k = k [if addE l x = 0 then .slice (l ++ [x]) else .slice [], .int (addE l x)] [] := by
  obtain ⟨p1, p2, p3⟩ := entW hx
  have e : C.agg [x.get 0, .slice (x.get 1).elems] = x := by rw [← p1]; exact C.wf_eta hx
  rw [journal_Journal_Add_pe]
  unfold journal_Journal_Add_p0
  simp only [go_sem, jn_eq, c_slice, c_int, c_bool, Bool.and_true, cond_true, e]
  rw [Right_eq x hx hN]
  simp only [go_sem, c_int, c_bool]
  unfold addE
  by_cases h : rightN (x.get 1).elems = 0
  · simp only [h, decide_true, Bool.not_true, cond_false, if_true]
    unfold lateB
    by_cases h0 : 0 < l.length
    · have h0' : (0 : Int) < (l.length : Int) := by omega
      simp only [h0, h0', decide_true, cond_true, Bool.true_and, wrap_pred h0 (show l.length < 4611686018427387904 by omega), Int.natCast_nonneg, true_and, Int.toNat_natCast]
      rw [if_pos (by omega)]
      cases hb : decide ((x.get 0).toInt < ((l.getD (l.length - 1) .nil).get 0).toInt) with
      | true => simp
      | false =>
        simp only [cond_false, if_true, List.length_append, List.length_cons, List.length_nil, Nat.zero_add, go_sem]
        rw [if_pos (by omega)]
    · have h0' : ¬ (0 : Int) < (l.length : Int) := by omega
      simp only [h0, h0', decide_false, cond_false, Bool.false_and, if_true, List.length_append, List.length_cons, List.length_nil, Nat.zero_add, go_sem]
      rw [if_pos (by omega)]
  · simp [h, c_int]
theorem JournalAdds_eq (l : List C) (x : C) (hw : ∀ y ∈ l, C.wf tEntry3 y) (hl : l.length * 32 ≤ 140737488355328) (hx : C.wf tEntry3 x) (hN : 140737488355329 < N) (k : KD R) : law30_JournalAdds_p N (.slice l) x k = k [.bool true] [] := by
  have hx1 : ∀ y ∈ [x], C.wf tEntry3 y := fun y hy => by rw [List.mem_singleton.1 hy]; exact hx
  rw [law30_JournalAdds_pe]
  unfold law30_JournalAdds_p0
  simp only [jn_eq, law30_light_eq l hw hl (show 4398046511105 < N by omega), law30_light_eq [x] hx1 (by simp) (show 4398046511105 < N by omega), awake30_eq, go_sem, c_bool]
  cases h1 : lightB l with
  | false => simp
  | true =>
    have hl2 : l.length ≤ 200 := by
      unfold lightB at h1
      simp at h1
      omega
    cases h2 : lightB [x] with
    | false => simp [c_bool, dk_2]
    | true =>
      simp only [Bool.not_true, cond_false, go_sem, c_bool, law30_to_eq l hw hl (show 4398046511105 < N by omega), law30_to_eq [x] hx1 (by simp) (show 4398046511105 < N by omega), c_slice]
      simp only [List.length_cons, List.length_nil, Nat.zero_add, go_sem, Add_eq l x hx hl2 (show 4398046511105 < N by omega), Right_eq x hx (show 4398046511105 < N by omega), rRight_eq x hx hN, c_int]
      have hlx : ∀ y ∈ l ++ [x], C.wf tEntry3 y := fun y hy => by
        rcases List.mem_append.1 hy with h | h
        · exact hw y h
        · exact hx1 y h
      have hlx2 : (l ++ [x]).length * 32 ≤ 140737488355328 := by simp; omega
      have N2 : 4398046511105 < N := by omega
      have f1 : ∀ k : KD R, law30_from_p N (C.slice l) k = k [.slice l] [] := law30_from_eq l hw hl N2
      have f2 : ∀ k : KD R, law30_from_p N (C.slice (l ++ [x])) k = k [.slice (l ++ [x])] [] := law30_from_eq (l ++ [x]) hlx hlx2 N2
      have f3 : ∀ k : KD R, law30_from_p N (C.slice []) k = k [.slice []] [] := law30_from_eq [] (by simp) (by simp) N2
      have s1 : ∀ k : KD R, ref30_Same_p N (C.slice l) (C.slice l) k = k [.bool true] [] := Same_refl l hw hl N2
      have s2 : ∀ k : KD R, ref30_Same_p N (C.slice (l ++ [x])) (C.slice (l ++ [x])) k = k [.bool true] [] := Same_refl (l ++ [x]) hlx hlx2 N2
      have s3 : ∀ k : KD R, ref30_Same_p N (C.slice []) (C.slice []) k = k [.bool true] [] := Same_refl [] (by simp) (by simp) N2
      have hb : (l.length + 1).beq (l ++ [x]).length = true := by rw [List.length_append]; exact Nat.beq_refl _
      have hc : (l.length + 1) * 32 ≤ 140737488355328 ∧ l.length + 1 ≤ 9223372036854775807 := by omega
      have t1 : (0 : Int) ≤ 0 ∧ (0 : Int) < 1 := by decide
      by_cases hr : rightN (x.get 1).elems = 0
      · by_cases h0 : 0 < l.length
        · have h0' : (0 : Int) < (l.length : Int) := by omega
          have h1' : (0 : Int) ≤ ((l.length - 1 : Nat) : Int) ∧ ((l.length - 1 : Nat) : Int) < (l.length : Int) := by omega
          by_cases h3 : (x.get 0).toInt < ((l.getD (l.length - 1) C.nil).get 0).toInt
          · have ea : addE l x = 29 := by unfold addE lateB; rw [if_pos hr, decide_eq_true h0, decide_eq_true h3]; rfl
            have e29 : ((29 : Int) = 0) = False := by simp
            simp only [hr, h0', wrap_pred h0 (show l.length < 4611686018427387904 by omega), h1', Int.toNat_natCast, h3, ea, e29, if_true, if_false, c_slice, f1, f3, s1, s3, dk_0, c_bool, cond_true, Int.le_refl, and_self, t1]
          · have ea : addE l x = 0 := by unfold addE lateB; rw [if_pos hr, decide_eq_false h3, Bool.and_false]; rfl
            simp only [hr, h0', wrap_pred h0 (show l.length < 4611686018427387904 by omega), h1', Int.toNat_natCast, h3, ea, hc, hb, if_true, if_false, c_slice, f1, f2, s1, s2, dk_0, c_bool, cond_true, Int.le_refl, and_self, t1]
        · have h0' : ¬ (0 : Int) < (l.length : Int) := by omega
          have ea : addE l x = 0 := by unfold addE lateB; rw [if_pos hr, decide_eq_false h0, Bool.false_and]; rfl
          simp only [hr, h0', ea, hc, hb, if_true, if_false, c_slice, f1, f2, s1, s2, dk_0, c_bool, cond_true, Int.le_refl, and_self, t1]
      · have ea : addE l x = rightN (x.get 1).elems := by unfold addE; simp [hr]
        simp only [ea, hr, if_true, if_false, c_slice, f1, f3, s1, s3, dk_0, c_bool, cond_true, Int.le_refl, and_self, t1]
theorem run_JournalAdds (A : Key → Option O) (l x : C) : DCalls (X0 gl0) 3 [.d (.slice 32 tEntry3) l, .d tEntry3 x] A (.d .bool (.bool true)) [] := by
  refine dcalls_wf (ts := [.slice 32 tEntry3, tEntry3]) (cs := [l, x]) fun W => ?_
  have h0 := W 0 _ _ rfl rfl
  have h1 := W 1 _ _ rfl rfl
  simp only [C.wf] at h0
  refine of_gok (law30_JournalAdds_ok 140737488355330) ?_
  show law30_JournalAdds_g 140737488355330 [.d (.slice 32 tEntry3) l, .d tEntry3 x] A kR = _
  simp only [law30_JournalAdds_g, and_self, if_true]
  rw [h0.1, JournalAdds_eq l.elems x h0.2.2.2 h0.2.1 h1 (by omega)]
  rfl
end Go.Proofs.YtefppgmopnnphaaDoor

