/-
  What the functions on the way compute, part 1.
  Conditions: none.
-/
import Derived.Test.YtfepimekilmgcaaTf
import Derived.Laws.Externs
import Derived.Lib.Bytealg
import Derived.Shelf.SlMaps.Clone
set_option linter.all false
namespace Go.Proofs.Ytfepimekilmgcaa
open Go Go.E
set_option maxRecDepth 10000
set_option linter.unusedSimpArgs false
variable {gl : Nat → Option (Ty × C)}
end Go.Proofs.Ytfepimekilmgcaa


namespace Go.Proofs.Ytfepimekilmgcaa
open Go Go.E
set_option maxRecDepth 10000
set_option linter.unusedSimpArgs false
variable {gl : Nat → Option (Ty × C)}
end Go.Proofs.Ytfepimekilmgcaa


namespace Go.Proofs.Ytfepimekilmgcaa
open Go Go.E
set_option maxRecDepth 100000
end Go.Proofs.Ytfepimekilmgcaa


namespace Go.Proofs.Ytfepimekilmgcaa
open Go Go.E
set_option maxRecDepth 100000
def gl0 : Nat → Option (Ty × C) := fun _ => none
theorem gl0_sub (gl : Nat → Option (Ty × C)) (_ : (0 : Nat) = 0) : ∀ g x, gl0 g = some x → gl g = some x := fun _ _ h => by cases h
def extL : List (Nat × (List V → Option V)) := []
def extX : ExtK := extLook extL
theorem extL_ok (gl : Nat → Option (Ty × C)) : ExtLOk (X0 gl) extL := by
  unfold extL
  repeat' refine ExtLOk.append ?_ ⟨?_, trivial⟩
  · exact trivial
theorem extX_ok (gl : Nat → Option (Ty × C)) : ExtKOk (X0 gl) extX := extLook_ok (extL_ok gl)
def noX : FuncId → Nat → List (Nat × Nat) := fun _ _ => []
end Go.Proofs.Ytfepimekilmgcaa


namespace Go.Proofs.Ytfepimekilmgcaa
open Go Go.E Go.RowKit
set_option maxRecDepth 100000
set_option maxHeartbeats 4000000
set_option linter.unusedSimpArgs false
theorem maps_clone_run (b : Nat) (es : Array MapEntry) (clock : Nat) (w : World) (hb : w.heap[b]? = some (.map es clock)) :
    Calls Try.prog 15 #[.map (some b)] w fun e w' => e = .returned (.map (some w.heap.size)) ∧ w' = w.alloc (.map es clock) := by
  have hu : Try.prog.underlying 52 = some (.map 38 57) := by kernel_rfl
  have hq := fun w => run_eql_map_nil_sl (P := Try.prog) w _ _ _ (some b) hu
  go_enter Try.func15, Try.ntmps15
  go_wp2
  rw [run_callFunc_extern Try.func22 (by kernel_rfl) (by kernel_rfl) (by kernel_rfl) (e := Extern.MapsClone.clone) (by kernel_rfl), run_maps_clone_sl w _ hb]
  simp only [Result.andThen]
  rw [Oper.upon_value]
  go_wp2
  rw [run_typeAssert_map_sl _ _ _ _ _ _ hu]
  simp only [Result.andThen]
  rw [Oper.upon_value]
  go_wp2
  go_ret
  exact ⟨rfl, rfl⟩
theorem clone_map (A : Key → Option O) (k : Key) (es : List (C × V)) (hA : A k = some (.map (.arr 32 (.int .u8)) tEntry2 es)) :
    DCalls (X0 gl0) 15 [.mp (.g k)] A (.mp (.l 1)) [(.l 1, .map (.arr 32 (.int .u8)) tEntry2 es)] := by
  intro A' Γ w args hA' hg hc hn hr
  obtain ⟨c, hok⟩ := hc
  have hs : args.size = 1 := hn.symm
  have h0 : RepV Γ (.mp (.g k)) args[0] := hr 0 _ _ rfl (Array.getElem?_eq_getElem (by omega))
  obtain ⟨b, hι, hv⟩ := repV_mp h0
  have hobj : (S.start [.mp (.g k)] A').obj (.g k) = some (.map (.arr 32 (.int .u8)) tEntry2 es) := hA' _ _ hA
  have ho : args = #[.map (some b)] := by
    apply Array.ext
    · simp [hs]
    · intro i h1 h2
      have : i = 0 := by omega
      subst this
      simpa using hv
  rcases c.obj _ _ hobj with ⟨_, h⟩ | ⟨b', ms, clock, e1, e2, e3, e4, e5, e6, e7, e8⟩
  · exact h.elim
  rw [hι] at e1
  cases e1
  rw [ho]
  refine (maps_clone_run b ms clock w e4).mono fun e w' he => ?_
  obtain ⟨he1, he2⟩ := he
  subst he2
  obtain ⟨h1, h2, h3⟩ := c.addKey (k := .l 1) (show (S.start [.mp (.g k)] A').obj (.l 1) = none from rfl) (Ext.alloc w (.map ms clock)) (τ := .map) (o := .map (.arr 32 (.int .u8)) tEntry2 es) fun Γ' hpr _ hι' hH hZ =>
    ⟨w.heap.size, ms, clock, hι', hH, hZ, heap_alloc_new w _, e5, fun i m c hm hc => by
      obtain ⟨a1, a2, a3, a4⟩ := e6 i m c hm hc
      exact ⟨a1.mono hpr.H, a2, a3.pres hpr (by trivial), a4⟩, e7, e8⟩
  refine ⟨_, _, he1, h3, h1.congr (fun _ => rfl) (fun _ => rfl) (fun _ h => h), ?_⟩
  show RepV _ (.mp (.l 1)) _
  refine (repV_plain rfl).2 ⟨?_, by simp [V.ty, Ty.isAgg, isAggV]⟩
  simp only [RepX]
  exact ⟨w.heap.size, by simp [G.addKey, updK], by simp [Value.cells]⟩
noncomputable def cl_Map_g (_ : Nat) {R : Type} : OvG R := fun xs A K => match xs with
  | [.mp (.g k)] => (match A k with
    | some (.map kt vt es) => if kt = (.arr 32 (.int .u8)) ∧ vt = tEntry2 then K (.mp (.l 1)) [(.l 1, .map (.arr 32 (.int .u8)) tEntry2 es)] else none
    | _ => none)
  | _ => none
theorem cl_Map_ok (N : Nat) {R : Type} : GOk (X0 gl0) 15 (cl_Map_g N (R := R)) := by
  intro xs A Kr r hr
  unfold cl_Map_g at hr
  split at hr
  · split at hr
    · rename_i hA
      simp only [Option.ite_none_right_eq_some] at hr
      obtain ⟨⟨rfl, rfl⟩, hr⟩ := hr
      exact ⟨_, _, clone_map A _ _ hA, hr⟩
    · cases hr
  · cases hr
end Go.Proofs.Ytfepimekilmgcaa


namespace Go.Proofs.Ytfepimekilmgcaa
open Go Go.E
set_option maxRecDepth 100000
set_option maxHeartbeats 4000000
set_option linter.unusedVariables false
noncomputable def mill_New_hs : Hints := [([9], ⟨[], [(0, .as (.ptr (.l 1) [] tMill))], [], [(.l 1, .box (.d tMill))], [], []⟩)]
noncomputable def mill_New_ov (N : Nat) : OvS (X0 gl0) where
  g R := []
  ok := fun R => fun _ h => nomatch h
noncomputable def mill_New_p0 {R : Type} (N : Nat) (k1 : KD R) : Option R := (k1 [C.set (C.agg [C.agg (List.replicate 8 (C.int 0)), C.agg (List.replicate 64 (C.int 0)), C.int 0]) 0 (C.set (C.set (C.set (C.set (C.set (C.set (C.set (C.set (zeroC (Ty.arr 8 (Ty.int IntKind.u32))) 0 (C.int 1779033703)) 1 (C.int 3144134277)) 2 (C.int 1013904242)) 3 (C.int 2773480762)) 4 (C.int 1359893119)) 5 (C.int 2600822924)) 6 (C.int 528734635)) 7 (C.int 1541459225))] [])
noncomputable def mill_New_p {R : Type} (N : Nat) : KD R → Option R := lid "mill_New_p N" (mill_New_p0 N)
theorem mill_New_pe {R : Type} (N : Nat)  (k : KD R) : mill_New_p N  k = mill_New_p0 N  k := by unfold mill_New_p; rw [lid_eq]
theorem mill_New_run {R : Type} (N : Nat)  (K : V → List (Key × O) → Option R) : exF (X0 gl0) ((mill_New_ov N).ov R) extX noX (fun f => bif Nat.beq f 27 then mill_New_hs else []) N 400 8 27 [] A0 K =
    mill_New_p N  (fun d1 m1 => K (V.ptr (Key.l 1) [] tMill) [(Key.l 1, O.box (V.d tMill (dk d1 0)))]) := by
  rw [mill_New_pe]
  exact (show _ = jn (fun d1 m1 => (K (V.ptr (Key.l 1) [] tMill) [(Key.l 1, O.box (V.d tMill (dk d1 0)))])) (mill_New_p0 N ) by kernel_rfl).trans (jn_eq _ _)
noncomputable def mill_New_g (N : Nat) {R : Type} : OvG R := fun xs _ K => match xs with
  | [] => mill_New_p N  (fun d1 m1 => K (V.ptr (Key.l 1) [] tMill) [(Key.l 1, O.box (V.d tMill (dk d1 0)))])
  | _ => none
theorem mill_New_ok (N : Nat) {R : Type} : GOk (X0 gl0) 27 (mill_New_g N (R := R)) := by
  intro xs A Kr r hr
  unfold mill_New_g at hr
  split at hr
  · skip
    rw [← mill_New_run] at hr
    obtain ⟨v, L, h1, h2⟩ := exF_ok (ok0 gl0) (mo gl0) ((mill_New_ov N).ov_ok _) (extX_ok gl0) _ _ _ _ _ _ hr
    exact ⟨v, L, h1.mono (leA_none fun _ => rfl), h2⟩
  · cases hr
end Go.Proofs.Ytfepimekilmgcaa


namespace Go.Proofs.Ytfepimekilmgcaa
open Go Go.E
set_option maxRecDepth 100000
set_option maxHeartbeats 4000000
set_option linter.unusedVariables false
noncomputable def mill_word_hs : Hints := [([1, 0, 1, 1], ⟨[], [(3, .d (.int .u32))], [], [], [], []⟩),
    ([4, 1, 0, 1, 1], ⟨[7, 8], [(3, .d (.int .u32)), (9, .d (.int .i64))], [], [], [], []⟩),
    ([9], ⟨[], [(2, .d (.int .u32))], [], [], [], []⟩)]
noncomputable def mill_word_ov (N : Nat) : OvS (X0 gl0) where
  g R := []
  ok := fun R => fun _ h => nomatch h
noncomputable def mill_word_l1 {R : Type} (N : Nat) (k2 : KD R) : KD R → List C → List Es → Option R := (fun k3 d1 m1 => (bif decide (C.toInt (dk d1 3) < C.toInt (dk d1 1)) then (if 0 ≤ C.toInt (dk d1 3) ∧ C.toInt (dk d1 3) < (↑(List.length (C.elems (dk d1 0))) : Int) then (k3 [dk d1 0, dk d1 1, C.int (bitsC BinOp.or IntKind.u32 (IntKind.wrap IntKind.u32 (C.toInt (dk d1 2) * 2 ^ min (Int.toNat 8) 32)) (IntKind.wrap IntKind.u32 (C.toInt (List.getD (C.elems (dk d1 0)) (Int.toNat (C.toInt (dk d1 3))) C.nil)))), C.int (IntKind.wrap IntKind.i64 (C.toInt (dk d1 3) + 1))] []) else none) else (k2 [dk d1 2] [])))
noncomputable def mill_word_p0 {R : Type} (N : Nat) (a0 : C) (k1 : KD R) : Option R := (if Int.ofNat 0 ≤ 0 ∧ Int.ofNat 0 ≤ 4 ∧ 4 ≤ (↑(List.length (C.elems a0)) : Int) then (jn (fun d1 m1 => (k1 [dk d1 0] [])) (fun k2 => (loopK N (mill_word_l1 N k2) [C.slice (cut (C.elems a0) 0 4), C.int (↑(List.length (cut (C.elems a0) 0 4)) : Int), C.int 0, C.int 0] []))) else none)
noncomputable def mill_word_p {R : Type} (N : Nat) : C → KD R → Option R := lid "mill_word_p N" (mill_word_p0 N)
theorem mill_word_pe {R : Type} (N : Nat) (a0 : C) (k : KD R) : mill_word_p N a0 k = mill_word_p0 N a0 k := by unfold mill_word_p; rw [lid_eq]
theorem mill_word_run {R : Type} (N : Nat) (a0 : C) (K : V → List (Key × O) → Option R) : exF (X0 gl0) ((mill_word_ov N).ov R) extX noX (fun f => bif Nat.beq f 51 then mill_word_hs else []) N 400 8 51 [.d (.slice 1 (.int .u8)) a0] A0 K =
    mill_word_p N a0 (fun d1 m1 => K (V.d (Ty.int IntKind.u32) (dk d1 0)) []) := by
  rw [mill_word_pe]
  exact (show _ = jn (fun d1 m1 => (K (V.d (Ty.int IntKind.u32) (dk d1 0)) [])) (mill_word_p0 N a0) by kernel_rfl).trans (jn_eq _ _)
noncomputable def mill_word_g (N : Nat) {R : Type} : OvG R := fun xs _ K => match xs with
  | [.d t0 a0] => if t0 = (.slice 1 (.int .u8)) then mill_word_p N a0 (fun d1 m1 => K (V.d (Ty.int IntKind.u32) (dk d1 0)) []) else none
  | _ => none
theorem mill_word_ok (N : Nat) {R : Type} : GOk (X0 gl0) 51 (mill_word_g N (R := R)) := by
  intro xs A Kr r hr
  unfold mill_word_g at hr
  split at hr
  · simp only [Option.ite_none_right_eq_some] at hr
    obtain ⟨hty, hr⟩ := hr
    subst hty
    rw [← mill_word_run] at hr
    obtain ⟨v, L, h1, h2⟩ := exF_ok (ok0 gl0) (mo gl0) ((mill_word_ov N).ov_ok _) (extX_ok gl0) _ _ _ _ _ _ hr
    exact ⟨v, L, h1.mono (leA_none fun _ => rfl), h2⟩
  · cases hr
end Go.Proofs.Ytfepimekilmgcaa


namespace Go.Proofs.Ytfepimekilmgcaa
open Go Go.E
set_option maxRecDepth 100000
set_option maxHeartbeats 4000000
set_option linter.unusedVariables false
noncomputable def mill_stirs_hs : Hints := [([9], ⟨[], [(0, .as (.ptr (.l 0) [] (.arr 64 (.int .u32))))], [], [(.l 0, .box (.d (.arr 64 (.int .u32))))], [], []⟩)]
noncomputable def mill_stirs_ov (N : Nat) : OvS (X0 gl0) where
  g R := []
  ok := fun R => fun _ h => nomatch h
noncomputable def mill_stirs_p0 {R : Type} (N : Nat) (k1 : KD R) : Option R := (k1 [C.set (C.set (C.set (C.set (C.set (C.set (C.set (C.set (C.set (C.set (C.set (C.set (C.set (C.set (C.set (C.set (C.set (C.set (C.set (C.set (C.set (C.set (C.set (C.set (C.set (C.set (C.set (C.set (C.set (C.set (C.set (C.set (C.set (C.set (C.set (C.set (C.set (C.set (C.set (C.set (C.set (C.set (C.set (C.set (C.set (C.set (C.set (C.set (C.set (C.set (C.set (C.set (C.set (C.set (C.set (C.set (C.set (C.set (C.set (C.set (C.set (C.set (C.set (C.set (zeroC (Ty.arr 64 (Ty.int IntKind.u32))) 0 (C.int 1116352408)) 1 (C.int 1899447441)) 2 (C.int 3049323471)) 3 (C.int 3921009573)) 4 (C.int 961987163)) 5 (C.int 1508970993)) 6 (C.int 2453635748)) 7 (C.int 2870763221)) 8 (C.int 3624381080)) 9 (C.int 310598401)) 10 (C.int 607225278)) 11 (C.int 1426881987)) 12 (C.int 1925078388)) 13 (C.int 2162078206)) 14 (C.int 2614888103)) 15 (C.int 3248222580)) 16 (C.int 3835390401)) 17 (C.int 4022224774)) 18 (C.int 264347078)) 19 (C.int 604807628)) 20 (C.int 770255983)) 21 (C.int 1249150122)) 22 (C.int 1555081692)) 23 (C.int 1996064986)) 24 (C.int 2554220882)) 25 (C.int 2821834349)) 26 (C.int 2952996808)) 27 (C.int 3210313671)) 28 (C.int 3336571891)) 29 (C.int 3584528711)) 30 (C.int 113926993)) 31 (C.int 338241895)) 32 (C.int 666307205)) 33 (C.int 773529912)) 34 (C.int 1294757372)) 35 (C.int 1396182291)) 36 (C.int 1695183700)) 37 (C.int 1986661051)) 38 (C.int 2177026350)) 39 (C.int 2456956037)) 40 (C.int 2730485921)) 41 (C.int 2820302411)) 42 (C.int 3259730800)) 43 (C.int 3345764771)) 44 (C.int 3516065817)) 45 (C.int 3600352804)) 46 (C.int 4094571909)) 47 (C.int 275423344)) 48 (C.int 430227734)) 49 (C.int 506948616)) 50 (C.int 659060556)) 51 (C.int 883997877)) 52 (C.int 958139571)) 53 (C.int 1322822218)) 54 (C.int 1537002063)) 55 (C.int 1747873779)) 56 (C.int 1955562222)) 57 (C.int 2024104815)) 58 (C.int 2227730452)) 59 (C.int 2361852424)) 60 (C.int 2428436474)) 61 (C.int 2756734187)) 62 (C.int 3204031479)) 63 (C.int 3329325298)] [])
noncomputable def mill_stirs_p {R : Type} (N : Nat) : KD R → Option R := lid "mill_stirs_p N" (mill_stirs_p0 N)
theorem mill_stirs_pe {R : Type} (N : Nat)  (k : KD R) : mill_stirs_p N  k = mill_stirs_p0 N  k := by unfold mill_stirs_p; rw [lid_eq]
theorem mill_stirs_run {R : Type} (N : Nat)  (K : V → List (Key × O) → Option R) : exF (X0 gl0) ((mill_stirs_ov N).ov R) extX noX (fun f => bif Nat.beq f 52 then mill_stirs_hs else []) N 400 8 52 [] A0 K =
    mill_stirs_p N  (fun d1 m1 => K (V.d (Ty.arr 64 (Ty.int IntKind.u32)) (dk d1 0)) []) := by
  rw [mill_stirs_pe]
  exact (show _ = jn (fun d1 m1 => (K (V.d (Ty.arr 64 (Ty.int IntKind.u32)) (dk d1 0)) [])) (mill_stirs_p0 N ) by kernel_rfl).trans (jn_eq _ _)
noncomputable def mill_stirs_g (N : Nat) {R : Type} : OvG R := fun xs _ K => match xs with
  | [] => mill_stirs_p N  (fun d1 m1 => K (V.d (Ty.arr 64 (Ty.int IntKind.u32)) (dk d1 0)) [])
  | _ => none
theorem mill_stirs_ok (N : Nat) {R : Type} : GOk (X0 gl0) 52 (mill_stirs_g N (R := R)) := by
  intro xs A Kr r hr
  unfold mill_stirs_g at hr
  split at hr
  · skip
    rw [← mill_stirs_run] at hr
    obtain ⟨v, L, h1, h2⟩ := exF_ok (ok0 gl0) (mo gl0) ((mill_stirs_ov N).ov_ok _) (extX_ok gl0) _ _ _ _ _ _ hr
    exact ⟨v, L, h1.mono (leA_none fun _ => rfl), h2⟩
  · cases hr
end Go.Proofs.Ytfepimekilmgcaa


namespace Go.Proofs.Ytfepimekilmgcaa
open Go Go.E
set_option maxRecDepth 100000
set_option maxHeartbeats 4000000
set_option linter.unusedVariables false
noncomputable def math_bits_RotateLeft32_hs : Hints := [([9], ⟨[], [(4, .d (.int .u32))], [], [], [], []⟩)]
noncomputable def math_bits_RotateLeft32_ov (N : Nat) : OvS (X0 gl0) where
  g R := []
  ok := fun R => fun _ h => nomatch h
noncomputable def math_bits_RotateLeft32_p0 {R : Type} (N : Nat) (a0 a1 : C) (k1 : KD R) : Option R := (if 0 ≤ IntKind.wrap IntKind.u64 (32 - bitsC BinOp.and IntKind.u64 (IntKind.wrap IntKind.u64 (C.toInt a1)) 31) then (k1 [C.int (bitsC BinOp.or IntKind.u32 (IntKind.wrap IntKind.u32 (C.toInt a0 * 2 ^ min (Int.toNat (bitsC BinOp.and IntKind.u64 (IntKind.wrap IntKind.u64 (C.toInt a1)) 31)) 32)) (Int.fdiv (C.toInt a0) (2 ^ min (Int.toNat (IntKind.wrap IntKind.u64 (32 - bitsC BinOp.and IntKind.u64 (IntKind.wrap IntKind.u64 (C.toInt a1)) 31))) 32)))] []) else none)
noncomputable def math_bits_RotateLeft32_p {R : Type} (N : Nat) : C → C → KD R → Option R := lid "math_bits_RotateLeft32_p N" (math_bits_RotateLeft32_p0 N)
theorem math_bits_RotateLeft32_pe {R : Type} (N : Nat) (a0 a1 : C) (k : KD R) : math_bits_RotateLeft32_p N a0 a1 k = math_bits_RotateLeft32_p0 N a0 a1 k := by unfold math_bits_RotateLeft32_p; rw [lid_eq]
theorem math_bits_RotateLeft32_run {R : Type} (N : Nat) (a0 a1 : C) (K : V → List (Key × O) → Option R) : exF (X0 gl0) ((math_bits_RotateLeft32_ov N).ov R) extX noX (fun f => bif Nat.beq f 55 then math_bits_RotateLeft32_hs else []) N 400 8 55 [.d (.int .u32) a0, .d (.int .i64) a1] A0 K =
    math_bits_RotateLeft32_p N a0 a1 (fun d1 m1 => K (V.d (Ty.int IntKind.u32) (dk d1 0)) []) := by
  rw [math_bits_RotateLeft32_pe]
  exact (show _ = jn (fun d1 m1 => (K (V.d (Ty.int IntKind.u32) (dk d1 0)) [])) (math_bits_RotateLeft32_p0 N a0 a1) by kernel_rfl).trans (jn_eq _ _)
noncomputable def math_bits_RotateLeft32_g (N : Nat) {R : Type} : OvG R := fun xs _ K => match xs with
  | [.d t0 a0, .d t1 a1] => if t0 = (.int .u32) ∧ t1 = (.int .i64) then math_bits_RotateLeft32_p N a0 a1 (fun d1 m1 => K (V.d (Ty.int IntKind.u32) (dk d1 0)) []) else none
  | _ => none
theorem math_bits_RotateLeft32_ok (N : Nat) {R : Type} : GOk (X0 gl0) 55 (math_bits_RotateLeft32_g N (R := R)) := by
  intro xs A Kr r hr
  unfold math_bits_RotateLeft32_g at hr
  split at hr
  · simp only [Option.ite_none_right_eq_some] at hr
    obtain ⟨hty, hr⟩ := hr
    obtain ⟨rfl, rfl⟩ := hty
    rw [← math_bits_RotateLeft32_run] at hr
    obtain ⟨v, L, h1, h2⟩ := exF_ok (ok0 gl0) (mo gl0) ((math_bits_RotateLeft32_ov N).ov_ok _) (extX_ok gl0) _ _ _ _ _ _ hr
    exact ⟨v, L, h1.mono (leA_none fun _ => rfl), h2⟩
  · cases hr
end Go.Proofs.Ytfepimekilmgcaa


namespace Go.Proofs.Ytfepimekilmgcaa
open Go Go.E
set_option maxRecDepth 100000
set_option maxHeartbeats 4000000
set_option linter.unusedVariables false
noncomputable def mill_three_hs : Hints := [([1, 0, 1, 1], ⟨[0, 1, 2], [(11, .d (.int .u32))], [], [], [], []⟩),
    ([9], ⟨[], [(10, .d (.int .u32))], [], [], [], []⟩)]
noncomputable def mill_three_ov (N : Nat) : OvS (X0 gl0) where
  g R := [(55, math_bits_RotateLeft32_g N)]
  ok := fun R => List.forall_mem_cons.2 ⟨math_bits_RotateLeft32_ok N, fun _ h => nomatch h⟩
noncomputable def mill_three_p0 {R : Type} (N : Nat) (a0 a1 a2 a3 a4 : C) (k1 : KD R) : Option R := (math_bits_RotateLeft32_p N a0 (C.int (IntKind.wrap IntKind.i64 (0 - C.toInt a3))) (fun d1 m1 => (jn (fun d2 m2 => (math_bits_RotateLeft32_p N (dk d2 0) (C.int (IntKind.wrap IntKind.i64 (0 - C.toInt (dk d2 1)))) (fun d3 m3 => (math_bits_RotateLeft32_p N (dk d2 0) (C.int (IntKind.wrap IntKind.i64 (0 - C.toInt (dk d2 2)))) (fun d4 m4 => (k1 [C.int (bitsC BinOp.xor IntKind.u32 (bitsC BinOp.xor IntKind.u32 (C.toInt (dk d3 0)) (C.toInt (dk d4 0))) (C.toInt (dk d2 3)))] [])))))) (fun k2 => (bif C.toBool a4 then (if 0 ≤ C.toInt a3 then (k2 [a0, a1, a2, C.int (Int.fdiv (C.toInt a0) (2 ^ min (Int.toNat (C.toInt a3)) 32))] []) else none) else (k2 [a0, a1, a2, dk d1 0] []))))))
noncomputable def mill_three_p {R : Type} (N : Nat) : C → C → C → C → C → KD R → Option R := lid "mill_three_p N" (mill_three_p0 N)
theorem mill_three_pe {R : Type} (N : Nat) (a0 a1 a2 a3 a4 : C) (k : KD R) : mill_three_p N a0 a1 a2 a3 a4 k = mill_three_p0 N a0 a1 a2 a3 a4 k := by unfold mill_three_p; rw [lid_eq]
theorem mill_three_run {R : Type} (N : Nat) (a0 a1 a2 a3 a4 : C) (K : V → List (Key × O) → Option R) : exF (X0 gl0) ((mill_three_ov N).ov R) extX noX (fun f => bif Nat.beq f 53 then mill_three_hs else []) N 400 8 53 [.d (.int .u32) a0, .d (.int .i64) a1, .d (.int .i64) a2, .d (.int .i64) a3, .d .bool a4] A0 K =
    mill_three_p N a0 a1 a2 a3 a4 (fun d1 m1 => K (V.d (Ty.int IntKind.u32) (dk d1 0)) []) := by
  rw [mill_three_pe]
  exact (show _ = jn (fun d1 m1 => (K (V.d (Ty.int IntKind.u32) (dk d1 0)) [])) (mill_three_p0 N a0 a1 a2 a3 a4) by kernel_rfl).trans (jn_eq _ _)
noncomputable def mill_three_g (N : Nat) {R : Type} : OvG R := fun xs _ K => match xs with
  | [.d t0 a0, .d t1 a1, .d t2 a2, .d t3 a3, .d t4 a4] => if t0 = (.int .u32) ∧ t1 = (.int .i64) ∧ t2 = (.int .i64) ∧ t3 = (.int .i64) ∧ t4 = .bool then mill_three_p N a0 a1 a2 a3 a4 (fun d1 m1 => K (V.d (Ty.int IntKind.u32) (dk d1 0)) []) else none
  | _ => none
theorem mill_three_ok (N : Nat) {R : Type} : GOk (X0 gl0) 53 (mill_three_g N (R := R)) := by
  intro xs A Kr r hr
  unfold mill_three_g at hr
  split at hr
  · simp only [Option.ite_none_right_eq_some] at hr
    obtain ⟨hty, hr⟩ := hr
    obtain ⟨rfl, rfl, rfl, rfl, rfl⟩ := hty
    rw [← mill_three_run] at hr
    obtain ⟨v, L, h1, h2⟩ := exF_ok (ok0 gl0) (mo gl0) ((mill_three_ov N).ov_ok _) (extX_ok gl0) _ _ _ _ _ _ hr
    exact ⟨v, L, h1.mono (leA_none fun _ => rfl), h2⟩
  · cases hr
end Go.Proofs.Ytfepimekilmgcaa


namespace Go.Proofs.Ytfepimekilmgcaa
open Go Go.E
set_option maxRecDepth 100000
set_option maxHeartbeats 4000000
set_option linter.unusedVariables false
def mill_Mill_grind_as : List Sh := [.as (.ptr (.g (.l 1)) [] tMill)]
def mill_Mill_grind_os : List (Key × OSh) := [(.l 1, .box (.d tMill))]
noncomputable def mill_Mill_grind_hs : Hints := [([1, 0, 1], ⟨[0, 2], [], [.g (.l 1)], [], [], []⟩),
    ([4, 1, 0, 1], ⟨[0, 2], [(12, .d (.int .i64))], [.g (.l 1)], [], [], []⟩),
    ([1, 0, 1, 1, 1], ⟨[0, 4], [], [.g (.l 1)], [], [], []⟩),
    ([4, 1, 0, 1, 1, 1], ⟨[0, 2, 4, 29], [(30, .d (.int .i64))], [.g (.l 1)], [], [], []⟩),
    ([1, 0, 1, 1, 4, 0, 1, 1, 5, 4, 1, 0, 1, 1, 1], ⟨[0, 2, 4, 6, 7, 29, 30], [], [.g (.l 1)], [], [], []⟩),
    ([1, 1, 1, 1, 1], ⟨[0], [], [.g (.l 1)], [], [], []⟩),
    ([4, 1, 1, 1, 1, 1], ⟨[0, 4], [(126, .d (.int .i64))], [.g (.l 1)], [], [], []⟩),
    ([9], ⟨[], [], [.g (.l 1)], [], [], []⟩)]
noncomputable def mill_Mill_grind_ov (N : Nat) : OvS (X0 gl0) where
  g R := [(51, mill_word_g N), (52, mill_stirs_g N), (53, mill_three_g N)]
  ok := fun R => List.forall_mem_cons.2 ⟨mill_word_ok N, List.forall_mem_cons.2 ⟨mill_stirs_ok N, List.forall_mem_cons.2 ⟨mill_three_ok N, fun _ h => nomatch h⟩⟩⟩
noncomputable def mill_Mill_grind_l1 {R : Type} (N : Nat) (k2 : KD R) : KD R → List C → List Es → Option R := (fun k3 d4 m4 => (bif decide (C.toInt (dk d4 0) < 8) then (if 0 ≤ C.toInt (dk d4 0) ∧ C.toInt (dk d4 0) < 8 then (if 0 ≤ C.toInt (dk d4 0) ∧ C.toInt (dk d4 0) < 8 then (if 0 ≤ C.toInt (dk d4 0) ∧ C.toInt (dk d4 0) < 8 then (k3 [C.int (IntKind.wrap IntKind.i64 (C.toInt (dk d4 0) + 1)), C.set (dk d4 1) 0 (C.set (C.get (dk d4 1) 0) (Int.toNat (C.toInt (dk d4 0))) (C.int (IntKind.wrap IntKind.u32 (C.toInt (C.get (C.get (dk d4 1) 0) (Int.toNat (C.toInt (dk d4 0)))) + C.toInt (C.get (dk d4 2) (Int.toNat (C.toInt (dk d4 0)))))))), dk d4 2] []) else none) else none) else none) else (k2 [dk d4 1] [])))
noncomputable def mill_Mill_grind_l2 {R : Type} (N : Nat) (k2 : KD R) : KD R → List C → List Es → Option R := (fun k3 d3 m3 => (bif decide (C.toInt (dk d3 1) < 64) then (if 0 ≤ C.toInt (dk d3 1) ∧ C.toInt (dk d3 1) < 64 then (jn (fun d4 m4 => (mill_three_p N (C.get (dk d4 6) (Int.toNat 4)) (C.int 6) (C.int 11) (C.int 25) (C.bool false) (fun d5 m5 => (if 0 ≤ C.toInt (dk d4 1) ∧ C.toInt (dk d4 1) < 16 then (mill_three_p N (C.get (dk d4 6) (Int.toNat 0)) (C.int 2) (C.int 13) (C.int 22) (C.bool false) (fun d6 m6 => (k3 [dk d4 2, C.int (IntKind.wrap IntKind.i64 (C.toInt (dk d4 3) + 1)), dk d4 4, dk d4 5, C.set (C.set (C.set (C.set (C.set (C.set (C.set (C.set (zeroC (Ty.arr 8 (Ty.int IntKind.u32))) 0 (C.int (IntKind.wrap IntKind.u32 (IntKind.wrap IntKind.u32 (IntKind.wrap IntKind.u32 (IntKind.wrap IntKind.u32 (IntKind.wrap IntKind.u32 (IntKind.wrap IntKind.u32 (C.toInt (C.get (dk d4 6) (Int.toNat 7)) + C.toInt (dk d5 0)) + bitsC BinOp.xor IntKind.u32 (C.toInt (C.get (dk d4 6) (Int.toNat 6))) (bitsC BinOp.and IntKind.u32 (C.toInt (C.get (dk d4 6) (Int.toNat 4))) (bitsC BinOp.xor IntKind.u32 (C.toInt (C.get (dk d4 6) (Int.toNat 5))) (C.toInt (C.get (dk d4 6) (Int.toNat 6)))))) + C.toInt (dk d4 0)) + C.toInt (C.get (dk d4 5) (Int.toNat (C.toInt (dk d4 1))))) + C.toInt (dk d6 0)) + bitsC BinOp.or IntKind.u32 (bitsC BinOp.and IntKind.u32 (C.toInt (C.get (dk d4 6) (Int.toNat 0))) (C.toInt (C.get (dk d4 6) (Int.toNat 1)))) (bitsC BinOp.and IntKind.u32 (C.toInt (C.get (dk d4 6) (Int.toNat 2))) (bitsC BinOp.or IntKind.u32 (C.toInt (C.get (dk d4 6) (Int.toNat 0))) (C.toInt (C.get (dk d4 6) (Int.toNat 1))))))))) 1 (C.get (dk d4 6) (Int.toNat 0))) 2 (C.get (dk d4 6) (Int.toNat 1))) 3 (C.get (dk d4 6) (Int.toNat 2))) 4 (C.int (IntKind.wrap IntKind.u32 (C.toInt (C.get (dk d4 6) (Int.toNat 3)) + IntKind.wrap IntKind.u32 (IntKind.wrap IntKind.u32 (IntKind.wrap IntKind.u32 (IntKind.wrap IntKind.u32 (C.toInt (C.get (dk d4 6) (Int.toNat 7)) + C.toInt (dk d5 0)) + bitsC BinOp.xor IntKind.u32 (C.toInt (C.get (dk d4 6) (Int.toNat 6))) (bitsC BinOp.and IntKind.u32 (C.toInt (C.get (dk d4 6) (Int.toNat 4))) (bitsC BinOp.xor IntKind.u32 (C.toInt (C.get (dk d4 6) (Int.toNat 5))) (C.toInt (C.get (dk d4 6) (Int.toNat 6)))))) + C.toInt (dk d4 0)) + C.toInt (C.get (dk d4 5) (Int.toNat (C.toInt (dk d4 1))))))))) 5 (C.get (dk d4 6) (Int.toNat 4))) 6 (C.get (dk d4 6) (Int.toNat 5))) 7 (C.get (dk d4 6) (Int.toNat 6))] []))) else none)))) (fun k4 => (bif decide (16 ≤ C.toInt (dk d3 1)) then (if 0 ≤ Int.tmod (C.toInt (dk d3 1)) 16 ∧ Int.tmod (C.toInt (dk d3 1)) 16 < 16 then (if 0 ≤ Int.tmod (IntKind.wrap IntKind.i64 (C.toInt (dk d3 1) + 1)) 16 ∧ Int.tmod (IntKind.wrap IntKind.i64 (C.toInt (dk d3 1) + 1)) 16 < 16 then (mill_three_p N (C.get (dk d3 3) (Int.toNat (Int.tmod (IntKind.wrap IntKind.i64 (C.toInt (dk d3 1) + 1)) 16))) (C.int 7) (C.int 18) (C.int 3) (C.bool true) (fun d4 m4 => (if 0 ≤ Int.tmod (IntKind.wrap IntKind.i64 (C.toInt (dk d3 1) + 9)) 16 ∧ Int.tmod (IntKind.wrap IntKind.i64 (C.toInt (dk d3 1) + 9)) 16 < 16 then (if 0 ≤ Int.tmod (IntKind.wrap IntKind.i64 (C.toInt (dk d3 1) + 14)) 16 ∧ Int.tmod (IntKind.wrap IntKind.i64 (C.toInt (dk d3 1) + 14)) 16 < 16 then (mill_three_p N (C.get (dk d3 3) (Int.toNat (Int.tmod (IntKind.wrap IntKind.i64 (C.toInt (dk d3 1) + 14)) 16))) (C.int 17) (C.int 19) (C.int 10) (C.bool true) (fun d5 m5 => (if 0 ≤ Int.tmod (C.toInt (dk d3 1)) 16 ∧ Int.tmod (C.toInt (dk d3 1)) 16 < 16 then (k4 [C.get (dk d3 0) (Int.toNat (C.toInt (dk d3 1))), C.int (Int.tmod (C.toInt (dk d3 1)) 16), dk d3 0, dk d3 1, dk d3 2, C.set (dk d3 3) (Int.toNat (Int.tmod (C.toInt (dk d3 1)) 16)) (C.int (IntKind.wrap IntKind.u32 (C.toInt (C.get (dk d3 3) (Int.toNat (Int.tmod (C.toInt (dk d3 1)) 16))) + IntKind.wrap IntKind.u32 (IntKind.wrap IntKind.u32 (C.toInt (dk d4 0) + C.toInt (C.get (dk d3 3) (Int.toNat (Int.tmod (IntKind.wrap IntKind.i64 (C.toInt (dk d3 1) + 9)) 16)))) + C.toInt (dk d5 0))))), dk d3 4] []) else none))) else none) else none))) else none) else none) else (k4 [C.get (dk d3 0) (Int.toNat (C.toInt (dk d3 1))), C.int (Int.tmod (C.toInt (dk d3 1)) 16), dk d3 0, dk d3 1, dk d3 2, dk d3 3, dk d3 4] [])))) else none) else (k2 [dk d3 2, dk d3 4] [])))
noncomputable def mill_Mill_grind_l3 {R : Type} (N : Nat) (k2 : KD R) : KD R → List C → List Es → Option R := (fun k3 d1 m1 => (bif decide (C.toInt (dk d1 0) < 16) then (if 0 ≤ IntKind.wrap IntKind.i64 (4 * C.toInt (dk d1 0)) ∧ IntKind.wrap IntKind.i64 (4 * C.toInt (dk d1 0)) ≤ 64 ∧ Int.ofNat 64 ≤ 64 then (mill_word_p N (C.slice (List.take (Int.toNat (64 - IntKind.wrap IntKind.i64 (4 * C.toInt (dk d1 0)))) (List.drop (Int.toNat (IntKind.wrap IntKind.i64 (4 * C.toInt (dk d1 0)))) (C.elems (C.get (dk d1 1) 1))))) (fun d2 m2 => (if 0 ≤ C.toInt (dk d1 0) ∧ C.toInt (dk d1 0) < 16 then (k3 [C.int (IntKind.wrap IntKind.i64 (C.toInt (dk d1 0) + 1)), dk d1 1, C.set (dk d1 2) (Int.toNat (C.toInt (dk d1 0))) (dk d2 0)] []) else none))) else none) else (k2 [dk d1 1, dk d1 2] [])))
noncomputable def mill_Mill_grind_p0 {R : Type} (N : Nat) (b0 : C) (k1 : KD R) : Option R := (jn (fun d1 m1 => (mill_stirs_p N (fun d2 m2 => (jn (fun d3 m3 => (jn (fun d4 m4 => (k1 [dk d4 0] [])) (fun k2 => (loopK N (mill_Mill_grind_l1 N k2) [C.int 0, dk d3 0, dk d3 1] [])))) (fun k2 => (loopK N (mill_Mill_grind_l2 N k2) [dk d2 0, C.int 0, dk d1 0, dk d1 1, C.get (dk d1 0) 0] [])))))) (fun k2 => (loopK N (mill_Mill_grind_l3 N k2) [C.int 0, b0, zeroC (Ty.arr 16 (Ty.int IntKind.u32))] [])))
noncomputable def mill_Mill_grind_p {R : Type} (N : Nat) : C → KD R → Option R := lid "mill_Mill_grind_p N" (mill_Mill_grind_p0 N)
theorem mill_Mill_grind_pe {R : Type} (N : Nat) (b0 : C) (k : KD R) : mill_Mill_grind_p N b0 k = mill_Mill_grind_p0 N b0 k := by unfold mill_Mill_grind_p; rw [lid_eq]
theorem mill_Mill_grind_run {R : Type} (N : Nat) (b0 : C) (K : V → List (Key × O) → Option R) : exF (X0 gl0) ((mill_Mill_grind_ov N).ov R) extX (fun f r => bif Nat.beq f 45 then (bif Nat.beq r 12 then [(46, 7), (58, 7)] else bif Nat.beq r 15 then [(91, 7)] else bif Nat.beq r 16 then [(104, 7)] else bif Nat.beq r 4 then [(22, 8)] else []) else []) (fun f => bif Nat.beq f 45 then mill_Mill_grind_hs else []) N 400 8 45 (Sh.fills mill_Mill_grind_as 0 [b0]) (lookK (locFill mill_Mill_grind_os (Sh.manys mill_Mill_grind_as) 0 [b0] [])) K =
    mill_Mill_grind_p N b0 (fun d1 m1 => K (V.tup []) [(Key.g (Key.l 1), O.box (V.d tMill (dk d1 0)))]) := by
  rw [mill_Mill_grind_pe]
  exact (show _ = jn (fun d1 m1 => (K (V.tup []) [(Key.g (Key.l 1), O.box (V.d tMill (dk d1 0)))])) (mill_Mill_grind_p0 N b0) by kernel_rfl).trans (jn_eq _ _)
noncomputable def mill_Mill_grind_g (N : Nat) {R : Type} : OvG R := ptrG mill_Mill_grind_as mill_Mill_grind_os fun ds ms K => mill_Mill_grind_p N (dk ds 0) (fun d1 m1 => K (V.tup []) [(Key.g (Key.l 1), O.box (V.d tMill (dk d1 0)))])
theorem mill_Mill_grind_ok (N : Nat) {R : Type} : GOk (X0 gl0) 45 (mill_Mill_grind_g N (R := R)) := by
  unfold mill_Mill_grind_g
  refine ptrG_ok fun ds ms K r hr => ?_
  rw [← mill_Mill_grind_run] at hr
  obtain ⟨v, L, h1, h2⟩ := exF_ok (ok0 gl0) (mo gl0) ((mill_Mill_grind_ov N).ov_ok _) (extX_ok gl0) _ _ _ _ _ _ hr
  exact ⟨v, L, h1, h2⟩
end Go.Proofs.Ytfepimekilmgcaa


namespace Go.Proofs.Ytfepimekilmgcaa
open Go Go.E
set_option maxRecDepth 100000
set_option maxHeartbeats 4000000
set_option linter.unusedVariables false
def mill_Mill_put_as : List Sh := [.as (.ptr (.g (.l 1)) [] tMill), .d (.slice 1 (.int .u8))]
def mill_Mill_put_os : List (Key × OSh) := [(.l 1, .box (.d tMill))]
noncomputable def mill_Mill_put_hs : Hints := [([], ⟨[0], [], [.g (.l 1)], [], [], []⟩),
    ([4], ⟨[0], [(1, .d (.slice 1 (.int .u8)))], [.g (.l 1)], [], [], []⟩),
    ([1, 1, 1, 1, 4, 1, 5, 4], ⟨[0, 1], [], [.g (.l 1)], [], [], []⟩),
    ([9], ⟨[], [], [.g (.l 1)], [], [], []⟩)]
noncomputable def mill_Mill_put_ov (N : Nat) : OvS (X0 gl0) where
  g R := [(45, mill_Mill_grind_g N)]
  ok := fun R => List.forall_mem_cons.2 ⟨mill_Mill_grind_ok N, fun _ h => nomatch h⟩
noncomputable def mill_Mill_put_l1 {R : Type} (N : Nat) (k2 : KD R) : KD R → List C → List Es → Option R := (fun k3 d1 m1 => (bif decide (0 < (↑(List.length (C.elems (dk d1 0))) : Int)) then (if 0 ≤ Int.tmod (C.toInt (C.get (dk d1 1) 2)) 64 ∧ Int.tmod (C.toInt (C.get (dk d1 1) 2)) 64 ≤ 64 ∧ Int.ofNat 64 ≤ 64 then (if 0 < Int.toNat (64 - Int.tmod (C.toInt (C.get (dk d1 1) 2)) 64) then (if 0 ≤ (↑(min (List.length (C.elems (dk d1 0))) (Int.toNat (64 - Int.tmod (C.toInt (C.get (dk d1 1) 2)) 64))) : Int) ∧ (↑(min (List.length (C.elems (dk d1 0))) (Int.toNat (64 - Int.tmod (C.toInt (C.get (dk d1 1) 2)) 64))) : Int) ≤ (↑(List.length (C.elems (dk d1 0))) : Int) ∧ (↑(List.length (C.elems (dk d1 0))) : Int) ≤ (↑(List.length (C.elems (dk d1 0))) : Int) then (jn (fun d2 m2 => (k3 [dk d2 0, dk d2 1] [])) (fun k4 => (bif decide (Int.tmod (C.toInt (C.get (C.set (C.set (dk d1 1) 1 (C.agg (copyC (C.elems (C.get (dk d1 1) 1)) (Int.toNat (Int.tmod (C.toInt (C.get (dk d1 1) 2)) 64)) (Int.toNat (64 - Int.tmod (C.toInt (C.get (dk d1 1) 2)) 64)) (C.elems (dk d1 0))))) 2 (C.int (IntKind.wrap IntKind.u64 (C.toInt (C.get (C.set (dk d1 1) 1 (C.agg (copyC (C.elems (C.get (dk d1 1) 1)) (Int.toNat (Int.tmod (C.toInt (C.get (dk d1 1) 2)) 64)) (Int.toNat (64 - Int.tmod (C.toInt (C.get (dk d1 1) 2)) 64)) (C.elems (dk d1 0))))) 2) + IntKind.wrap IntKind.u64 (↑(min (List.length (C.elems (dk d1 0))) (Int.toNat (64 - Int.tmod (C.toInt (C.get (dk d1 1) 2)) 64))) : Int))))) 2)) 64 = 0) then (mill_Mill_grind_p N (C.set (C.set (dk d1 1) 1 (C.agg (copyC (C.elems (C.get (dk d1 1) 1)) (Int.toNat (Int.tmod (C.toInt (C.get (dk d1 1) 2)) 64)) (Int.toNat (64 - Int.tmod (C.toInt (C.get (dk d1 1) 2)) 64)) (C.elems (dk d1 0))))) 2 (C.int (IntKind.wrap IntKind.u64 (C.toInt (C.get (C.set (dk d1 1) 1 (C.agg (copyC (C.elems (C.get (dk d1 1) 1)) (Int.toNat (Int.tmod (C.toInt (C.get (dk d1 1) 2)) 64)) (Int.toNat (64 - Int.tmod (C.toInt (C.get (dk d1 1) 2)) 64)) (C.elems (dk d1 0))))) 2) + IntKind.wrap IntKind.u64 (↑(min (List.length (C.elems (dk d1 0))) (Int.toNat (64 - Int.tmod (C.toInt (C.get (dk d1 1) 2)) 64))) : Int))))) (fun d2 m2 => (k4 [C.slice (cut (C.elems (dk d1 0)) (↑(min (List.length (C.elems (dk d1 0))) (Int.toNat (64 - Int.tmod (C.toInt (C.get (dk d1 1) 2)) 64))) : Int) (↑(List.length (C.elems (dk d1 0))) : Int)), dk d2 0] []))) else (k4 [C.slice (cut (C.elems (dk d1 0)) (↑(min (List.length (C.elems (dk d1 0))) (Int.toNat (64 - Int.tmod (C.toInt (C.get (dk d1 1) 2)) 64))) : Int) (↑(List.length (C.elems (dk d1 0))) : Int)), C.set (C.set (dk d1 1) 1 (C.agg (copyC (C.elems (C.get (dk d1 1) 1)) (Int.toNat (Int.tmod (C.toInt (C.get (dk d1 1) 2)) 64)) (Int.toNat (64 - Int.tmod (C.toInt (C.get (dk d1 1) 2)) 64)) (C.elems (dk d1 0))))) 2 (C.int (IntKind.wrap IntKind.u64 (C.toInt (C.get (C.set (dk d1 1) 1 (C.agg (copyC (C.elems (C.get (dk d1 1) 1)) (Int.toNat (Int.tmod (C.toInt (C.get (dk d1 1) 2)) 64)) (Int.toNat (64 - Int.tmod (C.toInt (C.get (dk d1 1) 2)) 64)) (C.elems (dk d1 0))))) 2) + IntKind.wrap IntKind.u64 (↑(min (List.length (C.elems (dk d1 0))) (Int.toNat (64 - Int.tmod (C.toInt (C.get (dk d1 1) 2)) 64))) : Int))))] [])))) else none) else none) else none) else (k2 [dk d1 1] [])))
noncomputable def mill_Mill_put_p0 {R : Type} (N : Nat) (a0 b0 : C) (k1 : KD R) : Option R := (jn (fun d1 m1 => (k1 [dk d1 0] [])) (fun k2 => (loopK N (mill_Mill_put_l1 N k2) [a0, b0] [])))
noncomputable def mill_Mill_put_p {R : Type} (N : Nat) : C → C → KD R → Option R := lid "mill_Mill_put_p N" (mill_Mill_put_p0 N)
theorem mill_Mill_put_pe {R : Type} (N : Nat) (a0 b0 : C) (k : KD R) : mill_Mill_put_p N a0 b0 k = mill_Mill_put_p0 N a0 b0 k := by unfold mill_Mill_put_p; rw [lid_eq]
theorem mill_Mill_put_run {R : Type} (N : Nat) (a0 b0 : C) (K : V → List (Key × O) → Option R) : exF (X0 gl0) ((mill_Mill_put_ov N).ov R) extX noX (fun f => bif Nat.beq f 34 then mill_Mill_put_hs else []) N 400 8 34 (Sh.fills mill_Mill_put_as 0 [a0, b0]) (lookK (locFill mill_Mill_put_os (Sh.manys mill_Mill_put_as) 0 [a0, b0] [])) K =
    mill_Mill_put_p N a0 b0 (fun d1 m1 => K (V.tup []) [(Key.g (Key.l 1), O.box (V.d tMill (dk d1 0)))]) := by
  rw [mill_Mill_put_pe]
  exact (show _ = jn (fun d1 m1 => (K (V.tup []) [(Key.g (Key.l 1), O.box (V.d tMill (dk d1 0)))])) (mill_Mill_put_p0 N a0 b0) by kernel_rfl).trans (jn_eq _ _)
noncomputable def mill_Mill_put_g (N : Nat) {R : Type} : OvG R := ptrG mill_Mill_put_as mill_Mill_put_os fun ds ms K => mill_Mill_put_p N (dk ds 0) (dk ds 1) (fun d1 m1 => K (V.tup []) [(Key.g (Key.l 1), O.box (V.d tMill (dk d1 0)))])
theorem mill_Mill_put_ok (N : Nat) {R : Type} : GOk (X0 gl0) 34 (mill_Mill_put_g N (R := R)) := by
  unfold mill_Mill_put_g
  refine ptrG_ok fun ds ms K r hr => ?_
  rw [← mill_Mill_put_run] at hr
  obtain ⟨v, L, h1, h2⟩ := exF_ok (ok0 gl0) (mo gl0) ((mill_Mill_put_ov N).ov_ok _) (extX_ok gl0) _ _ _ _ _ _ hr
  exact ⟨v, L, h1, h2⟩
end Go.Proofs.Ytfepimekilmgcaa


namespace Go.Proofs.Ytfepimekilmgcaa
open Go Go.E
set_option maxRecDepth 100000
set_option maxHeartbeats 4000000
set_option linter.unusedVariables false
def mill_Mill_Write_as : List Sh := [.as (.ptr (.g (.l 1)) [] tMill), .d (.slice 24 (.slice 1 (.int .u8)))]
def mill_Mill_Write_os : List (Key × OSh) := [(.l 1, .box (.d tMill))]
noncomputable def mill_Mill_Write_hs : Hints := [([1, 1], ⟨[0], [], [.g (.l 1)], [], [], []⟩),
    ([4, 1, 1], ⟨[0, 8, 9], [(10, .d (.int .i64))], [.g (.l 1)], [], [], []⟩),
    ([9], ⟨[], [], [.g (.l 1)], [], [], []⟩)]
noncomputable def mill_Mill_Write_ov (N : Nat) : OvS (X0 gl0) where
  g R := [(34, mill_Mill_put_g N)]
  ok := fun R => List.forall_mem_cons.2 ⟨mill_Mill_put_ok N, fun _ h => nomatch h⟩
noncomputable def mill_Mill_Write_l1 {R : Type} (N : Nat) (k2 : KD R) : KD R → List C → List Es → Option R := (fun k3 d1 m1 => (bif decide (C.toInt (dk d1 2) < C.toInt (dk d1 1)) then (if 0 ≤ C.toInt (dk d1 2) ∧ C.toInt (dk d1 2) < (↑(List.length (C.elems (dk d1 0))) : Int) then (mill_Mill_put_p N (List.getD (C.elems (dk d1 0)) (Int.toNat (C.toInt (dk d1 2))) C.nil) (dk d1 3) (fun d2 m2 => (k3 [dk d1 0, dk d1 1, C.int (IntKind.wrap IntKind.i64 (C.toInt (dk d1 2) + 1)), dk d2 0] []))) else none) else (k2 [dk d1 3] [])))
noncomputable def mill_Mill_Write_p0 {R : Type} (N : Nat) (a0 b0 : C) (k1 : KD R) : Option R := (jn (fun d1 m1 => (k1 [dk d1 0] [])) (fun k2 => (loopK N (mill_Mill_Write_l1 N k2) [a0, C.int (↑(List.length (C.elems a0)) : Int), C.int 0, b0] [])))
noncomputable def mill_Mill_Write_p {R : Type} (N : Nat) : C → C → KD R → Option R := lid "mill_Mill_Write_p N" (mill_Mill_Write_p0 N)
theorem mill_Mill_Write_pe {R : Type} (N : Nat) (a0 b0 : C) (k : KD R) : mill_Mill_Write_p N a0 b0 k = mill_Mill_Write_p0 N a0 b0 k := by unfold mill_Mill_Write_p; rw [lid_eq]
theorem mill_Mill_Write_run {R : Type} (N : Nat) (a0 b0 : C) (K : V → List (Key × O) → Option R) : exF (X0 gl0) ((mill_Mill_Write_ov N).ov R) extX noX (fun f => bif Nat.beq f 28 then mill_Mill_Write_hs else []) N 400 8 28 (Sh.fills mill_Mill_Write_as 0 [a0, b0]) (lookK (locFill mill_Mill_Write_os (Sh.manys mill_Mill_Write_as) 0 [a0, b0] [])) K =
    mill_Mill_Write_p N a0 b0 (fun d1 m1 => K (V.tup []) [(Key.g (Key.l 1), O.box (V.d tMill (dk d1 0)))]) := by
  rw [mill_Mill_Write_pe]
  exact (show _ = jn (fun d1 m1 => (K (V.tup []) [(Key.g (Key.l 1), O.box (V.d tMill (dk d1 0)))])) (mill_Mill_Write_p0 N a0 b0) by kernel_rfl).trans (jn_eq _ _)
noncomputable def mill_Mill_Write_g (N : Nat) {R : Type} : OvG R := ptrG mill_Mill_Write_as mill_Mill_Write_os fun ds ms K => mill_Mill_Write_p N (dk ds 0) (dk ds 1) (fun d1 m1 => K (V.tup []) [(Key.g (Key.l 1), O.box (V.d tMill (dk d1 0)))])
theorem mill_Mill_Write_ok (N : Nat) {R : Type} : GOk (X0 gl0) 28 (mill_Mill_Write_g N (R := R)) := by
  unfold mill_Mill_Write_g
  refine ptrG_ok fun ds ms K r hr => ?_
  rw [← mill_Mill_Write_run] at hr
  obtain ⟨v, L, h1, h2⟩ := exF_ok (ok0 gl0) (mo gl0) ((mill_Mill_Write_ov N).ov_ok _) (extX_ok gl0) _ _ _ _ _ _ hr
  exact ⟨v, L, h1, h2⟩
end Go.Proofs.Ytfepimekilmgcaa


namespace Go.Proofs.Ytfepimekilmgcaa
open Go Go.E
set_option maxRecDepth 100000
set_option maxHeartbeats 4000000
set_option linter.unusedVariables false
noncomputable def mill_four_hs : Hints := [([9], ⟨[], [(2, .sl 1 (.int .u8) 5002)], [], [], [], []⟩)]
noncomputable def mill_four_ov (N : Nat) : OvS (X0 gl0) where
  g R := []
  ok := fun R => fun _ h => nomatch h
noncomputable def mill_four_p0 {R : Type} (N : Nat) (a0 : C) (k1 : KD R) : Option R := (k1 [C.slice [C.int (IntKind.wrap IntKind.u8 (Int.fdiv (C.toInt a0) (2 ^ min (Int.toNat 24) 32))), C.int (IntKind.wrap IntKind.u8 (Int.fdiv (C.toInt a0) (2 ^ min (Int.toNat 16) 32))), C.int (IntKind.wrap IntKind.u8 (Int.fdiv (C.toInt a0) (2 ^ min (Int.toNat 8) 32))), C.int (IntKind.wrap IntKind.u8 (C.toInt a0))]] [])
noncomputable def mill_four_p {R : Type} (N : Nat) : C → KD R → Option R := lid "mill_four_p N" (mill_four_p0 N)
theorem mill_four_pe {R : Type} (N : Nat) (a0 : C) (k : KD R) : mill_four_p N a0 k = mill_four_p0 N a0 k := by unfold mill_four_p; rw [lid_eq]
theorem mill_four_run {R : Type} (N : Nat) (a0 : C) (K : V → List (Key × O) → Option R) : exF (X0 gl0) ((mill_four_ov N).ov R) extX (fun f r => bif Nat.beq f 29 then (bif Nat.beq r 1 then [(14, 4)] else []) else []) (fun f => bif Nat.beq f 29 then mill_four_hs else []) N 400 8 29 [.d (.int .u32) a0] A0 K =
    mill_four_p N a0 (fun d1 m1 => K (V.ts 1 (Ty.int IntKind.u8) (C.elems (dk d1 0))) []) := by
  rw [mill_four_pe]
  exact (show _ = jn (fun d1 m1 => (bif Nat.beq (List.length (C.elems (dk d1 0))) (List.length (C.elems (dk d1 0))) then
    (K (V.ts 1 (Ty.int IntKind.u8) (C.elems (dk d1 0))) [])
  else
    none)) (mill_four_p0 N a0) by kernel_rfl).trans ((jn_eq _ _).trans (congrArg (mill_four_p0 N a0) (funext fun _ => funext fun _ => by simp only [Nat.beq_refl, cond_true])))
noncomputable def mill_four_g (N : Nat) {R : Type} : OvG R := fun xs _ K => match xs with
  | [.d t0 a0] => if t0 = (.int .u32) then mill_four_p N a0 (fun d1 m1 => K (V.ts 1 (Ty.int IntKind.u8) (C.elems (dk d1 0))) []) else none
  | _ => none
theorem mill_four_ok (N : Nat) {R : Type} : GOk (X0 gl0) 29 (mill_four_g N (R := R)) := by
  intro xs A Kr r hr
  unfold mill_four_g at hr
  split at hr
  · simp only [Option.ite_none_right_eq_some] at hr
    obtain ⟨hty, hr⟩ := hr
    subst hty
    rw [← mill_four_run] at hr
    obtain ⟨v, L, h1, h2⟩ := exF_ok (ok0 gl0) (mo gl0) ((mill_four_ov N).ov_ok _) (extX_ok gl0) _ _ _ _ _ _ hr
    exact ⟨v, L, h1.mono (leA_none fun _ => rfl), h2⟩
  · cases hr
end Go.Proofs.Ytfepimekilmgcaa


namespace Go.Proofs.Ytfepimekilmgcaa
open Go Go.E
set_option maxRecDepth 100000
set_option maxHeartbeats 4000000
set_option linter.unusedVariables false
def mill_Mill_Sum_as : List Sh := [.as (.ptr (.g (.l 1)) [] tMill)]
def mill_Mill_Sum_os : List (Key × OSh) := [(.l 1, .box (.d tMill))]
noncomputable def mill_Mill_Sum_hs : Hints := [([1, 0, 1, 1, 1, 1, 1, 1, 1, 1, 1], ⟨[0, 2, 6], [], [.g (.l 1)], [], [], []⟩),
    ([4, 1, 0, 1, 1, 1, 1, 1, 1, 1, 1, 1], ⟨[0, 2, 6, 38], [(39, .d (.int .i64))], [.g (.l 1)], [], [], []⟩),
    ([9], ⟨[], [(2, .as (.ptr (.l 2) [] (.arr 32 (.int .u8))))], [.g (.l 1)], [(.l 2, .box (.d (.arr 32 (.int .u8))))], [], []⟩)]
noncomputable def mill_Mill_Sum_ov (N : Nat) : OvS (X0 gl0) where
  g R := [(29, mill_four_g N), (34, mill_Mill_put_g N)]
  ok := fun R => List.forall_mem_cons.2 ⟨mill_four_ok N, List.forall_mem_cons.2 ⟨mill_Mill_put_ok N, fun _ h => nomatch h⟩⟩
noncomputable def mill_Mill_Sum_l1 {R : Type} (N : Nat) (k2 : KD R) : KD R → List C → List Es → Option R := (fun k3 d5 m5 => (bif decide (C.toInt (dk d5 1) < 8) then (if 0 ≤ C.toInt (dk d5 1) ∧ C.toInt (dk d5 1) < 8 then (if 0 ≤ IntKind.wrap IntKind.i64 (4 * C.toInt (dk d5 1)) ∧ IntKind.wrap IntKind.i64 (4 * C.toInt (dk d5 1)) ≤ 32 ∧ Int.ofNat 32 ≤ 32 then (mill_four_p N (C.get (dk d5 0) (Int.toNat (C.toInt (dk d5 1)))) (fun d6 m6 => (if 0 < Int.toNat (32 - IntKind.wrap IntKind.i64 (4 * C.toInt (dk d5 1))) then (k3 [dk d5 0, C.int (IntKind.wrap IntKind.i64 (C.toInt (dk d5 1) + 1)), dk d5 2, dk d5 3, C.agg (copyC (C.elems (dk d5 4)) (Int.toNat (IntKind.wrap IntKind.i64 (4 * C.toInt (dk d5 1)))) (Int.toNat (32 - IntKind.wrap IntKind.i64 (4 * C.toInt (dk d5 1)))) (C.elems (dk d6 0)))] []) else none))) else none) else none) else (k2 [dk d5 2, dk d5 3, dk d5 4] [])))
noncomputable def mill_Mill_Sum_p0 {R : Type} (N : Nat) (b0 : C) (k1 : KD R) : Option R := (if 0 ≤ IntKind.wrap IntKind.u64 (64 - Int.tmod (IntKind.wrap IntKind.u64 (C.toInt (C.get b0 2) + 8)) 64) ∧ IntKind.wrap IntKind.u64 (64 - Int.tmod (IntKind.wrap IntKind.u64 (C.toInt (C.get b0 2) + 8)) 64) ≤ IntKind.wrap IntKind.u64 (64 - Int.tmod (IntKind.wrap IntKind.u64 (C.toInt (C.get b0 2) + 8)) 64) ∧ IntKind.wrap IntKind.u64 (64 - Int.tmod (IntKind.wrap IntKind.u64 (C.toInt (C.get b0 2) + 8)) 64) ≤ 9223372036854775807 ∧ Int.toNat (IntKind.wrap IntKind.u64 (64 - Int.tmod (IntKind.wrap IntKind.u64 (C.toInt (C.get b0 2) + 8)) 64)) * 1 ≤ 140737488355328 then (if Int.ofNat 0 ≤ 0 ∧ 0 < (↑(Int.toNat (IntKind.wrap IntKind.u64 (64 - Int.tmod (IntKind.wrap IntKind.u64 (C.toInt (C.get b0 2) + 8)) 64))) : Int) then (mill_Mill_put_p N (C.slice (List.take (Int.toNat (IntKind.wrap IntKind.u64 (64 - Int.tmod (IntKind.wrap IntKind.u64 (C.toInt (C.get b0 2) + 8)) 64))) (List.drop 0 (List.set (List.replicate (Int.toNat (IntKind.wrap IntKind.u64 (64 - Int.tmod (IntKind.wrap IntKind.u64 (C.toInt (C.get b0 2) + 8)) 64))) (zeroC (Ty.int IntKind.u8))) 0 (C.int 128))))) b0 (fun d1 m1 => (mill_four_p N (C.int (IntKind.wrap IntKind.u32 (Int.fdiv (IntKind.wrap IntKind.u64 (C.toInt (C.get b0 2) * 8)) (2 ^ min (Int.toNat 32) 64)))) (fun d2 m2 => (mill_four_p N (C.int (IntKind.wrap IntKind.u32 (IntKind.wrap IntKind.u64 (C.toInt (C.get b0 2) * 8)))) (fun d3 m3 => (bif Nat.beq (List.length (C.elems (dk d2 0))) (List.length (C.elems (dk d2 0))) then (if (List.length (C.elems (dk d2 0)) + List.length (C.elems (dk d3 0))) * 1 ≤ 140737488355328 ∧ List.length (C.elems (dk d2 0)) + List.length (C.elems (dk d3 0)) ≤ 9223372036854775807 then (mill_Mill_put_p N (C.slice (C.elems (dk d2 0) ++ C.elems (dk d3 0))) (dk d1 0) (fun d4 m4 => (jn (fun d5 m5 => (k1 [dk d5 2, dk d5 0] [])) (fun k2 => (loopK N (mill_Mill_Sum_l1 N k2) [C.get (dk d4 0) 0, C.int 0, b0, zeroC (Ty.arr 32 (Ty.int IntKind.u8)), zeroC (Ty.arr 32 (Ty.int IntKind.u8))] []))))) else none) else none))))))) else none) else none)
noncomputable def mill_Mill_Sum_p {R : Type} (N : Nat) : C → KD R → Option R := lid "mill_Mill_Sum_p N" (mill_Mill_Sum_p0 N)
theorem mill_Mill_Sum_pe {R : Type} (N : Nat) (b0 : C) (k : KD R) : mill_Mill_Sum_p N b0 k = mill_Mill_Sum_p0 N b0 k := by unfold mill_Mill_Sum_p; rw [lid_eq]
theorem mill_Mill_Sum_run {R : Type} (N : Nat) (b0 : C) (K : V → List (Key × O) → Option R) : exF (X0 gl0) ((mill_Mill_Sum_ov N).ov R) extX (fun f r => bif Nat.beq f 30 then (bif Nat.beq r 7 then [(27, 100), (3, 16)] else bif Nat.beq r 8 then [(3, 16)] else []) else []) (fun f => bif Nat.beq f 30 then mill_Mill_Sum_hs else []) N 400 8 30 (Sh.fills mill_Mill_Sum_as 0 [b0]) (lookK (locFill mill_Mill_Sum_os (Sh.manys mill_Mill_Sum_as) 0 [b0] [])) K =
    mill_Mill_Sum_p N b0 (fun d1 m1 => K (V.d (Ty.arr 32 (Ty.int IntKind.u8)) (dk d1 0)) [(Key.g (Key.l 1), O.box (V.d tMill (dk d1 1)))]) := by
  rw [mill_Mill_Sum_pe]
  exact (show _ = jn (fun d1 m1 => (K (V.d (Ty.arr 32 (Ty.int IntKind.u8)) (dk d1 0)) [(Key.g (Key.l 1), O.box (V.d tMill (dk d1 1)))])) (mill_Mill_Sum_p0 N b0) by kernel_rfl).trans (jn_eq _ _)
noncomputable def mill_Mill_Sum_g (N : Nat) {R : Type} : OvG R := ptrG mill_Mill_Sum_as mill_Mill_Sum_os fun ds ms K => mill_Mill_Sum_p N (dk ds 0) (fun d1 m1 => K (V.d (Ty.arr 32 (Ty.int IntKind.u8)) (dk d1 0)) [(Key.g (Key.l 1), O.box (V.d tMill (dk d1 1)))])
theorem mill_Mill_Sum_ok (N : Nat) {R : Type} : GOk (X0 gl0) 30 (mill_Mill_Sum_g N (R := R)) := by
  unfold mill_Mill_Sum_g
  refine ptrG_ok fun ds ms K r hr => ?_
  rw [← mill_Mill_Sum_run] at hr
  obtain ⟨v, L, h1, h2⟩ := exF_ok (ok0 gl0) (mo gl0) ((mill_Mill_Sum_ov N).ov_ok _) (extX_ok gl0) _ _ _ _ _ _ hr
  exact ⟨v, L, h1, h2⟩
end Go.Proofs.Ytfepimekilmgcaa


namespace Go.Proofs.Ytfepimekilmgcaa
open Go Go.E
set_option maxRecDepth 100000
set_option maxHeartbeats 4000000
set_option linter.unusedVariables false
noncomputable def mill_For_hs : Hints := [([1, 0, 1, 1, 1], ⟨[4, 5], [], [], [], [], []⟩),
    ([4, 1, 0, 1, 1, 1], ⟨[4, 5, 17, 18], [(19, .d (.int .i64))], [], [], [], []⟩),
    ([9], ⟨[], [(4, .as (.ptr (.l 4) [] (.arr 32 (.int .u8))))], [], [(.l 4, .box (.d (.arr 32 (.int .u8))))], [], []⟩)]
noncomputable def mill_For_ov (N : Nat) : OvS (X0 gl0) where
  g R := [(27, mill_New_g N), (28, mill_Mill_Write_g N), (29, mill_four_g N), (30, mill_Mill_Sum_g N)]
  ok := fun R => List.forall_mem_cons.2 ⟨mill_New_ok N, List.forall_mem_cons.2 ⟨mill_Mill_Write_ok N, List.forall_mem_cons.2 ⟨mill_four_ok N, List.forall_mem_cons.2 ⟨mill_Mill_Sum_ok N, fun _ h => nomatch h⟩⟩⟩⟩
noncomputable def mill_For_l1 {R : Type} (N : Nat) (k2 : KD R) : KD R → List C → List Es → Option R := (fun k3 d3 m3 => (bif decide (C.toInt (dk d3 2) < C.toInt (dk d3 1)) then (if 0 ≤ C.toInt (dk d3 2) ∧ C.toInt (dk d3 2) < (↑(List.length (C.elems (dk d3 0))) : Int) then (mill_four_p N (C.int (IntKind.wrap IntKind.u32 (↑(List.length (C.elems (List.getD (C.elems (dk d3 0)) (Int.toNat (C.toInt (dk d3 2))) C.nil))) : Int))) (fun d4 m4 => (mill_Mill_Write_p N (C.slice [C.slice (C.elems (dk d4 0)), List.getD (C.elems (dk d3 0)) (Int.toNat (C.toInt (dk d3 2))) C.nil]) (dk d3 4) (fun d5 m5 => (k3 [dk d3 0, dk d3 1, C.int (IntKind.wrap IntKind.i64 (C.toInt (dk d3 2) + 1)), dk d3 3, dk d5 0] []))))) else none) else (k2 [dk d3 3, dk d3 4] [])))
noncomputable def mill_For_p0 {R : Type} (N : Nat) (a0 a1 : C) (k1 : KD R) : Option R := (mill_New_p N (fun d1 m1 => (mill_Mill_Write_p N (C.slice [C.slice [a0, C.int (IntKind.wrap IntKind.u8 (↑(List.length (C.elems a1)) : Int))]]) (dk d1 0) (fun d2 m2 => (jn (fun d3 m3 => (mill_Mill_Sum_p N (dk d3 1) (fun d4 m4 => (k1 [dk d4 0] [])))) (fun k2 => (loopK N (mill_For_l1 N k2) [a1, C.int (↑(List.length (C.elems a1)) : Int), C.int 0, zeroC (Ty.arr 32 (Ty.int IntKind.u8)), dk d2 0] [])))))))
noncomputable def mill_For_p {R : Type} (N : Nat) : C → C → KD R → Option R := lid "mill_For_p N" (mill_For_p0 N)
theorem mill_For_pe {R : Type} (N : Nat) (a0 a1 : C) (k : KD R) : mill_For_p N a0 a1 k = mill_For_p0 N a0 a1 k := by unfold mill_For_p; rw [lid_eq]
theorem mill_For_run {R : Type} (N : Nat) (a0 a1 : C) (K : V → List (Key × O) → Option R) : exF (X0 gl0) ((mill_For_ov N).ov R) extX (fun f r => bif Nat.beq f 21 then (bif Nat.beq r 2 then [(5, 16)] else bif Nat.beq r 6 then [(5, 16)] else bif Nat.beq r 8 then [(5, 16)] else []) else []) (fun f => bif Nat.beq f 21 then mill_For_hs else []) N 400 8 21 [.d (.int .u8) a0, .d (.slice 24 (.slice 1 (.int .u8))) a1] A0 K =
    mill_For_p N a0 a1 (fun d1 m1 => K (V.d (Ty.arr 32 (Ty.int IntKind.u8)) (dk d1 0)) []) := by
  rw [mill_For_pe]
  exact (show _ = jn (fun d1 m1 => (K (V.d (Ty.arr 32 (Ty.int IntKind.u8)) (dk d1 0)) [])) (mill_For_p0 N a0 a1) by kernel_rfl).trans (jn_eq _ _)
noncomputable def mill_For_g (N : Nat) {R : Type} : OvG R := fun xs _ K => match xs with
  | [.d t0 a0, .d t1 a1] => if t0 = (.int .u8) ∧ t1 = (.slice 24 (.slice 1 (.int .u8))) then mill_For_p N a0 a1 (fun d1 m1 => K (V.d (Ty.arr 32 (Ty.int IntKind.u8)) (dk d1 0)) []) else none
  | _ => none
theorem mill_For_ok (N : Nat) {R : Type} : GOk (X0 gl0) 21 (mill_For_g N (R := R)) := by
  intro xs A Kr r hr
  unfold mill_For_g at hr
  split at hr
  · simp only [Option.ite_none_right_eq_some] at hr
    obtain ⟨hty, hr⟩ := hr
    obtain ⟨rfl, rfl⟩ := hty
    rw [← mill_For_run] at hr
    obtain ⟨v, L, h1, h2⟩ := exF_ok (ok0 gl0) (mo gl0) ((mill_For_ov N).ov_ok _) (extX_ok gl0) _ _ _ _ _ _ hr
    exact ⟨v, L, h1.mono (leA_none fun _ => rfl), h2⟩
  · cases hr
end Go.Proofs.Ytfepimekilmgcaa


namespace Go.Proofs.Ytfepimekilmgcaa
open Go Go.E
def W64 (a : Int) : Prop := 0 ≤ a ∧ a < 18446744073709551616
theorem wrap_i64 {n : Int} (h : -9223372036854775808 ≤ n) (h2 : n < 9223372036854775808) : IntKind.i64.wrap n = n := IntWalk.i64_in _ (by omega)
theorem getD_mem {l : List C} {i : Nat} (h : i < l.length) : l.getD i .nil ∈ l := by
  rw [List.getD_eq_getElem?_getD, List.getElem?_eq_getElem h]; exact List.getElem_mem h
end Go.Proofs.Ytfepimekilmgcaa


namespace Go.Proofs.Ytfepimekilmgcaa
open Go Go.E
set_option maxRecDepth 100000
set_option maxHeartbeats 4000000
set_option linter.unusedSimpArgs false
variable {R : Type} {N : Nat}
theorem loopK_tot {F : KD R → KD R → List C → List Es → Option R} (inv : Nat → List C → Prop) (P : List C → Prop)
    (step : ∀ n st, inv n st → (∃ st' n', n' < n ∧ inv n' st' ∧ ∀ k rec : KD R, F k rec st [] = rec st' []) ∨ (∃ d, P d ∧ ∀ k rec : KD R, F k rec st [] = k d [])) :
    ∀ (m n : Nat) (st : List C) (N : Nat), n ≤ m → inv n st → n < N → ∃ d, P d ∧ ∀ k : KD R, loopK N (F k) st [] = k d []
  | m, n, st, N, hm, hi, hN => by
    obtain ⟨N, rfl⟩ : ∃ a, N = a + 1 := ⟨N - 1, by omega⟩
    rcases step n st hi with ⟨st', n', h1, h2, h3⟩ | ⟨d, h1, h2⟩
    · match m with
      | 0 => omega
      | m + 1 =>
        obtain ⟨d, h4, h5⟩ := loopK_tot inv P step m n' st' N (by omega) h2 (by omega)
        exact ⟨d, h4, fun k => by rw [loopK_succ, h3, h5]⟩
    · exact ⟨d, h1, fun k => by rw [loopK_succ, h2]⟩
theorem loopK_cnt {F : KD R → KD R → List C → List Es → Option R} (n : Nat) (inv : Nat → List C → Prop) (P : List C → Prop)
    (step : ∀ i st, i < n → inv i st → ∃ st', inv (i + 1) st' ∧ ∀ k rec : KD R, F k rec st [] = rec st' [])
    (stop : ∀ st, inv n st → ∃ d, P d ∧ ∀ k rec : KD R, F k rec st [] = k d [])
    {N : Nat} (hN : n < N) {st : List C} (h0 : inv 0 st) : ∃ d, P d ∧ ∀ k : KD R, loopK N (F k) st [] = k d [] := by
  refine loopK_tot (fun m st => ∃ i, i + m = n ∧ inv i st) P (fun m st hi => ?_) n n st N (Nat.le_refl n) ⟨0, by omega, h0⟩ hN
  obtain ⟨i, h1, h2⟩ := hi
  by_cases e : i = n
  · subst e; exact .inr (stop st h2)
  · obtain ⟨st', h3, h4⟩ := step i st (by omega) h2
    exact .inl ⟨st', m - 1, by omega, ⟨i + 1, by omega, h3⟩, h4⟩
theorem wrap_u64_nn (x : Int) : 0 ≤ IntKind.u64.wrap x ∧ IntKind.u64.wrap x < 18446744073709551616 := by
  have : IntKind.u64.wrap x = x % 18446744073709551616 := by simp [IntKind.wrap, IntKind.bits, IntKind.signed]
  omega
theorem rot32_tot (x : C) (k : Int) : ∃ n : Int, ∀ k' : KD R, math_bits_RotateLeft32_p N x (.int k) k' = k' [.int n] [] :=
  ⟨_, fun k' => by
    rw [math_bits_RotateLeft32_pe]
    unfold math_bits_RotateLeft32_p0
    rw [if_pos (wrap_u64_nn _).1]⟩
theorem three_tot (x : C) (a b c : Int) (f : Bool) (hc : 0 ≤ c) : ∃ n : Int, ∀ k : KD R, mill_three_p N x (.int a) (.int b) (.int c) (.bool f) k = k [.int n] [] := by
  obtain ⟨n1, h1⟩ := rot32_tot (R := R) (N := N) x (IntKind.wrap IntKind.i64 (0 - c))
  obtain ⟨n2, h2⟩ := rot32_tot (R := R) (N := N) x (IntKind.wrap IntKind.i64 (0 - a))
  obtain ⟨n3, h3⟩ := rot32_tot (R := R) (N := N) x (IntKind.wrap IntKind.i64 (0 - b))
  cases f
  · refine ⟨?v1, fun k => ?eq1⟩
    case eq1 =>
      rw [mill_three_pe]
      unfold mill_three_p0
      simp only [jn_eq, dk_0, dk_1, dk_2, dk_3, c_int, c_bool, h1, h2, h3, cond_false]
      rfl
  · refine ⟨?v2, fun k => ?eq2⟩
    case eq2 =>
      rw [mill_three_pe]
      unfold mill_three_p0
      simp only [jn_eq, dk_0, dk_1, dk_2, dk_3, c_int, c_bool, h1, h2, h3, cond_true, if_pos hc]
      rfl
theorem word_tot (l : List C) (hl : 4 ≤ l.length) (hN : 10 < N) : ∃ n : Int, ∀ k : KD R, mill_word_p N (.slice l) k = k [.int n] [] := by
  have hc : (cut l 0 4).length = 4 := by simp [cut]; omega
  have key := loopK_cnt (R := R) (F := fun k2 => mill_word_l1 N k2) 4 (fun i st => ∃ x : Int, st = [.slice (cut l 0 4), .int 4, .int x, .int i]) (fun d => ∃ n : Int, d = [.int n]) ?_ ?_ (N := N) (by omega) (st := [.slice (cut l 0 4), .int 4, .int 0, .int (0 : Nat)]) ⟨0, rfl⟩
  · obtain ⟨d, ⟨n, rfl⟩, h⟩ := key
    refine ⟨n, fun k => ?_⟩
    rw [mill_word_pe]
    unfold mill_word_p0
    have h4 : (4 : Int) ≤ (l.length : Int) := by omega
    simp only [c_slice, hc, h4, jn_eq]
    rw [if_pos ⟨by decide, by decide, trivial⟩]
    exact h _
  · rintro i st hi ⟨x, rfl⟩
    refine ⟨_, ⟨?x3, rfl⟩, fun k rec => ?eq3⟩
    case eq3 =>
      have h1 : (i : Int) < 4 := by omega
      have h2 : (i : Int) < ((4 : Nat) : Int) := by omega
      unfold mill_word_l1
      simp only [dk_0, dk_1, dk_2, dk_3, c_int, c_slice, hc, h1, h2, decide_true, cond_true, Int.natCast_nonneg, and_self, if_true, wrap_succ (show i < 4611686018427387904 by omega)]
      rfl
  · rintro st ⟨x, rfl⟩
    refine ⟨_, ⟨x, rfl⟩, fun k rec => ?_⟩
    unfold mill_word_l1
    have h : ¬ ((4 : Nat) : Int) < 4 := by decide
    simp only [dk_0, dk_1, dk_2, dk_3, c_int, h, decide_false, cond_false]
theorem tmod_range (x m : Int) (hx : 0 ≤ x) (hm : 0 < m) : 0 ≤ Int.tmod x m ∧ Int.tmod x m < m := ⟨Int.tmod_nonneg _ hx, Int.tmod_lt_of_pos _ hm⟩
theorem grind_tot (s n : C) (w : List C) (hw : w.length = 64) (hN : 100 < N) : ∃ s', ∀ k : KD R, mill_Mill_grind_p N (.agg [s, .agg w, n]) k = k [.agg [s', .agg w, n]] [] := by
  obtain ⟨d1, ⟨x1, rfl⟩, h1⟩ := loopK_cnt (R := R) (F := fun k2 => mill_Mill_grind_l3 N k2) 16 (fun i st => ∃ x : C, st = [.int i, .agg [s, .agg w, n], x]) (fun d => ∃ x : C, d = [.agg [s, .agg w, n], x])
    (fun i st hi hst => by
      obtain ⟨x, rfl⟩ := hst
      have e1 : (i : Int) < 16 := by omega
      have e2 : IntKind.i64.wrap (4 * (i : Int)) = 4 * i := wrap_i64 (by omega) (by omega)
      have c1 : 0 ≤ 4 * (i : Int) ∧ 4 * (i : Int) ≤ 64 ∧ Int.ofNat 64 ≤ 64 := ⟨by omega, by omega, by decide⟩
      obtain ⟨v, hv⟩ := word_tot (R := R) (N := N) (List.take (64 - 4 * (i : Int)).toNat (List.drop (4 * (i : Int)).toNat w)) (by simp; omega) (by omega)
      refine ⟨_, ⟨?x4, rfl⟩, fun k rec => ?eq4⟩
      case eq4 =>
        unfold mill_Mill_grind_l3
        simp only [dk_0, dk_1, dk_2, c_int, e1, e2, decide_true, cond_true, Int.natCast_nonneg, and_self, if_true, get_agg_1, c_agg, hv, c1, wrap_succ (show i < 4611686018427387904 by omega)]
        rfl)
    (fun st hst => by
      obtain ⟨x, rfl⟩ := hst
      refine ⟨_, ⟨x, rfl⟩, fun k rec => ?_⟩
      unfold mill_Mill_grind_l3
      have h : ¬ ((16 : Nat) : Int) < 16 := by decide
      simp only [dk_0, dk_1, dk_2, c_int, h, decide_false, cond_false])
    (N := N) (by omega) (st := [.int (0 : Nat), .agg [s, .agg w, n], zeroC (.arr 16 (.int .u32))]) ⟨_, rfl⟩
  obtain ⟨st0, hst0⟩ : ∃ x : C, ∀ k : KD R, mill_stirs_p N k = k [x] [] := ⟨_, fun k => by rw [mill_stirs_pe]; unfold mill_stirs_p0; rfl⟩
  obtain ⟨d2, ⟨x2, rfl⟩, h2⟩ := loopK_cnt (R := R) (F := fun k2 => mill_Mill_grind_l2 N k2) 64 (fun i st => ∃ x y : C, st = [st0, .int i, .agg [s, .agg w, n], x, y]) (fun d => ∃ y : C, d = [.agg [s, .agg w, n], y])
    (fun i st hi hst => by
      obtain ⟨x, y, rfl⟩ := hst
      have e1 : (i : Int) < 64 := by omega
      have r0 := tmod_range (i : Int) 16 (by omega) (by omega)
      have q1 : IntKind.i64.wrap ((i : Int) + 1) = i + 1 := wrap_i64 (by omega) (by omega)
      have q9 : IntKind.i64.wrap ((i : Int) + 9) = i + 9 := wrap_i64 (by omega) (by omega)
      have q14 : IntKind.i64.wrap ((i : Int) + 14) = i + 14 := wrap_i64 (by omega) (by omega)
      have r1 := tmod_range ((i : Int) + 1) 16 (by omega) (by omega)
      have r9 := tmod_range ((i : Int) + 9) 16 (by omega) (by omega)
      have r14 := tmod_range ((i : Int) + 14) 16 (by omega) (by omega)
      obtain ⟨a1, ha1⟩ := three_tot (R := R) (N := N) (C.get y (Int.toNat 4)) 6 11 25 false (by omega)
      obtain ⟨a2, ha2⟩ := three_tot (R := R) (N := N) (C.get y (Int.toNat 0)) 2 13 22 false (by omega)
      obtain ⟨a3, ha3⟩ := three_tot (R := R) (N := N) (C.get x (Int.toNat (Int.tmod ((i : Int) + 1) 16))) 7 18 3 true (by omega)
      obtain ⟨a4, ha4⟩ := three_tot (R := R) (N := N) (C.get x (Int.toNat (Int.tmod ((i : Int) + 14) 16))) 17 19 10 true (by omega)
      have e5 : ((i + 1 : Nat) : Int) = (i : Int) + 1 := by omega
      by_cases e2 : 16 ≤ (i : Int)
      · refine ⟨_, ⟨?x5, ?y5, rfl⟩, fun k rec => ?eq5⟩
        case eq5 =>
          unfold mill_Mill_grind_l2
          simp only [jn_eq, dk_0, dk_1, dk_2, dk_3, dk_4, dk_5, dk_6, c_int, e1, e2, q1, q9, q14, r0, r1, r9, r14, decide_true, cond_true, Int.natCast_nonneg, and_self, if_true, ha1, ha2, ha3, ha4, e5]
          rfl
      · refine ⟨_, ⟨?x6, ?y6, rfl⟩, fun k rec => ?eq6⟩
        case eq6 =>
          unfold mill_Mill_grind_l2
          simp only [jn_eq, dk_0, dk_1, dk_2, dk_3, dk_4, dk_5, dk_6, c_int, e1, e2, q1, r0, decide_true, decide_false, cond_true, cond_false, Int.natCast_nonneg, and_self, if_true, ha1, ha2, e5]
          rfl)
    (fun st hst => by
      obtain ⟨x, y, rfl⟩ := hst
      refine ⟨_, ⟨y, rfl⟩, fun k rec => ?_⟩
      unfold mill_Mill_grind_l2
      have h : ¬ ((64 : Nat) : Int) < 64 := by decide
      simp only [dk_0, dk_1, dk_2, dk_3, dk_4, c_int, h, decide_false, cond_false])
    (N := N) (by omega) (st := [st0, .int (0 : Nat), .agg [s, .agg w, n], x1, s]) ⟨_, _, rfl⟩
  obtain ⟨d3, ⟨x3, rfl⟩, h3⟩ := loopK_cnt (R := R) (F := fun k2 => mill_Mill_grind_l1 N k2) 8 (fun i st => ∃ x : C, st = [.int i, .agg [x, .agg w, n], x2]) (fun d => ∃ x : C, d = [.agg [x, .agg w, n]])
    (fun i st hi hst => by
      obtain ⟨x, rfl⟩ := hst
      have e1 : (i : Int) < 8 := by omega
      refine ⟨_, ⟨?x7, rfl⟩, fun k rec => ?eq7⟩
      case eq7 =>
        unfold mill_Mill_grind_l1
        simp only [dk_0, dk_1, dk_2, c_int, e1, decide_true, cond_true, Int.natCast_nonneg, and_self, if_true, set_agg_0, wrap_succ (show i < 4611686018427387904 by omega)]
        rfl)
    (fun st hst => by
      obtain ⟨x, rfl⟩ := hst
      refine ⟨_, ⟨x, rfl⟩, fun k rec => ?_⟩
      unfold mill_Mill_grind_l1
      have h : ¬ ((8 : Nat) : Int) < 8 := by decide
      simp only [dk_0, dk_1, dk_2, c_int, h, decide_false, cond_false])
    (N := N) (by omega) (st := [.int (0 : Nat), .agg [s, .agg w, n], x2]) ⟨_, rfl⟩
  refine ⟨x3, fun k => ?_⟩
  rw [mill_Mill_grind_pe]
  unfold mill_Mill_grind_p0
  simp only [jn_eq]
  refine (h1 _).trans ?_
  simp only [hst0, dk_0, dk_1, get_agg_0]
  refine (h2 _).trans ?_
  simp only [dk_0, dk_1]
  exact (h3 _).trans rfl
def MillO (m : C) : Prop := ∃ (s : C) (w : List C) (n : Int), m = .agg [s, .agg w, .int n] ∧ w.length = 64 ∧ W64 n
theorem put_tot (l : List C) (m : C) (hm : MillO m) (hN : l.length + 100 < N) : ∃ m', MillO m' ∧ ∀ k : KD R, mill_Mill_put_p N (.slice l) m k = k [m'] [] := by
  obtain ⟨d, ⟨m', h1, rfl⟩, h⟩ := loopK_tot (R := R) (F := fun k2 => mill_Mill_put_l1 N k2) (fun n st => ∃ (l : List C) (m : C), st = [.slice l, m] ∧ MillO m ∧ l.length ≤ n) (fun d => ∃ m', MillO m' ∧ d = [m'])
    (fun n st hst => by
      obtain ⟨l, m, rfl, ⟨s, w, a, rfl, hw, ha⟩, hl⟩ := hst
      by_cases e : 0 < (l.length : Int)
      · left
        have r := tmod_range a 64 ha.1 (by omega)
        generalize hq : Int.tmod a 64 = q at *
        have cw : (copyC w q.toNat (64 - q).toNat l).length = 64 := by rw [copyC_length (by omega)]; exact hw
        have c1 : 0 < (64 - q).toNat := by omega
        generalize hp : min l.length (64 - q).toNat = p at *
        have c2 : 0 ≤ (p : Int) ∧ (p : Int) ≤ (l.length : Int) ∧ (l.length : Int) ≤ (l.length : Int) := by omega
        have c3 : 0 ≤ q ∧ q ≤ 64 ∧ Int.ofNat 64 ≤ 64 := ⟨r.1, by omega, by decide⟩
        obtain ⟨s', hs'⟩ := grind_tot (R := R) (N := N) s (.int (IntKind.u64.wrap (a + IntKind.u64.wrap (p : Int)))) _ cw (by omega)
        have wn := wrap_u64_nn (a + IntKind.u64.wrap (p : Int))
        have cl : (cut l (p : Int) (l.length : Int)).length < l.length := by simp [cut]; omega
        by_cases z : Int.tmod (IntKind.u64.wrap (a + IntKind.u64.wrap (p : Int))) 64 = 0
        · refine ⟨_, (cut l (p : Int) (l.length : Int)).length, by omega, ⟨cut l (p : Int) (l.length : Int), _, rfl, ⟨?s8, _, _, rfl, cw, wn⟩, Nat.le_refl _⟩, fun k rec => ?eq8⟩
          case eq8 =>
            unfold mill_Mill_put_l1
            simp only [jn_eq, dk_0, dk_1, c_int, c_slice, c_agg, get_agg_0, get_agg_1, get_agg_2, set_agg_0, set_agg_1, set_agg_2, e, hq, hp, c1, c2, c3, z, decide_true, cond_true, and_self, if_true, hs']
            rfl
        · refine ⟨_, (cut l (p : Int) (l.length : Int)).length, by omega, ⟨cut l (p : Int) (l.length : Int), _, rfl, ⟨?s9, _, _, rfl, cw, wn⟩, Nat.le_refl _⟩, fun k rec => ?eq9⟩
          case eq9 =>
            unfold mill_Mill_put_l1
            simp only [jn_eq, dk_0, dk_1, c_int, c_slice, c_agg, get_agg_0, get_agg_1, get_agg_2, set_agg_0, set_agg_1, set_agg_2, e, hq, hp, c1, c2, c3, z, decide_true, decide_false, cond_true, cond_false, and_self, if_true]
            rfl
      · right
        refine ⟨_, ⟨_, ⟨s, w, a, rfl, hw, ha⟩, rfl⟩, fun k rec => ?_⟩
        unfold mill_Mill_put_l1
        simp only [dk_0, dk_1, c_slice, e, decide_false, cond_false])
    l.length l.length [.slice l, m] N (Nat.le_refl _) ⟨l, m, rfl, hm, Nat.le_refl _⟩ (by omega)
  refine ⟨m', h1, fun k => ?_⟩
  rw [mill_Mill_put_pe]
  unfold mill_Mill_put_p0
  simp only [jn_eq]
  exact (h _).trans rfl
theorem write_tot (l : List C) (m : C) (hm : MillO m) (B : Nat) (hb : ∀ x ∈ l, ∃ y : List C, x = .slice y ∧ y.length ≤ B) (hl : l.length < N) (hN : B + 100 < N) (hN2 : N < 4611686018427387904) : ∃ m', MillO m' ∧ ∀ k : KD R, mill_Mill_Write_p N (.slice l) m k = k [m'] [] := by
  obtain ⟨d, ⟨m', h1, rfl⟩, h⟩ := loopK_cnt (R := R) (F := fun k2 => mill_Mill_Write_l1 N k2) l.length (fun i st => ∃ m : C, MillO m ∧ st = [.slice l, .int l.length, .int i, m]) (fun d => ∃ m', MillO m' ∧ d = [m'])
    (fun i st hi hst => by
      obtain ⟨m, hm, rfl⟩ := hst
      have e1 : (i : Int) < (l.length : Int) := by omega
      obtain ⟨y, hy, hyl⟩ := hb _ (getD_mem hi)
      obtain ⟨m2, h2, h3⟩ := put_tot (R := R) (N := N) y m hm (by omega)
      refine ⟨_, ⟨m2, h2, rfl⟩, fun k rec => ?_⟩
      unfold mill_Mill_Write_l1
      simp only [dk_0, dk_1, dk_2, dk_3, c_int, c_slice, e1, decide_true, cond_true, Int.natCast_nonneg, and_self, if_true, Int.toNat_natCast, hy, h3, wrap_succ (show i < 4611686018427387904 by omega)])
    (fun st hst => by
      obtain ⟨m, hm, rfl⟩ := hst
      refine ⟨_, ⟨m, hm, rfl⟩, fun k rec => ?_⟩
      unfold mill_Mill_Write_l1
      simp only [dk_0, dk_1, dk_2, dk_3, c_int, Int.lt_irrefl, decide_false, cond_false])
    (N := N) (by omega) (st := [.slice l, .int l.length, .int (0 : Nat), m]) ⟨m, hm, rfl⟩
  refine ⟨m', h1, fun k => ?_⟩
  rw [mill_Mill_Write_pe]
  unfold mill_Mill_Write_p0
  simp only [jn_eq, c_slice]
  exact (h _).trans rfl
def Dig (c : C) : Prop := ∃ l : List C, c = .agg l ∧ l.length = 32
theorem four_eq (n : C) : ∃ x : List C, x.length = 4 ∧ ∀ k : KD R, mill_four_p N n k = k [.slice x] [] :=
  ⟨[C.int (IntKind.wrap IntKind.u8 (Int.fdiv (C.toInt n) (2 ^ min (Int.toNat 24) 32))), C.int (IntKind.wrap IntKind.u8 (Int.fdiv (C.toInt n) (2 ^ min (Int.toNat 16) 32))), C.int (IntKind.wrap IntKind.u8 (Int.fdiv (C.toInt n) (2 ^ min (Int.toNat 8) 32))), C.int (IntKind.wrap IntKind.u8 (C.toInt n))], rfl, fun k => by rw [mill_four_pe]; unfold mill_four_p0; rfl⟩
theorem sum_tot (m : C) (hm : MillO m) (hN : 1000 < N) : ∃ c, Dig c ∧ ∀ k : KD R, mill_Mill_Sum_p N m k = k [c, m] [] := by
  obtain ⟨s, w, a, rfl, hw, ha⟩ := hm
  have r := tmod_range (IntKind.u64.wrap (a + 8)) 64 (wrap_u64_nn _).1 (by omega)
  generalize hq : Int.tmod (IntKind.u64.wrap (a + 8)) 64 = q at r
  have e1 : IntKind.u64.wrap (64 - q) = 64 - q := wrap_u64 (by omega) (by omega)
  obtain ⟨m1, hm1, h1⟩ := put_tot (R := R) (N := N) (List.take (64 - q).toNat (List.drop 0 (List.set (List.replicate (64 - q).toNat (zeroC (Ty.int IntKind.u8))) 0 (C.int 128)))) (.agg [s, .agg w, .int a]) ⟨s, w, a, rfl, hw, ha⟩ (by simp; omega)
  obtain ⟨f1, hf1, g1⟩ := four_eq (R := R) (N := N) (C.int (IntKind.wrap IntKind.u32 (Int.fdiv (IntKind.wrap IntKind.u64 (a * 8)) (2 ^ min (Int.toNat 32) 64))))
  obtain ⟨f2, hf2, g2⟩ := four_eq (R := R) (N := N) (C.int (IntKind.wrap IntKind.u32 (IntKind.wrap IntKind.u64 (a * 8))))
  obtain ⟨m2, hm2, h2⟩ := put_tot (R := R) (N := N) (f1 ++ f2) m1 hm1 (by simp; omega)
  obtain ⟨d, ⟨z, hz, rfl⟩, h3⟩ := loopK_cnt (R := R) (F := fun k2 => mill_Mill_Sum_l1 N k2) 8 (fun i st => ∃ z : C, Dig z ∧ st = [m2.get 0, .int i, .agg [s, .agg w, .int a], zeroC (.arr 32 (.int .u8)), z]) (fun d => ∃ z, Dig z ∧ d = [.agg [s, .agg w, .int a], zeroC (.arr 32 (.int .u8)), z])
    (fun i st hi hst => by
      obtain ⟨z, ⟨zl, rfl, hzl⟩, rfl⟩ := hst
      have e1 : (i : Int) < 8 := by omega
      have e2 : IntKind.i64.wrap (4 * (i : Int)) = 4 * i := wrap_i64 (by omega) (by omega)
      obtain ⟨f, hf, g⟩ := four_eq (R := R) (N := N) (C.get (m2.get 0) i)
      have c1 : 0 < (32 - 4 * (i : Int)).toNat := by omega
      refine ⟨_, ⟨_, ⟨_, rfl, by rw [copyC_length (cs := zl) (lo := (4 * (i : Int)).toNat) (n := (32 - 4 * (i : Int)).toNat) (ys := f) (by omega)]; exact hzl⟩, rfl⟩, fun k rec => ?_⟩
      unfold mill_Mill_Sum_l1
      have c2 : 0 ≤ 4 * (i : Int) ∧ 4 * (i : Int) ≤ 32 ∧ Int.ofNat 32 ≤ 32 := ⟨by omega, by omega, by decide⟩
      simp only [dk_0, dk_1, dk_2, dk_3, dk_4, c_int, c_slice, c_agg, e1, e2, c1, c2, decide_true, cond_true, Int.natCast_nonneg, and_self, if_true, Int.toNat_natCast, g, wrap_succ (show i < 4611686018427387904 by omega)])
    (fun st hst => by
      obtain ⟨z, hz, rfl⟩ := hst
      refine ⟨_, ⟨z, hz, rfl⟩, fun k rec => ?_⟩
      unfold mill_Mill_Sum_l1
      have h : ¬ ((8 : Nat) : Int) < 8 := by decide
      simp only [dk_0, dk_1, dk_2, dk_3, dk_4, c_int, h, decide_false, cond_false])
    (N := N) (by omega) (st := [m2.get 0, .int (0 : Nat), .agg [s, .agg w, .int a], zeroC (.arr 32 (.int .u8)), zeroC (.arr 32 (.int .u8))]) ⟨_, ⟨_, rfl, by decide⟩, rfl⟩
  refine ⟨z, hz, fun k => ?_⟩
  rw [mill_Mill_Sum_pe]
  unfold mill_Mill_Sum_p0
  simp only [get_agg_2, c_int, hq, e1]
  rw [if_pos (by omega), if_pos (by constructor <;> simp <;> omega), h1]
  simp only [dk_0, g1, g2, c_slice, Nat.beq_refl, cond_true, hf1, hf2]
  rw [if_pos (by omega), h2]
  simp only [jn_eq, dk_0]
  exact (h3 _).trans rfl
theorem For_tot (a0 : C) (l : List C) (B : Nat) (hb : ∀ x ∈ l, ∃ y : List C, x = .slice y ∧ y.length ≤ B) (hl : l.length + 1000 < N) (hN : B + 1000 < N) (hN2 : N < 4611686018427387904) : ∃ c, Dig c ∧ ∀ k : KD R, mill_For_p N a0 (.slice l) k = k [c] [] := by
  obtain ⟨m0, hm0, h0⟩ : ∃ m, MillO m ∧ ∀ k : KD R, mill_New_p N k = k [m] [] := ⟨_, ⟨_, List.replicate 64 (.int 0), 0, by rfl, by simp, by unfold W64; omega⟩, fun k => by rw [mill_New_pe]; unfold mill_New_p0; rfl⟩
  obtain ⟨m1, hm1, h1⟩ := write_tot (R := R) (N := N) [C.slice [a0, C.int (IntKind.wrap IntKind.u8 (l.length : Int))]] m0 hm0 10 (fun x hx => ⟨_, List.mem_singleton.1 hx, by simp⟩) (by simp; omega) (by omega) hN2
  obtain ⟨d, ⟨m2, hm2, rfl⟩, h2⟩ := loopK_cnt (R := R) (F := fun k2 => mill_For_l1 N k2) l.length (fun i st => ∃ m : C, MillO m ∧ st = [.slice l, .int l.length, .int i, zeroC (.arr 32 (.int .u8)), m]) (fun d => ∃ m', MillO m' ∧ d = [zeroC (.arr 32 (.int .u8)), m'])
    (fun i st hi hst => by
      obtain ⟨m, hm, rfl⟩ := hst
      have e1 : (i : Int) < (l.length : Int) := by omega
      obtain ⟨y, hy, hyl⟩ := hb _ (getD_mem hi)
      obtain ⟨f, hf, g⟩ := four_eq (R := R) (N := N) (C.int (IntKind.wrap IntKind.u32 (y.length : Int)))
      obtain ⟨m2, h2, h3⟩ := write_tot (R := R) (N := N) [C.slice f, C.slice y] m hm (B + 4) (fun x hx => by
        simp only [List.mem_cons, List.not_mem_nil, or_false] at hx
        rcases hx with rfl | rfl
        · exact ⟨_, rfl, by omega⟩
        · exact ⟨_, rfl, by omega⟩) (by simp; omega) (by omega) hN2
      refine ⟨_, ⟨m2, h2, rfl⟩, fun k rec => ?_⟩
      unfold mill_For_l1
      simp only [dk_0, dk_1, dk_2, dk_3, dk_4, c_int, c_slice, e1, decide_true, cond_true, Int.natCast_nonneg, and_self, if_true, Int.toNat_natCast, hy, g, h3, wrap_succ (show i < 4611686018427387904 by omega)])
    (fun st hst => by
      obtain ⟨m, hm, rfl⟩ := hst
      refine ⟨_, ⟨m, hm, rfl⟩, fun k rec => ?_⟩
      unfold mill_For_l1
      simp only [dk_0, dk_1, dk_2, dk_3, dk_4, c_int, Int.lt_irrefl, decide_false, cond_false])
    (N := N) (by omega) (st := [.slice l, .int l.length, .int (0 : Nat), zeroC (.arr 32 (.int .u8)), m1]) ⟨m1, hm1, rfl⟩
  obtain ⟨c, hc, h3⟩ := sum_tot (R := R) (N := N) m2 hm2 (by omega)
  refine ⟨c, hc, fun k => ?_⟩
  rw [mill_For_pe]
  unfold mill_For_p0
  simp only [h0, dk_0, c_slice, h1, jn_eq]
  refine (h2 _).trans ?_
  simp only [dk_1, h3, dk_0]
end Go.Proofs.Ytfepimekilmgcaa


namespace Go.Proofs.Ytfepimekilmgcaa
open Go Go.E
set_option maxRecDepth 100000
set_option maxHeartbeats 4000000
set_option linter.unusedVariables false
def notary_Notary_When_as : List Sh := [.as (.ptr (.g (.l 1)) [] tNotary2), .d (.arr 32 (.int .u8))]
def notary_Notary_When_os : List (Key × OSh) := [(.l 1, .box (.agg tNotary2 [.as (.mp (.g (.l 2)))])), (.l 2, .map (.arr 32 (.int .u8)) tEntry2)]
noncomputable def notary_Notary_When_hs : Hints := [([9], ⟨[], [(4, .d (.int .u64)), (5, .d .bool)], [], [], [.g (.l 1), .g (.l 2)], []⟩)]
noncomputable def notary_Notary_When_ov (N : Nat) : OvS (X0 gl0) where
  g R := []
  ok := fun R => fun _ h => nomatch h
noncomputable def notary_Notary_When_p0 {R : Type} (N : Nat) (a0 a1 b0 : C) (m0 : Es) (k1 : KD R) : Option R := (bif allDB tEntry2 (dE tEntry2 m0) then (bif hasE (dE tEntry2 m0) a0 then (k1 [C.get (getE (dE tEntry2 m0) a0) 1, C.bool true] []) else (k1 [C.int 0, C.bool false] [])) else none)
noncomputable def notary_Notary_When_p {R : Type} (N : Nat) : C → C → C → Es → KD R → Option R := lid "notary_Notary_When_p N" (notary_Notary_When_p0 N)
theorem notary_Notary_When_pe {R : Type} (N : Nat) (a0 a1 b0 : C) (m0 : Es) (k : KD R) : notary_Notary_When_p N a0 a1 b0 m0 k = notary_Notary_When_p0 N a0 a1 b0 m0 k := by unfold notary_Notary_When_p; rw [lid_eq]
theorem notary_Notary_When_run {R : Type} (N : Nat) (a0 a1 b0 : C) (m0 : Es) (K : V → List (Key × O) → Option R) : exF (X0 gl0) ((notary_Notary_When_ov N).ov R) extX (fun f r => bif Nat.beq f 10 then (bif Nat.beq r 0 then [(3, 5)] else []) else []) (fun f => bif Nat.beq f 10 then notary_Notary_When_hs else []) N 400 8 10 (Sh.fills notary_Notary_When_as 0 [a0, a1, b0]) (lookK (locFill notary_Notary_When_os (Sh.manys notary_Notary_When_as) 0 [a0, a1, b0] [m0])) K =
    notary_Notary_When_p N a0 a1 b0 m0 (fun d1 m1 => K (V.tup [V.d (Ty.int IntKind.u64) (dk d1 0), V.d Ty.bool (C.bool (C.toBool (dk d1 1)))]) []) := by
  rw [notary_Notary_When_pe]
  exact (show _ = jn (fun d1 m1 => (K (V.tup [V.d (Ty.int IntKind.u64) (dk d1 0), V.d Ty.bool (C.bool (C.toBool (dk d1 1)))]) [])) (notary_Notary_When_p0 N a0 a1 b0 m0) by kernel_rfl).trans (jn_eq _ _)
noncomputable def notary_Notary_When_g (N : Nat) {R : Type} : OvG R := ptrG notary_Notary_When_as notary_Notary_When_os fun ds ms K => notary_Notary_When_p N (dk ds 0) (dk ds 1) (dk ds 2) (dm ms 0) (fun d1 m1 => K (V.tup [V.d (Ty.int IntKind.u64) (dk d1 0), V.d Ty.bool (C.bool (C.toBool (dk d1 1)))]) [])
theorem notary_Notary_When_ok (N : Nat) {R : Type} : GOk (X0 gl0) 10 (notary_Notary_When_g N (R := R)) := by
  unfold notary_Notary_When_g
  refine ptrG_ok fun ds ms K r hr => ?_
  rw [← notary_Notary_When_run] at hr
  obtain ⟨v, L, h1, h2⟩ := exF_ok (ok0 gl0) (mo gl0) ((notary_Notary_When_ov N).ov_ok _) (extX_ok gl0) _ _ _ _ _ _ hr
  exact ⟨v, L, h1, h2⟩
end Go.Proofs.Ytfepimekilmgcaa


namespace Go.Proofs.Ytfepimekilmgcaa
open Go Go.E
set_option maxRecDepth 100000
set_option maxHeartbeats 4000000
set_option linter.unusedVariables false
def notary_Notary_In_as : List Sh := [.as (.ptr (.g (.l 1)) [] tNotary2), .d (.arr 32 (.int .u8)), .d (.int .u64)]
def notary_Notary_In_os : List (Key × OSh) := [(.l 1, .box (.agg tNotary2 [.as (.mp (.g (.l 2)))])), (.l 2, .map (.arr 32 (.int .u8)) tEntry2)]
noncomputable def notary_Notary_In_hs : Hints := [([0, 1, 1], ⟨[0], [(6, .d .bool)], [], [], [.g (.l 1), .g (.l 2)], []⟩),
    ([9], ⟨[], [(6, .d .bool)], [], [], [.g (.l 1), .g (.l 2)], []⟩)]
noncomputable def notary_Notary_In_ov (N : Nat) : OvS (X0 gl0) where
  g R := [(10, notary_Notary_When_g N)]
  ok := fun R => List.forall_mem_cons.2 ⟨notary_Notary_When_ok N, fun _ h => nomatch h⟩
noncomputable def notary_Notary_In_p0 {R : Type} (N : Nat) (a0 a1 a2 b0 : C) (m0 : Es) (k1 : KD R) : Option R := (if allD tEntry2 (List.map (fun c => (Prod.fst c, V.ren (swU (Key.l 2) (runSw (if Key.l 1 = runSw [] (Key.g (Key.l 1)) then [] else [] ++ [(Key.l 1, runSw [] (Key.g (Key.l 1)))]) (Key.g (Key.l 2)))) id (Prod.snd c))) (List.map (fun c => (Prod.fst c, V.ren (swU (Key.l 1) (runSw [] (Key.g (Key.l 1)))) id (Prod.snd c))) (List.map (fun c => (Prod.fst c, V.ren Key.g id (Prod.snd c))) (dE tEntry2 m0)))) = true then (notary_Notary_When_p N a0 C.nil C.nil (unE (List.map (fun c => (Prod.fst c, V.ren (swU (Key.l 2) (runSw (if Key.l 1 = runSw [] (Key.g (Key.l 1)) then [] else [] ++ [(Key.l 1, runSw [] (Key.g (Key.l 1)))]) (Key.g (Key.l 2)))) id (Prod.snd c))) (List.map (fun c => (Prod.fst c, V.ren (swU (Key.l 1) (runSw [] (Key.g (Key.l 1)))) id (Prod.snd c))) (List.map (fun c => (Prod.fst c, V.ren Key.g id (Prod.snd c))) (dE tEntry2 m0))))) (fun d1 m1 => (jn (fun d2 m2 => (k1 [C.bool (C.toBool (dk d2 0))] [])) (fun k2 => (bif C.toBool (dk d1 1) then (k2 [C.bool (decide (C.toInt (dk d1 0) ≤ C.toInt a1))] []) else (k2 [C.bool false] [])))))) else none)
noncomputable def notary_Notary_In_p {R : Type} (N : Nat) : C → C → C → C → Es → KD R → Option R := lid "notary_Notary_In_p N" (notary_Notary_In_p0 N)
theorem notary_Notary_In_pe {R : Type} (N : Nat) (a0 a1 a2 b0 : C) (m0 : Es) (k : KD R) : notary_Notary_In_p N a0 a1 a2 b0 m0 k = notary_Notary_In_p0 N a0 a1 a2 b0 m0 k := by unfold notary_Notary_In_p; rw [lid_eq]
theorem notary_Notary_In_run {R : Type} (N : Nat) (a0 a1 a2 b0 : C) (m0 : Es) (K : V → List (Key × O) → Option R) : exF (X0 gl0) ((notary_Notary_In_ov N).ov R) extX (fun f r => bif Nat.beq f 16 then (bif Nat.beq r 0 then [(4, 5)] else []) else []) (fun f => bif Nat.beq f 16 then notary_Notary_In_hs else []) N 400 8 16 (Sh.fills notary_Notary_In_as 0 [a0, a1, a2, b0]) (lookK (locFill notary_Notary_In_os (Sh.manys notary_Notary_In_as) 0 [a0, a1, a2, b0] [m0])) K =
    notary_Notary_In_p N a0 a1 a2 b0 m0 (fun d1 m1 => K (V.d Ty.bool (C.bool (C.toBool (dk d1 0)))) []) := by
  rw [notary_Notary_In_pe]
  exact (show _ = jn (fun d1 m1 => (K (V.d Ty.bool (C.bool (C.toBool (dk d1 0)))) [])) (notary_Notary_In_p0 N a0 a1 a2 b0 m0) by kernel_rfl).trans (jn_eq _ _)
noncomputable def notary_Notary_In_g (N : Nat) {R : Type} : OvG R := ptrG notary_Notary_In_as notary_Notary_In_os fun ds ms K => notary_Notary_In_p N (dk ds 0) (dk ds 1) (dk ds 2) (dk ds 3) (dm ms 0) (fun d1 m1 => K (V.d Ty.bool (C.bool (C.toBool (dk d1 0)))) [])
theorem notary_Notary_In_ok (N : Nat) {R : Type} : GOk (X0 gl0) 16 (notary_Notary_In_g N (R := R)) := by
  unfold notary_Notary_In_g
  refine ptrG_ok fun ds ms K r hr => ?_
  rw [← notary_Notary_In_run] at hr
  obtain ⟨v, L, h1, h2⟩ := exF_ok (ok0 gl0) (mo gl0) ((notary_Notary_In_ov N).ov_ok _) (extX_ok gl0) _ _ _ _ _ _ hr
  exact ⟨v, L, h1, h2⟩
end Go.Proofs.Ytfepimekilmgcaa


namespace Go.Proofs.Ytfepimekilmgcaa
open Go Go.E
set_option maxRecDepth 100000
set_option maxHeartbeats 4000000
set_option linter.unusedVariables false
def notary_Notary_Of_as : List Sh := [.as (.ptr (.g (.l 1)) [] tNotary2), .d tCond, .d (.int .u64)]
def notary_Notary_Of_os : List (Key × OSh) := [(.l 1, .box (.agg tNotary2 [.as (.mp (.g (.l 2)))])), (.l 2, .map (.arr 32 (.int .u8)) tEntry2)]
noncomputable def notary_Notary_Of_hs : Hints := [([9], ⟨[], [(6, .d (.int .i64))], [], [], [.g (.l 1), .g (.l 2)], []⟩)]
noncomputable def notary_Notary_Of_ov (N : Nat) : OvS (X0 gl0) where
  g R := [(16, notary_Notary_In_g N)]
  ok := fun R => List.forall_mem_cons.2 ⟨notary_Notary_In_ok N, fun _ h => nomatch h⟩
noncomputable def notary_Notary_Of_p0 {R : Type} (N : Nat) (a0 a1 b0 : C) (m0 : Es) (k1 : KD R) : Option R := (if allD tEntry2 (List.map (fun c => (Prod.fst c, V.ren (swU (Key.l 2) (runSw (if Key.l 1 = runSw [] (Key.g (Key.l 1)) then [] else [] ++ [(Key.l 1, runSw [] (Key.g (Key.l 1)))]) (Key.g (Key.l 2)))) id (Prod.snd c))) (List.map (fun c => (Prod.fst c, V.ren (swU (Key.l 1) (runSw [] (Key.g (Key.l 1)))) id (Prod.snd c))) (List.map (fun c => (Prod.fst c, V.ren Key.g id (Prod.snd c))) (dE tEntry2 m0)))) = true then (notary_Notary_In_p N (C.get a0 3) (C.get a0 4) C.nil C.nil (unE (List.map (fun c => (Prod.fst c, V.ren (swU (Key.l 2) (runSw (if Key.l 1 = runSw [] (Key.g (Key.l 1)) then [] else [] ++ [(Key.l 1, runSw [] (Key.g (Key.l 1)))]) (Key.g (Key.l 2)))) id (Prod.snd c))) (List.map (fun c => (Prod.fst c, V.ren (swU (Key.l 1) (runSw [] (Key.g (Key.l 1)))) id (Prod.snd c))) (List.map (fun c => (Prod.fst c, V.ren Key.g id (Prod.snd c))) (dE tEntry2 m0))))) (fun d1 m1 => (bif C.toBool (dk d1 0) then (k1 [C.int 1] []) else (bif decide (C.toInt (C.get a0 4) < C.toInt a1) then (k1 [C.int 2] []) else (k1 [C.int 0] []))))) else none)
noncomputable def notary_Notary_Of_p {R : Type} (N : Nat) : C → C → C → Es → KD R → Option R := lid "notary_Notary_Of_p N" (notary_Notary_Of_p0 N)
theorem notary_Notary_Of_pe {R : Type} (N : Nat) (a0 a1 b0 : C) (m0 : Es) (k : KD R) : notary_Notary_Of_p N a0 a1 b0 m0 k = notary_Notary_Of_p0 N a0 a1 b0 m0 k := by unfold notary_Notary_Of_p; rw [lid_eq]
theorem notary_Notary_Of_run {R : Type} (N : Nat) (a0 a1 b0 : C) (m0 : Es) (K : V → List (Key × O) → Option R) : exF (X0 gl0) ((notary_Notary_Of_ov N).ov R) extX (fun f r => bif Nat.beq f 8 then (bif Nat.beq r 0 then [(4, 5)] else []) else []) (fun f => bif Nat.beq f 8 then notary_Notary_Of_hs else []) N 400 8 8 (Sh.fills notary_Notary_Of_as 0 [a0, a1, b0]) (lookK (locFill notary_Notary_Of_os (Sh.manys notary_Notary_Of_as) 0 [a0, a1, b0] [m0])) K =
    notary_Notary_Of_p N a0 a1 b0 m0 (fun d1 m1 => K (V.d (Ty.int IntKind.i64) (dk d1 0)) []) := by
  rw [notary_Notary_Of_pe]
  exact (show _ = jn (fun d1 m1 => (K (V.d (Ty.int IntKind.i64) (dk d1 0)) [])) (notary_Notary_Of_p0 N a0 a1 b0 m0) by kernel_rfl).trans (jn_eq _ _)
noncomputable def notary_Notary_Of_g (N : Nat) {R : Type} : OvG R := ptrG notary_Notary_Of_as notary_Notary_Of_os fun ds ms K => notary_Notary_Of_p N (dk ds 0) (dk ds 1) (dk ds 2) (dm ms 0) (fun d1 m1 => K (V.d (Ty.int IntKind.i64) (dk d1 0)) [])
theorem notary_Notary_Of_ok (N : Nat) {R : Type} : GOk (X0 gl0) 8 (notary_Notary_Of_g N (R := R)) := by
  unfold notary_Notary_Of_g
  refine ptrG_ok fun ds ms K r hr => ?_
  rw [← notary_Notary_Of_run] at hr
  obtain ⟨v, L, h1, h2⟩ := exF_ok (ok0 gl0) (mo gl0) ((notary_Notary_Of_ov N).ov_ok _) (extX_ok gl0) _ _ _ _ _ _ hr
  exact ⟨v, L, h1, h2⟩
end Go.Proofs.Ytfepimekilmgcaa


namespace Go.Proofs.Ytfepimekilmgcaa
open Go Go.E
set_option maxRecDepth 100000
set_option maxHeartbeats 4000000
set_option linter.unusedVariables false
noncomputable def mill_Lock_hs : Hints := [([9], ⟨[], [(2, .as (.ptr (.l 2) [] (.arr 32 (.int .u8))))], [], [(.l 2, .box (.d (.arr 32 (.int .u8))))], [], []⟩)]
noncomputable def mill_Lock_ov (N : Nat) : OvS (X0 gl0) where
  g R := [(21, mill_For_g N)]
  ok := fun R => List.forall_mem_cons.2 ⟨mill_For_ok N, fun _ h => nomatch h⟩
noncomputable def mill_Lock_p0 {R : Type} (N : Nat) (a0 : C) (k1 : KD R) : Option R := (mill_For_p N (C.int 6) (C.slice [C.slice (cut (C.elems a0) 0 32)]) (fun d1 m1 => (k1 [dk d1 0] [])))
noncomputable def mill_Lock_p {R : Type} (N : Nat) : C → KD R → Option R := lid "mill_Lock_p N" (mill_Lock_p0 N)
theorem mill_Lock_pe {R : Type} (N : Nat) (a0 : C) (k : KD R) : mill_Lock_p N a0 k = mill_Lock_p0 N a0 k := by unfold mill_Lock_p; rw [lid_eq]
theorem mill_Lock_run {R : Type} (N : Nat) (a0 : C) (K : V → List (Key × O) → Option R) : exF (X0 gl0) ((mill_Lock_ov N).ov R) extX (fun f r => bif Nat.beq f 14 then (bif Nat.beq r 0 then [(1, 5)] else []) else []) (fun f => bif Nat.beq f 14 then mill_Lock_hs else []) N 400 8 14 [.d (.arr 32 (.int .u8)) a0] A0 K =
    mill_Lock_p N a0 (fun d1 m1 => K (V.d (Ty.arr 32 (Ty.int IntKind.u8)) (dk d1 0)) []) := by
  rw [mill_Lock_pe]
  exact (show _ = jn (fun d1 m1 => (K (V.d (Ty.arr 32 (Ty.int IntKind.u8)) (dk d1 0)) [])) (mill_Lock_p0 N a0) by kernel_rfl).trans (jn_eq _ _)
noncomputable def mill_Lock_g (N : Nat) {R : Type} : OvG R := fun xs _ K => match xs with
  | [.d t0 a0] => if t0 = (.arr 32 (.int .u8)) then mill_Lock_p N a0 (fun d1 m1 => K (V.d (Ty.arr 32 (Ty.int IntKind.u8)) (dk d1 0)) []) else none
  | _ => none
theorem mill_Lock_ok (N : Nat) {R : Type} : GOk (X0 gl0) 14 (mill_Lock_g N (R := R)) := by
  intro xs A Kr r hr
  unfold mill_Lock_g at hr
  split at hr
  · simp only [Option.ite_none_right_eq_some] at hr
    obtain ⟨hty, hr⟩ := hr
    subst hty
    rw [← mill_Lock_run] at hr
    obtain ⟨v, L, h1, h2⟩ := exF_ok (ok0 gl0) (mo gl0) ((mill_Lock_ov N).ov_ok _) (extX_ok gl0) _ _ _ _ _ _ hr
    exact ⟨v, L, h1.mono (leA_none fun _ => rfl), h2⟩
  · cases hr
end Go.Proofs.Ytfepimekilmgcaa


namespace Go.Proofs.Ytfepimekilmgcaa
open Go Go.E
set_option maxRecDepth 100000
set_option maxHeartbeats 4000000
set_option linter.unusedVariables false
def notary_Notary_Tell_as : List Sh := [.as (.ptr (.g (.l 1)) [] tNotary2), .d (.arr 32 (.int .u8)), .d (.int .u64)]
def notary_Notary_Tell_os : List (Key × OSh) := [(.l 1, .box (.agg tNotary2 [.as (.mp (.g (.l 2)))])), (.l 2, .map (.arr 32 (.int .u8)) tEntry2)]
noncomputable def notary_Notary_Tell_hs : Hints := [([9], ⟨[], [(6, .d (.int .i64))], [.g (.l 1), .g (.l 2)], [], [], []⟩)]
noncomputable def notary_Notary_Tell_ov (N : Nat) : OvS (X0 gl0) where
  g R := [(14, mill_Lock_g N)]
  ok := fun R => List.forall_mem_cons.2 ⟨mill_Lock_ok N, fun _ h => nomatch h⟩
noncomputable def notary_Notary_Tell_p0 {R : Type} (N : Nat) (a0 a1 a2 b0 : C) (m0 : Es) (k1 : KD R) : Option R := (mill_Lock_p N a0 (fun d1 m1 => (bif allDB tEntry2 (dE tEntry2 m0) then (bif hasE (dE tEntry2 m0) (dk d1 0) then (if allD tEntry2 (dE tEntry2 m0) = true then (k1 [C.int 7] [unE (dE tEntry2 m0)]) else none) else (if allD tEntry2 (putMB (dE tEntry2 (dm [m0] 0)) (dk d1 0) (V.d tEntry2 (C.set (C.set (C.agg [C.agg (List.replicate 32 (C.int 0)), C.int 0]) 0 a0) 1 a1))) = true then (k1 [C.int 0] [unE (putMB (dE tEntry2 (dm [m0] 0)) (dk d1 0) (V.d tEntry2 (C.set (C.set (C.agg [C.agg (List.replicate 32 (C.int 0)), C.int 0]) 0 a0) 1 a1)))]) else none)) else none)))
noncomputable def notary_Notary_Tell_p {R : Type} (N : Nat) : C → C → C → C → Es → KD R → Option R := lid "notary_Notary_Tell_p N" (notary_Notary_Tell_p0 N)
theorem notary_Notary_Tell_pe {R : Type} (N : Nat) (a0 a1 a2 b0 : C) (m0 : Es) (k : KD R) : notary_Notary_Tell_p N a0 a1 a2 b0 m0 k = notary_Notary_Tell_p0 N a0 a1 a2 b0 m0 k := by unfold notary_Notary_Tell_p; rw [lid_eq]
theorem notary_Notary_Tell_run {R : Type} (N : Nat) (a0 a1 a2 b0 : C) (m0 : Es) (K : V → List (Key × O) → Option R) : exF (X0 gl0) ((notary_Notary_Tell_ov N).ov R) extX (fun f r => bif Nat.beq f 7 then (bif Nat.beq r 0 then [(4, 5)] else bif Nat.beq r 4 then [(7, 6)] else bif Nat.beq r 7 then [(7, 6)] else []) else []) (fun f => bif Nat.beq f 7 then notary_Notary_Tell_hs else []) N 400 8 7 (Sh.fills notary_Notary_Tell_as 0 [a0, a1, a2, b0]) (lookK (locFill notary_Notary_Tell_os (Sh.manys notary_Notary_Tell_as) 0 [a0, a1, a2, b0] [m0])) K =
    notary_Notary_Tell_p N a0 a1 a2 b0 m0 (fun d1 m1 => K (V.d (Ty.int IntKind.i64) (dk d1 0)) [(Key.g (Key.l 1), O.box (V.agg tNotary2 [V.mp (Key.g (Key.l 2))])),
  (Key.g (Key.l 2), O.map (Ty.arr 32 (Ty.int IntKind.u8)) tEntry2 (dE tEntry2 (dm m1 0)))]) := by
  rw [notary_Notary_Tell_pe]
  exact (show _ = jn (fun d1 m1 => (if (true && true) = true ∧
  (true && true) = true ∧
    (true && true && true) = true ∧
      true = true ∧
        (true && (true && true)) = true ∧
          (true && true && (allDB tEntry2 (dE tEntry2 (dm m1 0)) && true)) = true ∧ (true && (true && true)) = true then
    (K (V.d (Ty.int IntKind.i64) (dk d1 0)) [(Key.g (Key.l 1), O.box (V.agg tNotary2 [V.mp (Key.g (Key.l 2))])),
  (Key.g (Key.l 2), O.map (Ty.arr 32 (Ty.int IntKind.u8)) tEntry2 (dE tEntry2 (dm m1 0)))])
  else
    none)) (notary_Notary_Tell_p0 N a0 a1 a2 b0 m0) by kernel_rfl).trans ((jn_eq _ _).trans (congrArg (notary_Notary_Tell_p0 N a0 a1 a2 b0 m0) (funext fun _ => funext fun _ => by simp only [Nat.beq_refl, cond_true, allDB_dE0, Bool.and_self, and_self, if_true])))
noncomputable def notary_Notary_Tell_g (N : Nat) {R : Type} : OvG R := ptrG notary_Notary_Tell_as notary_Notary_Tell_os fun ds ms K => notary_Notary_Tell_p N (dk ds 0) (dk ds 1) (dk ds 2) (dk ds 3) (dm ms 0) (fun d1 m1 => K (V.d (Ty.int IntKind.i64) (dk d1 0)) [(Key.g (Key.l 1), O.box (V.agg tNotary2 [V.mp (Key.g (Key.l 2))])),
  (Key.g (Key.l 2), O.map (Ty.arr 32 (Ty.int IntKind.u8)) tEntry2 (dE tEntry2 (dm m1 0)))])
theorem notary_Notary_Tell_ok (N : Nat) {R : Type} : GOk (X0 gl0) 7 (notary_Notary_Tell_g N (R := R)) := by
  unfold notary_Notary_Tell_g
  refine ptrG_ok fun ds ms K r hr => ?_
  rw [← notary_Notary_Tell_run] at hr
  obtain ⟨v, L, h1, h2⟩ := exF_ok (ok0 gl0) (mo gl0) ((notary_Notary_Tell_ov N).ov_ok _) (extX_ok gl0) _ _ _ _ _ _ hr
  exact ⟨v, L, h1, h2⟩
end Go.Proofs.Ytfepimekilmgcaa


namespace Go.Proofs.Ytfepimekilmgcaa
open Go Go.E
set_option maxRecDepth 100000
noncomputable def orG {R : Type} (f : FuncId) (g : OvG R) : OvG R := fun xs A K => match xs with
  | .d .ptr c :: ys => exF (X0 gl0) (fun _ => none) extX (fun _ _ => []) (fun _ => []) 100 400 8 f (.d .ptr c :: ys) A K
  | xs => g xs A K
theorem orG_ok {R : Type} {f : FuncId} {g : OvG R} (h : GOk (X0 gl0) f g) : GOk (X0 gl0) f (orG f g) := by
  intro xs A Kr r hr
  unfold orG at hr
  split at hr
  · exact exF_ok (ok0 gl0) (mo gl0) (fun _ _ h => by simp at h) (extX_ok gl0) _ _ _ _ _ _ hr
  · exact h _ _ _ _ hr
noncomputable def orWhen_g (N : Nat) {R : Type} : OvG R := orG 10 (notary_Notary_When_g N)
theorem orWhen_ok (N : Nat) {R : Type} : GOk (X0 gl0) 10 (orWhen_g N (R := R)) := orG_ok (notary_Notary_When_ok N)
noncomputable def orOf_g (N : Nat) {R : Type} : OvG R := orG 8 (notary_Notary_Of_g N)
theorem orOf_ok (N : Nat) {R : Type} : GOk (X0 gl0) 8 (orOf_g N (R := R)) := orG_ok (notary_Notary_Of_ok N)
noncomputable def orTell_g (N : Nat) {R : Type} : OvG R := orG 7 (notary_Notary_Tell_g N)
theorem orTell_ok (N : Nat) {R : Type} : GOk (X0 gl0) 7 (orTell_g N (R := R)) := orG_ok (notary_Notary_Tell_ok N)
end Go.Proofs.Ytfepimekilmgcaa


namespace Go.Proofs.Ytfepimekilmgcaa
open Go Go.E
set_option maxRecDepth 100000
set_option maxHeartbeats 4000000
set_option linter.unusedVariables false
noncomputable def law10_awake_hs : Hints := [([0, 1, 1, 1, 1], ⟨[], [(0, .d .bool)], [], [], [], []⟩),
    ([9], ⟨[], [(0, .d .bool)], [], [], [], []⟩)]
noncomputable def law10_awake_ov (N : Nat) : OvS (X0 gl0) where
  g R := [(14, mill_Lock_g N)]
  ok := fun R => List.forall_mem_cons.2 ⟨mill_Lock_ok N, fun _ h => nomatch h⟩
noncomputable def law10_awake_p0 {R : Type} (N : Nat) (k1 : KD R) : Option R := (mill_Lock_p N (C.set (zeroC (Ty.arr 32 (Ty.int IntKind.u8))) 0 (C.int 1)) (fun d1 m1 => (mill_Lock_p N (C.set (zeroC (Ty.arr 32 (Ty.int IntKind.u8))) 0 (C.int 1)) (fun d2 m2 => (jn (fun d3 m3 => (k1 [C.bool (C.toBool (dk d3 0))] [])) (fun k2 => (bif hasE [(dk d1 0, V.d tEntry2 (C.set (C.set (C.agg [C.agg (List.replicate 32 (C.int 0)), C.int 0]) 0 (C.set (zeroC (Ty.arr 32 (Ty.int IntKind.u8))) 0 (C.int 1))) 1 (C.int 6)))] (dk d2 0) then (bif decide (C.toInt (C.get (getE [(dk d1 0, V.d tEntry2 (C.set (C.set (C.agg [C.agg (List.replicate 32 (C.int 0)), C.int 0]) 0 (C.set (zeroC (Ty.arr 32 (Ty.int IntKind.u8))) 0 (C.int 1))) 1 (C.int 6)))] (dk d2 0)) 1) ≤ 5) then (k2 [C.bool false] []) else (bif hasE [(dk d1 0, V.d tEntry2 (C.set (C.set (C.agg [C.agg (List.replicate 32 (C.int 0)), C.int 0]) 0 (C.set (zeroC (Ty.arr 32 (Ty.int IntKind.u8))) 0 (C.int 1))) 1 (C.int 6)))] (dk d2 0) then (bif decide (C.toInt (C.get (getE [(dk d1 0, V.d tEntry2 (C.set (C.set (C.agg [C.agg (List.replicate 32 (C.int 0)), C.int 0]) 0 (C.set (zeroC (Ty.arr 32 (Ty.int IntKind.u8))) 0 (C.int 1))) 1 (C.int 6)))] (dk d2 0)) 1) ≤ 5) then (k2 [C.bool false] []) else (k2 [C.bool (decide (1 = 1))] [])) else (k2 [C.bool (decide (1 = 1))] []))) else (bif hasE [(dk d1 0, V.d tEntry2 (C.set (C.set (C.agg [C.agg (List.replicate 32 (C.int 0)), C.int 0]) 0 (C.set (zeroC (Ty.arr 32 (Ty.int IntKind.u8))) 0 (C.int 1))) 1 (C.int 6)))] (dk d2 0) then (bif decide (C.toInt (C.get (getE [(dk d1 0, V.d tEntry2 (C.set (C.set (C.agg [C.agg (List.replicate 32 (C.int 0)), C.int 0]) 0 (C.set (zeroC (Ty.arr 32 (Ty.int IntKind.u8))) 0 (C.int 1))) 1 (C.int 6)))] (dk d2 0)) 1) ≤ 5) then (k2 [C.bool false] []) else (k2 [C.bool (decide (1 = 1))] [])) else (k2 [C.bool (decide (1 = 1))] [])))))))))
noncomputable def law10_awake_p {R : Type} (N : Nat) : KD R → Option R := lid "law10_awake_p N" (law10_awake_p0 N)
theorem law10_awake_pe {R : Type} (N : Nat)  (k : KD R) : law10_awake_p N  k = law10_awake_p0 N  k := by unfold law10_awake_p; rw [lid_eq]
theorem law10_awake_run {R : Type} (N : Nat)  (K : V → List (Key × O) → Option R) : exF (X0 gl0) ((law10_awake_ov N).ov R) extX (fun f r => bif Nat.beq f 7 then (bif Nat.beq r 0 then [(4, 5)] else bif Nat.beq r 4 then [(7, 6)] else bif Nat.beq r 7 then [(7, 6)] else []) else bif Nat.beq f 8 then (bif Nat.beq r 0 then [(4, 5)] else []) else bif Nat.beq f 16 then (bif Nat.beq r 0 then [(4, 5)] else []) else bif Nat.beq f 10 then (bif Nat.beq r 0 then [(3, 5)] else []) else []) (fun f => bif Nat.beq f 4 then law10_awake_hs else []) N 400 8 4 [] A0 K =
    law10_awake_p N  (fun d1 m1 => K (V.d Ty.bool (C.bool (C.toBool (dk d1 0)))) []) := by
  rw [law10_awake_pe]
  exact (show _ = jn (fun d1 m1 => (K (V.d Ty.bool (C.bool (C.toBool (dk d1 0)))) [])) (law10_awake_p0 N ) by kernel_rfl).trans (jn_eq _ _)
noncomputable def law10_awake_g (N : Nat) {R : Type} : OvG R := fun xs _ K => match xs with
  | [] => law10_awake_p N  (fun d1 m1 => K (V.d Ty.bool (C.bool (C.toBool (dk d1 0)))) [])
  | _ => none
theorem law10_awake_ok (N : Nat) {R : Type} : GOk (X0 gl0) 4 (law10_awake_g N (R := R)) := by
  intro xs A Kr r hr
  unfold law10_awake_g at hr
  split at hr
  · skip
    rw [← law10_awake_run] at hr
    obtain ⟨v, L, h1, h2⟩ := exF_ok (ok0 gl0) (mo gl0) ((law10_awake_ov N).ov_ok _) (extX_ok gl0) _ _ _ _ _ _ hr
    exact ⟨v, L, h1.mono (leA_none fun _ => rfl), h2⟩
  · cases hr
end Go.Proofs.Ytfepimekilmgcaa


namespace Go.Proofs.Ytfepimekilmgcaa
open Go Go.E
set_option maxRecDepth 100000
set_option maxHeartbeats 4000000
set_option linter.unusedVariables false
noncomputable def law10_To_hs : Hints := [([9], ⟨[], [(2, .as (.ptr (.l 2) [] tCond))], [], [(.l 2, .box (.d tCond))], [], []⟩)]
noncomputable def law10_To_ov (N : Nat) : OvS (X0 gl0) where
  g R := []
  ok := fun R => fun _ h => nomatch h
noncomputable def law10_To_p0 {R : Type} (N : Nat) (a0 : C) (k1 : KD R) : Option R := (k1 [C.set (C.set (C.set (C.set (C.set (C.agg [C.int 0, C.int 0, C.int 0, C.agg (List.replicate 32 (C.int 0)), C.int 0]) 0 (C.get a0 0)) 1 (C.get a0 1)) 2 (C.get a0 2)) 3 (C.get a0 3)) 4 (C.get a0 4)] [])
noncomputable def law10_To_p {R : Type} (N : Nat) : C → KD R → Option R := lid "law10_To_p N" (law10_To_p0 N)
theorem law10_To_pe {R : Type} (N : Nat) (a0 : C) (k : KD R) : law10_To_p N a0 k = law10_To_p0 N a0 k := by unfold law10_To_p; rw [lid_eq]
theorem law10_To_run {R : Type} (N : Nat) (a0 : C) (K : V → List (Key × O) → Option R) : exF (X0 gl0) ((law10_To_ov N).ov R) extX (fun f r => bif Nat.beq f 9 then (bif Nat.beq r 0 then [(1, 5)] else []) else []) (fun f => bif Nat.beq f 9 then law10_To_hs else []) N 400 8 9 [.d tCond a0] A0 K =
    law10_To_p N a0 (fun d1 m1 => K (V.d tCond (dk d1 0)) []) := by
  rw [law10_To_pe]
  exact (show _ = jn (fun d1 m1 => (K (V.d tCond (dk d1 0)) [])) (law10_To_p0 N a0) by kernel_rfl).trans (jn_eq _ _)
noncomputable def law10_To_g (N : Nat) {R : Type} : OvG R := fun xs _ K => match xs with
  | [.d t0 a0] => if t0 = tCond then law10_To_p N a0 (fun d1 m1 => K (V.d tCond (dk d1 0)) []) else none
  | _ => none
theorem law10_To_ok (N : Nat) {R : Type} : GOk (X0 gl0) 9 (law10_To_g N (R := R)) := by
  intro xs A Kr r hr
  unfold law10_To_g at hr
  split at hr
  · simp only [Option.ite_none_right_eq_some] at hr
    obtain ⟨hty, hr⟩ := hr
    subst hty
    rw [← law10_To_run] at hr
    obtain ⟨v, L, h1, h2⟩ := exF_ok (ok0 gl0) (mo gl0) ((law10_To_ov N).ov_ok _) (extX_ok gl0) _ _ _ _ _ _ hr
    exact ⟨v, L, h1.mono (leA_none fun _ => rfl), h2⟩
  · cases hr
end Go.Proofs.Ytfepimekilmgcaa


namespace Go.Proofs.Ytfepimekilmgcaa
open Go Go.E
set_option maxRecDepth 100000
set_option maxHeartbeats 4000000
set_option linter.unusedVariables false
noncomputable def law10_NotaryLasts_hs : Hints := [([1, 0, 1, 1, 1, 1, 1, 1], ⟨[10], [], [], [], [], [(.int .i64)]⟩),
    ([4, 1, 0, 1, 1, 1, 1, 1, 1], ⟨[0, 2, 7, 10, 31, 32], [(8, .d (.int .u64)), (9, .vec (.l 1000000000075) 8 (.int .i64)), (33, .d (.int .i64))], [], [], [], [(.int .i64)]⟩),
    ([0, 0, 1, 1, 1, 4, 0, 1, 1, 5, 4, 1, 0, 1, 1, 1, 1, 1, 1], ⟨[0, 2, 7, 8, 10, 12, 31, 32, 33], [(9, .vec (.l 1000000000075) 8 (.int .i64)), (51, .d .bool)], [], [], [], [(.int .i64)]⟩),
    ([1, 0, 1, 1, 1, 4, 0, 1, 1, 5, 4, 1, 0, 1, 1, 1, 1, 1, 1], ⟨[0, 2, 7, 8, 10, 31, 32, 33], [(9, .vec (.l 1000000000075) 8 (.int .i64))], [], [], [], [(.int .i64)]⟩),
    ([1, 1, 1, 1, 1, 4, 0, 1, 1, 5, 4, 1, 0, 1, 1, 1, 1, 1, 1], ⟨[0, 2, 7, 8, 10, 31, 32, 33], [(9, .vec (.l 1000000000075) 8 (.int .i64))], [], [], [], [(.int .i64)]⟩),
    ([4, 1, 1, 1, 1, 1, 4, 0, 1, 1, 5, 4, 1, 0, 1, 1, 1, 1, 1, 1], ⟨[0, 2, 7, 8, 10, 31, 32, 33, 63, 64], [(9, .vec (.l 1000000000075) 8 (.int .i64)), (65, .d (.int .i64))], [], [], [], [(.int .i64)]⟩),
    ([0, 0, 1, 1, 4, 0, 1, 1, 5, 4, 1, 1, 1, 1, 1, 4, 0, 1, 1, 5, 4, 1, 0, 1, 1, 1, 1, 1, 1], ⟨[0, 2, 7, 8, 10, 13, 15, 31, 32, 33, 63, 64, 65], [(9, .vec (.l 1000000000075) 8 (.int .i64)), (87, .d .bool)], [], [], [], [(.int .i64)]⟩),
    ([0, 1, 1, 1, 1, 1, 1, 1, 1, 1, 1], ⟨[], [(6, .d .bool)], [], [], [], [(.int .i64)]⟩),
    ([9], ⟨[], [(6, .d .bool)], [], [], [], [(.int .i64)]⟩)]
noncomputable def law10_NotaryLasts_ov (N : Nat) : OvS (X0 gl0) where
  g R := [(4, law10_awake_g N), (15, cl_Map_g N), (7, orTell_g N), (8, orOf_g N), (9, law10_To_g N), (10, orWhen_g N)]
  ok := fun R => List.forall_mem_cons.2 ⟨law10_awake_ok N, List.forall_mem_cons.2 ⟨cl_Map_ok N, List.forall_mem_cons.2 ⟨orTell_ok N, List.forall_mem_cons.2 ⟨orOf_ok N, List.forall_mem_cons.2 ⟨law10_To_ok N, List.forall_mem_cons.2 ⟨orWhen_ok N, fun _ h => nomatch h⟩⟩⟩⟩⟩⟩
noncomputable def law10_NotaryLasts_l1 {R : Type} (N : Nat) (k1 : KD R) (k4 : KD R) : KD R → List C → List Es → Option R := (fun k5 d4 m4 => (bif decide (C.toInt (dk d4 9) < C.toInt (dk d4 7)) then (if 0 ≤ C.toInt (dk d4 9) ∧ C.toInt (dk d4 9) < (↑(List.length (C.elems (dk d4 6))) : Int) then (law10_To_p N (List.getD (C.elems (dk d4 6)) (Int.toNat (C.toInt (dk d4 9))) C.nil) (fun d5 m5 => (if allD tEntry2 (List.map (fun c => (Prod.fst c, V.ren (swU (Key.l 2) (runSw (if Key.l 1 = runSw [] (Key.l 26003) then [] else [] ++ [(Key.l 1, runSw [] (Key.l 26003))]) (Key.l 26001))) id (Prod.snd c))) (List.map (fun c => (Prod.fst c, V.ren (swU (Key.l 1) (runSw [] (Key.l 26003))) id (Prod.snd c))) (List.map (fun c => (Prod.fst c, V.ren Key.g id (Prod.snd c))) (dE tEntry2 (dm m4 0))))) = true then (notary_Notary_Of_p N (dk d5 0) (dk d4 2) C.nil (unE (List.map (fun c => (Prod.fst c, V.ren (swU (Key.l 2) (runSw (if Key.l 1 = runSw [] (Key.l 26003) then [] else [] ++ [(Key.l 1, runSw [] (Key.l 26003))]) (Key.l 26001))) id (Prod.snd c))) (List.map (fun c => (Prod.fst c, V.ren (swU (Key.l 1) (runSw [] (Key.l 26003))) id (Prod.snd c))) (List.map (fun c => (Prod.fst c, V.ren Key.g id (Prod.snd c))) (dE tEntry2 (dm m4 0)))))) (fun d6 m6 => (jn (fun d7 m7 => (bif C.toBool (dk d7 12) then (k1 [C.bool false] []) else (if 0 ≤ C.toInt (dk d7 3) ∧ C.toInt (dk d7 3) < (↑(Int.toNat (C.toInt (dk d7 11))) : Int) then (if allD tEntry2 (dE tEntry2 (dm m7 0)) = true then (if allD tEntry2 (dE tEntry2 (dm m7 1)) = true then (if List.length (C.elems (dk d7 13)) = List.length (C.elems (C.set (dk d7 13) (0 + Int.toNat (C.toInt (dk d7 3))) (dk d7 4))) then (k5 [dk d7 0, dk d7 1, dk d7 2, dk d7 5, dk d7 6, dk d7 7, dk d7 8, dk d7 9, C.int (↑(Int.toNat (C.toInt (dk d7 11))) : Int), C.int (IntKind.wrap IntKind.i64 (C.toInt (dk d7 10) + 1)), C.set (dk d7 13) (0 + Int.toNat (C.toInt (dk d7 3))) (dk d7 4)] [unE (dE tEntry2 (dm m7 0)), unE (dE tEntry2 (dm m7 1))]) else none) else none) else none) else none))) (fun k6 => (if 0 ≤ C.toInt (dk d4 9) ∧ C.toInt (dk d4 9) < (↑(Int.toNat (C.toInt (dk d4 8))) : Int) then (bif !decide (C.toInt (C.get (dk d4 10) (0 + Int.toNat (C.toInt (dk d4 9)))) = 0) then (if 0 ≤ C.toInt (dk d4 9) ∧ C.toInt (dk d4 9) < (↑(Int.toNat (C.toInt (dk d4 8))) : Int) then (if allD tEntry2 (dE tEntry2 (dm m4 0)) = true then (if allD tEntry2 (dE tEntry2 (dm m4 1)) = true then (if List.length (C.elems (dk d4 10)) = List.length (C.elems (dk d4 10)) then (k6 [dk d4 0, dk d4 1, dk d4 2, dk d4 9, dk d6 0, dk d4 3, dk d4 4, dk d4 5, dk d4 6, dk d4 7, dk d4 9, C.int (↑(Int.toNat (C.toInt (dk d4 8))) : Int), C.bool !decide (C.toInt (dk d6 0) = C.toInt (C.get (dk d4 10) (0 + Int.toNat (C.toInt (dk d4 9))))), dk d4 10] [unE (dE tEntry2 (dm m4 0)), unE (dE tEntry2 (dm m4 1))]) else none) else none) else none) else none) else (if allD tEntry2 (dE tEntry2 (dm m4 0)) = true then (if allD tEntry2 (dE tEntry2 (dm m4 1)) = true then (if List.length (C.elems (dk d4 10)) = List.length (C.elems (dk d4 10)) then (k6 [dk d4 0, dk d4 1, dk d4 2, dk d4 9, dk d6 0, dk d4 3, dk d4 4, dk d4 5, dk d4 6, dk d4 7, dk d4 9, C.int (↑(Int.toNat (C.toInt (dk d4 8))) : Int), C.bool false, dk d4 10] [unE (dE tEntry2 (dm m4 0)), unE (dE tEntry2 (dm m4 1))]) else none) else none) else none)) else none))))) else none))) else none) else (if allD tEntry2 (dE tEntry2 (dm m4 0)) = true then (if allD tEntry2 (dE tEntry2 (dm m4 1)) = true then (if List.length (C.elems (dk d4 10)) = List.length (C.elems (dk d4 10)) then (k4 [dk d4 0, dk d4 1, dk d4 2, dk d4 3, dk d4 4, dk d4 5, C.int (↑(Int.toNat (C.toInt (dk d4 8))) : Int), dk d4 10] [unE (dE tEntry2 (dm m4 0)), unE (dE tEntry2 (dm m4 1))]) else none) else none) else none)))
noncomputable def law10_NotaryLasts_l2 {R : Type} (N : Nat) (k1 : KD R) (k2 : KD R) : KD R → List C → List Es → Option R := (fun k3 d1 m1 => (bif decide (C.toInt (dk d1 6) < C.toInt (dk d1 3)) then (if 0 ≤ C.toInt (dk d1 6) ∧ C.toInt (dk d1 6) < (↑(List.length (C.elems (dk d1 2))) : Int) then (bif decide (40 ≤ C.toInt (dk d1 6)) then (if allD tEntry2 (dE tEntry2 (dm m1 1)) = true then (k2 [] [unE (dE tEntry2 (dm m1 1))]) else none) else (jn (fun d2 m2 => (jn (fun d3 m3 => (jn (fun d4 m4 => (if allD tEntry2 (dE tEntry2 (dm m4 0)) = true then (if allD tEntry2 (dE tEntry2 (dm m4 1)) = true then (if List.length (C.elems (dk d4 7)) = List.length (C.elems (dk d4 7)) then (k3 [dk d4 0, dk d4 1, dk d4 3, dk d4 4, dk d4 2, C.int (↑(Int.toNat (C.toInt (dk d4 6))) : Int), C.int (IntKind.wrap IntKind.i64 (C.toInt (dk d4 5) + 1)), dk d4 7] [unE (dE tEntry2 (dm m4 0)), unE (dE tEntry2 (dm m4 1))]) else none) else none) else none)) (fun k4 => (if allD tEntry2 (dE tEntry2 (dm m3 0)) = true then (if allD tEntry2 (dE tEntry2 (dm m3 1)) = true then (if List.length (C.elems (dk d3 7)) = List.length (C.elems (dk d3 7)) then (loopK N (law10_NotaryLasts_l1 N k1 k4) [dk d3 0, dk d3 1, dk d3 2, dk d3 3, dk d3 4, dk d3 5, dk d3 1, C.int (↑(List.length (C.elems (dk d3 1))) : Int), C.int (↑(Int.toNat (C.toInt (dk d3 6))) : Int), C.int 0, dk d3 7] [unE (dE tEntry2 (dm m3 0)), unE (dE tEntry2 (dm m3 1))]) else none) else none) else none)))) (fun k4 => (bif C.toBool (dk d2 8) then (if (↑(List.length (C.elems (dk d2 0))) : Int) ≠ 0 then (if 0 ≤ Int.tmod (IntKind.wrap IntKind.i64 (C.toInt (dk d2 3))) (↑(List.length (C.elems (dk d2 0))) : Int) ∧ Int.tmod (IntKind.wrap IntKind.i64 (C.toInt (dk d2 3))) (↑(List.length (C.elems (dk d2 0))) : Int) < (↑(List.length (C.elems (dk d2 0))) : Int) then (if allD tEntry2 (List.map (fun c => (Prod.fst c, V.ren (swU (Key.l 2) (runSw (if Key.l 1 = runSw [] (Key.l 26003) then [] else [] ++ [(Key.l 1, runSw [] (Key.l 26003))]) (Key.l 26001))) id (Prod.snd c))) (List.map (fun c => (Prod.fst c, V.ren (swU (Key.l 1) (runSw [] (Key.l 26003))) id (Prod.snd c))) (List.map (fun c => (Prod.fst c, V.ren Key.g id (Prod.snd c))) (dE tEntry2 (dm m2 0))))) = true then (notary_Notary_Tell_p N (List.getD (C.elems (dk d2 0)) (Int.toNat (Int.tmod (IntKind.wrap IntKind.i64 (C.toInt (dk d2 3))) (↑(List.length (C.elems (dk d2 0))) : Int))) C.nil) (dk d2 2) C.nil C.nil (unE (List.map (fun c => (Prod.fst c, V.ren (swU (Key.l 2) (runSw (if Key.l 1 = runSw [] (Key.l 26003) then [] else [] ++ [(Key.l 1, runSw [] (Key.l 26003))]) (Key.l 26001))) id (Prod.snd c))) (List.map (fun c => (Prod.fst c, V.ren (swU (Key.l 1) (runSw [] (Key.l 26003))) id (Prod.snd c))) (List.map (fun c => (Prod.fst c, V.ren Key.g id (Prod.snd c))) (dE tEntry2 (dm m2 0)))))) (fun d3 m3 => (if allD tEntry2 (List.map (fun c => (Prod.fst c, V.ren (dn (dstN { dst := some 62, op := Op.call { callee := Callee.value (Operand.func 7), args := #[Operand.tmp 52, Operand.tmp 60, Operand.tmp 61], argTypes := #[26, 44, 28] }, type := 30, pos := "law.go:98", after := #[{ on := 0, ground := Ground.data }, { on := 8, ground := Ground.data }, { on := 9, ground := Ground.data }], guard := none })) id (Prod.snd c))) (List.map (fun c => (Prod.fst c, V.ren (swU (Key.l 1) (runSw [] (Key.l 26003))) id (Prod.snd c))) (List.map (fun c => (Prod.fst c, V.ren (swU (Key.l 2) (runSw (if Key.l 1 = runSw [] (Key.l 26003) then [] else [] ++ [(Key.l 1, runSw [] (Key.l 26003))]) (Key.l 26001))) id (Prod.snd c))) (dE tEntry2 (dm m3 0))))) = true then (if allD tEntry2 (dE tEntry2 (dm m2 1)) = true then (if List.length (C.elems (dk d2 9)) = List.length (C.elems (dk d2 9)) then (k4 [dk d2 0, dk d2 1, dk d2 2, dk d2 4, dk d2 5, dk d2 6, C.int (↑(Int.toNat (C.toInt (dk d2 7))) : Int), dk d2 9] [unE (List.map (fun c => (Prod.fst c, V.ren (dn (dstN { dst := some 62, op := Op.call { callee := Callee.value (Operand.func 7), args := #[Operand.tmp 52, Operand.tmp 60, Operand.tmp 61], argTypes := #[26, 44, 28] }, type := 30, pos := "law.go:98", after := #[{ on := 0, ground := Ground.data }, { on := 8, ground := Ground.data }, { on := 9, ground := Ground.data }], guard := none })) id (Prod.snd c))) (List.map (fun c => (Prod.fst c, V.ren (swU (Key.l 1) (runSw [] (Key.l 26003))) id (Prod.snd c))) (List.map (fun c => (Prod.fst c, V.ren (swU (Key.l 2) (runSw (if Key.l 1 = runSw [] (Key.l 26003) then [] else [] ++ [(Key.l 1, runSw [] (Key.l 26003))]) (Key.l 26001))) id (Prod.snd c))) (dE tEntry2 (dm m3 0))))), unE (dE tEntry2 (dm m2 1))]) else none) else none) else none))) else none) else none) else none) else (if allD tEntry2 (dE tEntry2 (dm m2 0)) = true then (if allD tEntry2 (dE tEntry2 (dm m2 1)) = true then (if List.length (C.elems (dk d2 9)) = List.length (C.elems (dk d2 9)) then (k4 [dk d2 0, dk d2 1, dk d2 2, dk d2 4, dk d2 5, dk d2 6, C.int (↑(Int.toNat (C.toInt (dk d2 7))) : Int), dk d2 9] [unE (dE tEntry2 (dm m2 0)), unE (dE tEntry2 (dm m2 1))]) else none) else none) else none))))) (fun k4 => (bif decide (128 ≤ C.toInt (List.getD (C.elems (dk d1 2)) (Int.toNat (C.toInt (dk d1 6))) C.nil)) then (if allD tEntry2 (dE tEntry2 (dm m1 0)) = true then (if allD tEntry2 (dE tEntry2 (dm m1 1)) = true then (if List.length (C.elems (dk d1 7)) = List.length (C.elems (dk d1 7)) then (k4 [dk d1 0, dk d1 1, C.int (IntKind.wrap IntKind.u64 (C.toInt (dk d1 4) + IntKind.wrap IntKind.u64 (Int.tmod (C.toInt (List.getD (C.elems (dk d1 2)) (Int.toNat (C.toInt (dk d1 6))) C.nil)) 3))), List.getD (C.elems (dk d1 2)) (Int.toNat (C.toInt (dk d1 6))) C.nil, dk d1 2, dk d1 3, dk d1 6, C.int (↑(Int.toNat (C.toInt (dk d1 5))) : Int), C.bool (decide (0 < (↑(List.length (C.elems (dk d1 0))) : Int))), dk d1 7] [unE (dE tEntry2 (dm m1 0)), unE (dE tEntry2 (dm m1 1))]) else none) else none) else none) else (if allD tEntry2 (dE tEntry2 (dm m1 0)) = true then (if allD tEntry2 (dE tEntry2 (dm m1 1)) = true then (if List.length (C.elems (dk d1 7)) = List.length (C.elems (dk d1 7)) then (k4 [dk d1 0, dk d1 1, C.int (IntKind.wrap IntKind.u64 (C.toInt (dk d1 4) + IntKind.wrap IntKind.u64 (Int.tmod (C.toInt (List.getD (C.elems (dk d1 2)) (Int.toNat (C.toInt (dk d1 6))) C.nil)) 3))), List.getD (C.elems (dk d1 2)) (Int.toNat (C.toInt (dk d1 6))) C.nil, dk d1 2, dk d1 3, dk d1 6, C.int (↑(Int.toNat (C.toInt (dk d1 5))) : Int), C.bool false, dk d1 7] [unE (dE tEntry2 (dm m1 0)), unE (dE tEntry2 (dm m1 1))]) else none) else none) else none))))) else none) else (if allD tEntry2 (dE tEntry2 (dm m1 1)) = true then (k2 [] [unE (dE tEntry2 (dm m1 1))]) else none)))
noncomputable def law10_NotaryLasts_p0 {R : Type} (N : Nat) (a0 a1 a2 : C) (k1 : KD R) : Option R := (bif decide (20 < (↑(List.length (C.elems a2)) : Int)) then (law10_awake_p N (fun d1 m1 => (k1 [C.bool (C.toBool (dk d1 0))] []))) else (if 0 ≤ (↑(List.length (C.elems a2)) : Int) ∧ (↑(List.length (C.elems a2)) : Int) ≤ (↑(List.length (C.elems a2)) : Int) ∧ (↑(List.length (C.elems a2)) : Int) ≤ 9223372036854775807 ∧ Int.toNat (↑(List.length (C.elems a2)) : Int) * 8 ≤ 140737488355328 then (jn (fun d1 m1 => (jn (fun d2 m2 => (k1 [C.bool (C.toBool (dk d2 0))] [])) (fun k2 => (law10_awake_p N (fun d2 m2 => (bif C.toBool (dk d2 0) then (if List.length (List.map (fun c => (Prod.fst c, V.ren Key.g id (Prod.snd c))) (dE tEntry2 (dm m1 0))) ≤ 9223372036854775807 then (bif decide ((↑(List.length (List.map (fun c => (Prod.fst c, V.ren Key.g id (Prod.snd c))) (dE tEntry2 (dm m1 0)))) : Int) = 0) then (k2 [C.bool (decide (0 = 0))] []) else (k2 [C.bool false] [])) else none) else (k2 [C.bool false] []))))))) (fun k2 => (if Int.toNat (↑(List.length (C.elems a2)) : Int) = List.length (List.replicate (Int.toNat (↑(List.length (C.elems a2)) : Int)) (zeroC (Ty.int IntKind.i64))) then (loopK N (law10_NotaryLasts_l2 N k1 k2) [a0, a2, a1, C.int (↑(List.length (C.elems a1)) : Int), C.int 0, C.int (↑(Int.toNat (↑(List.length (C.elems a2)) : Int)) : Int), C.int 0, C.agg (List.replicate (Int.toNat (↑(List.length (C.elems a2)) : Int)) (zeroC (Ty.int IntKind.i64)))] [unE [], unE []]) else none))) else none))
noncomputable def law10_NotaryLasts_p {R : Type} (N : Nat) : C → C → C → KD R → Option R := lid "law10_NotaryLasts_p N" (law10_NotaryLasts_p0 N)
theorem law10_NotaryLasts_pe {R : Type} (N : Nat) (a0 a1 a2 : C) (k : KD R) : law10_NotaryLasts_p N a0 a1 a2 k = law10_NotaryLasts_p0 N a0 a1 a2 k := by unfold law10_NotaryLasts_p; rw [lid_eq]
theorem law10_NotaryLasts_run {R : Type} (N : Nat) (a0 a1 a2 : C) (K : V → List (Key × O) → Option R) : exF (X0 gl0) ((law10_NotaryLasts_ov N).ov R) extX (fun f r => bif Nat.beq f 3 then (bif Nat.beq r 5 then [(28, 9)] else []) else bif Nat.beq f 11 then (bif Nat.beq r 0 then [(3, 5)] else []) else bif Nat.beq f 18 then (bif Nat.beq r 0 then [(1, 5)] else []) else bif Nat.beq f 19 then (bif Nat.beq r 0 then [(2, 5), (3, 5)] else []) else []) (fun f => bif Nat.beq f 3 then law10_NotaryLasts_hs else bif Nat.beq f 17 then [([9], ⟨[], [(4, .d (.slice 32 (.arr 32 (.int .u8))))], [], [], [], []⟩)] else bif Nat.beq f 23 then [([9], ⟨[], [(2, .d (.slice 32 (.arr 32 (.int .u8))))], [], [], [], []⟩)] else bif Nat.beq f 31 then [([9], ⟨[], [(4, .d (.slice 32 (.arr 32 (.int .u8))))], [], [], [], []⟩)] else bif Nat.beq f 24 then [([9], ⟨[], [], [], [], [], []⟩)] else bif Nat.beq f 32 then [([4, 1, 1], ⟨[0, 4], [(1, .d (.int .i64)), (2, .d (.int .i64)), (3, .d (.int .i64)), (10, .d .bool), (11, .d .bool)], [], [], [], []⟩), ([5, 4, 1, 1], ⟨[0, 4], [(1, .d (.int .i64)), (2, .d (.int .i64)), (3, .d (.int .i64)), (10, .d .bool), (11, .d .bool)], [], [], [], []⟩), ([1, 0, 1, 1, 1, 4, 5, 4, 1, 1], ⟨[0, 1, 2, 4, 10, 11, 12], [(3, .d (.int .i64))], [], [], [], []⟩), ([1, 0, 1, 1, 1, 1, 1, 4, 5, 4, 1, 1], ⟨[0, 1, 2, 3, 4, 10, 11, 12], [(13, .d (.int .i64)), (14, .d (.int .i64))], [], [], [], []⟩), ([0, 0, 1, 1, 1, 1, 1, 1, 4, 5, 4, 1, 1], ⟨[0, 1, 2, 3, 4, 10, 11, 12, 13], [(75, .d .bool)], [], [], [], []⟩), ([1, 0, 1, 1, 1, 1, 1, 1, 4, 5, 4, 1, 1], ⟨[0, 1, 2, 3, 4, 10, 11, 12, 13], [], [], [], [], []⟩), ([0, 0, 1, 1, 1, 1, 1, 1, 1, 4, 5, 4, 1, 1], ⟨[0, 1, 2, 3, 4, 10, 11, 12, 13], [(97, .d .bool)], [], [], [], []⟩), ([1, 1, 1, 1, 1, 1, 1, 1, 1, 1, 1, 1, 1, 4, 5, 4, 1, 1], ⟨[0, 3, 4, 11], [(1, .d (.int .i64)), (2, .d (.int .i64)), (10, .d .bool)], [], [], [], []⟩), ([9], ⟨[], [], [], [], [], []⟩)] else bif Nat.beq f 35 then [([1], ⟨[], [], [], [], [], []⟩), ([4, 1], ⟨[0, 1, 2, 3], [(8, .d (.int .i64))], [], [], [], []⟩), ([1, 4, 0, 1, 5, 4, 1], ⟨[0, 1, 2, 3, 8], [], [], [], [], []⟩), ([4, 1, 4, 0, 1, 5, 4, 1], ⟨[0, 1, 2, 3, 8], [(9, .d (.int .i64))], [], [], [], []⟩), ([0, 0, 5, 4, 1, 4, 0, 1, 5, 4, 1], ⟨[0, 1, 2, 3, 8, 9], [(34, .d .bool)], [], [], [], []⟩), ([9], ⟨[], [], [], [], [], []⟩)] else bif Nat.beq f 36 then [([1, 0, 1, 1, 1], ⟨[0, 3, 8, 9, 10], [], [], [], [], []⟩), ([4, 1, 0, 1, 1, 1], ⟨[0, 3, 8, 9, 10], [(11, .d (.int .i64))], [], [], [], []⟩), ([1, 1, 1, 1, 1], ⟨[], [], [], [], [], []⟩), ([4, 1, 1, 1, 1, 1], ⟨[0, 3, 8, 9], [(12, .d (.int .i64))], [], [], [], []⟩), ([9], ⟨[], [], [], [], [], []⟩)] else bif Nat.beq f 46 then [([1], ⟨[], [], [], [], [], []⟩), ([4, 1], ⟨[0, 2, 3, 4], [(10, .d (.int .i64))], [], [], [], []⟩), ([0, 0, 1, 1, 4, 5, 4, 1], ⟨[0, 2, 3, 4, 10, 11], [(40, .d .bool)], [], [], [], []⟩), ([1, 0, 1, 1, 4, 5, 4, 1], ⟨[0, 2, 3, 4, 10], [(11, .d (.int .i64))], [], [], [], []⟩), ([9], ⟨[], [], [], [], [], []⟩)] else bif Nat.beq f 37 then [([1, 1], ⟨[], [], [], [], [], []⟩), ([1, 1, 1, 2, 1, 1], ⟨[], [], [], [], [], []⟩), ([4, 1, 1, 1, 2, 1, 1], ⟨[0, 1, 8, 9, 10], [(11, .d (.int .i64))], [], [], [], []⟩), ([1, 0, 1, 4, 0, 1, 5, 4, 1, 1, 1, 2, 1, 1], ⟨[0, 1, 8, 9, 10, 11], [(12, .d (.int .i64))], [], [], [], []⟩), ([9], ⟨[], [], [], [], [], []⟩)] else bif Nat.beq f 47 then [([9], ⟨[], [(2, .d (.int .u64))], [], [], [], []⟩)] else bif Nat.beq f 33 then [([9], ⟨[], [(2, .d (.int .i64))], [], [], [], []⟩)] else bif Nat.beq f 43 then [([1, 0, 1], ⟨[], [(0, .d (.int .u32)), (2, .d (.int .i64))], [], [], [], []⟩), ([1, 0, 1, 1], ⟨[], [(0, .d (.int .u32)), (2, .d (.int .i64))], [], [], [], []⟩), ([9], ⟨[], [(2, .d (.int .i64))], [], [], [], []⟩)] else bif Nat.beq f 44 then [([1, 0, 1], ⟨[], [(0, .d (.int .u64)), (2, .d (.int .i64))], [], [], [], []⟩), ([1, 0, 1, 1], ⟨[], [(0, .d (.int .u64)), (2, .d (.int .i64))], [], [], [], []⟩), ([1, 0, 1, 1, 1], ⟨[], [(0, .d (.int .u64)), (2, .d (.int .i64))], [], [], [], []⟩), ([9], ⟨[], [(2, .d (.int .i64))], [], [], [], []⟩)] else bif Nat.beq f 48 then [([9], ⟨[0], [(2, .d (.int .u64))], [], [], [], []⟩)] else bif Nat.beq f 38 then [([1, 0, 1, 1, 1, 1, 1, 1], ⟨[11], [(13, .d (.int .i64))], [], [], [], []⟩), ([1, 0, 2, 1, 0, 1, 1, 1, 1, 1, 1], ⟨[0, 3, 11], [(12, .d (.int .i64)), (13, .d (.int .i64)), (14, .d (.int .i64))], [], [], [], []⟩), ([9], ⟨[], [(8, .d (.int .i64)), (9, .d (.int .i64))], [], [], [], []⟩)] else bif Nat.beq f 49 then [([9], ⟨[2], [(8, .d (.int .i64))], [], [], [], []⟩)] else bif Nat.beq f 50 then [([9], ⟨[4], [(12, .d (.int .i64))], [], [], [], []⟩)] else bif Nat.beq f 54 then [([9], ⟨[3], [(10, .d (.int .i64)), (11, .d (.int .i64))], [], [], [], []⟩)] else bif Nat.beq f 39 then [([1, 1], ⟨[], [], [], [], [], []⟩), ([4, 1, 1], ⟨[0], [(8, .d (.int .i64)), (9, .d (.int .i64))], [], [], [], []⟩), ([9], ⟨[], [], [], [], [], []⟩)] else bif Nat.beq f 40 then [([1, 0, 1, 1], ⟨[], [], [], [], [], []⟩), ([4, 1, 0, 1, 1], ⟨[0, 1, 2, 3], [(9, .d (.int .i64)), (10, .d (.int .i64))], [], [], [], []⟩), ([0, 4, 0, 1, 5, 4, 1, 0, 1, 1], ⟨[0, 1, 2, 3, 10], [(9, .d (.int .i64))], [], [], [], []⟩), ([4, 0, 4, 0, 1, 5, 4, 1, 0, 1, 1], ⟨[0, 1, 2, 3, 10], [(9, .d (.int .i64))], [], [], [], []⟩), ([0, 0, 5, 4, 0, 4, 0, 1, 5, 4, 1, 0, 1, 1], ⟨[0, 1, 2, 3, 9, 10], [(36, .d .bool)], [], [], [], []⟩), ([1, 0, 1, 1, 1, 1, 4, 0, 1, 5, 4, 1, 0, 1, 1], ⟨[0, 1, 2, 3, 9, 10], [], [], [], [], []⟩), ([1, 2, 1, 0, 1, 1, 1, 1, 4, 0, 1, 5, 4, 1, 0, 1, 1], ⟨[0, 1, 2, 3, 9, 10], [], [], [], [], []⟩), ([4, 1, 2, 1, 0, 1, 1, 1, 1, 4, 0, 1, 5, 4, 1, 0, 1, 1], ⟨[0, 1, 2, 3, 9, 10], [(11, .d (.int .i64))], [], [], [], []⟩), ([1, 1, 1, 1, 1, 1, 4, 0, 1, 5, 4, 1, 0, 1, 1], ⟨[0, 1, 2, 3, 9, 10], [], [], [], [], []⟩), ([1, 2, 1, 1, 1, 1, 1, 1, 4, 0, 1, 5, 4, 1, 0, 1, 1], ⟨[0, 1, 2, 3, 9, 10], [], [], [], [], []⟩), ([4, 1, 2, 1, 1, 1, 1, 1, 1, 4, 0, 1, 5, 4, 1, 0, 1, 1], ⟨[0, 1, 2, 3, 9, 10], [(12, .d (.int .i64))], [], [], [], []⟩), ([9], ⟨[], [(8, .d .bool)], [], [], [], []⟩)] else bif Nat.beq f 41 then [([0, 1, 1, 1], ⟨[], [(11, .d (.int .i64))], [], [], [], []⟩), ([4, 0, 1, 1, 1], ⟨[0, 1, 4], [(11, .d (.int .i64)), (12, .d (.int .i64))], [], [], [], []⟩), ([0, 4, 5, 4, 0, 1, 1, 1], ⟨[0, 1, 4, 12], [(11, .d (.int .i64))], [], [], [], []⟩), ([4, 0, 4, 5, 4, 0, 1, 1, 1], ⟨[0, 1, 4, 12], [(11, .d (.int .i64))], [], [], [], []⟩), ([0, 0, 5, 4, 0, 4, 5, 4, 0, 1, 1, 1], ⟨[0, 1, 4, 11, 12], [(47, .d .bool)], [], [], [], []⟩), ([0, 1, 4, 5, 4, 0, 1, 1, 1], ⟨[0, 1, 4, 11], [(12, .d (.int .i64))], [], [], [], []⟩), ([4, 0, 1, 4, 5, 4, 0, 1, 1, 1], ⟨[0, 1, 4, 11], [(12, .d (.int .i64))], [], [], [], []⟩), ([0, 0, 5, 4, 0, 1, 4, 5, 4, 0, 1, 1, 1], ⟨[0, 1, 4, 11, 12], [(65, .d .bool)], [], [], [], []⟩), ([9], ⟨[], [(10, .d (.int .i64))], [], [], [], []⟩)] else bif Nat.beq f 42 then [([0, 1, 1, 1], ⟨[0, 1, 4, 13], [(12, .d (.int .i64))], [], [], [], []⟩), ([4, 0, 1, 1, 1], ⟨[0, 1, 4, 13], [(12, .d (.int .i64))], [], [], [], []⟩), ([0, 0, 5, 4, 0, 1, 1, 1], ⟨[0, 1, 4, 12, 13], [(47, .d .bool)], [], [], [], []⟩), ([0, 1, 1, 1, 1], ⟨[0, 1, 4, 12], [(13, .d (.int .i64))], [], [], [], []⟩), ([4, 0, 1, 1, 1, 1], ⟨[0, 1, 4, 12], [(13, .d (.int .i64))], [], [], [], []⟩), ([0, 0, 5, 4, 0, 1, 1, 1, 1], ⟨[0, 1, 4, 12, 13], [(66, .d .bool)], [], [], [], []⟩), ([0, 1, 1, 1, 1, 1, 1, 1, 1, 1], ⟨[0, 1], [(13, .d (.int .i64))], [], [], [], []⟩), ([4, 0, 1, 1, 1, 1, 1, 1, 1, 1, 1], ⟨[0, 1, 4], [(12, .d (.int .i64)), (13, .d (.int .i64))], [], [], [], []⟩), ([0, 4, 5, 4, 0, 1, 1, 1, 1, 1, 1, 1, 1, 1], ⟨[0, 1, 4, 13], [(12, .d (.int .i64))], [], [], [], []⟩), ([4, 0, 4, 5, 4, 0, 1, 1, 1, 1, 1, 1, 1, 1, 1], ⟨[0, 1, 4, 13], [(12, .d (.int .i64))], [], [], [], []⟩), ([0, 0, 5, 4, 0, 4, 5, 4, 0, 1, 1, 1, 1, 1, 1, 1, 1, 1], ⟨[0, 1, 4, 12, 13], [(120, .d .bool)], [], [], [], []⟩), ([0, 1, 4, 5, 4, 0, 1, 1, 1, 1, 1, 1, 1, 1, 1], ⟨[0, 1, 4, 12], [(13, .d (.int .i64))], [], [], [], []⟩), ([4, 0, 1, 4, 5, 4, 0, 1, 1, 1, 1, 1, 1, 1, 1, 1], ⟨[0, 1, 4, 12], [(13, .d (.int .i64))], [], [], [], []⟩), ([0, 0, 5, 4, 0, 1, 4, 5, 4, 0, 1, 1, 1, 1, 1, 1, 1, 1, 1], ⟨[0, 1, 4, 12, 13], [(139, .d .bool)], [], [], [], []⟩), ([9], ⟨[], [(10, .d (.int .i64)), (11, .d .bool)], [], [], [], []⟩)] else bif Nat.beq f 18 then [([9], ⟨[2], [], [], [], [], []⟩)] else bif Nat.beq f 25 then [([1], ⟨[], [], [], [], [], []⟩), ([4, 1], ⟨[0, 5], [], [], [], [], []⟩), ([9], ⟨[], [], [], [], [], []⟩)] else bif Nat.beq f 19 then [([9], ⟨[], [(4, .d (.int .i64))], [], [], [], []⟩)] else bif Nat.beq f 20 then [([9], ⟨[], [(4, .d (.int .i64))], [], [], [], []⟩)] else []) N 400 8 3 [.d (.slice 32 (.arr 32 (.int .u8))) a0, .d (.slice 1 (.int .u8)) a1, .d (.slice 64 tCond) a2] A0 K =
    law10_NotaryLasts_p N a0 a1 a2 (fun d1 m1 => K (V.d Ty.bool (C.bool (C.toBool (dk d1 0)))) []) := by
  rw [law10_NotaryLasts_pe]
  exact (show _ = jn (fun d1 m1 => (K (V.d Ty.bool (C.bool (C.toBool (dk d1 0)))) [])) (law10_NotaryLasts_p0 N a0 a1 a2) by kernel_rfl).trans (jn_eq _ _)
noncomputable def law10_NotaryLasts_g (N : Nat) {R : Type} : OvG R := fun xs _ K => match xs with
  | [.d t0 a0, .d t1 a1, .d t2 a2] => if t0 = (.slice 32 (.arr 32 (.int .u8))) ∧ t1 = (.slice 1 (.int .u8)) ∧ t2 = (.slice 64 tCond) then law10_NotaryLasts_p N a0 a1 a2 (fun d1 m1 => K (V.d Ty.bool (C.bool (C.toBool (dk d1 0)))) []) else none
  | _ => none
theorem law10_NotaryLasts_ok (N : Nat) {R : Type} : GOk (X0 gl0) 3 (law10_NotaryLasts_g N (R := R)) := by
  intro xs A Kr r hr
  unfold law10_NotaryLasts_g at hr
  split at hr
  · simp only [Option.ite_none_right_eq_some] at hr
    obtain ⟨hty, hr⟩ := hr
    obtain ⟨rfl, rfl, rfl⟩ := hty
    rw [← law10_NotaryLasts_run] at hr
    obtain ⟨v, L, h1, h2⟩ := exF_ok (ok0 gl0) (mo gl0) ((law10_NotaryLasts_ov N).ov_ok _) (extX_ok gl0) _ _ _ _ _ _ hr
    exact ⟨v, L, h1.mono (leA_none fun _ => rfl), h2⟩
  · cases hr
end Go.Proofs.Ytfepimekilmgcaa


namespace Go.Proofs.Ytfepimekilmgcaa
open Go Go.E
set_option maxRecDepth 100000
set_option maxHeartbeats 4000000
set_option linter.unusedSimpArgs false
variable {R : Type} {N : Nat}
theorem loopK_ex {F : KD R → List C → List Es → Option R} (n : Nat) (inv : Nat → List C → List Es → Prop) (fin : List C → List Es → Option R)
    (step : ∀ i st sm, i < n → inv i st sm → ∃ st' sm', inv (i + 1) st' sm' ∧ ∀ rec : KD R, F rec st sm = rec st' sm')
    (stop : ∀ st sm, inv n st sm → ∀ rec : KD R, F rec st sm = fin st sm) : ∀ (m i N : Nat) (st : List C) (sm : List Es), i + m = n → m < N → inv i st sm → ∃ st' sm', inv n st' sm' ∧ loopK N F st sm = fin st' sm'
  | 0, i, N, st, sm, hi, hN, h => by
    obtain ⟨N, rfl⟩ : ∃ a, N = a + 1 := ⟨N - 1, by omega⟩
    have e : i = n := by omega
    subst e
    exact ⟨st, sm, h, by rw [loopK_succ]; exact stop st sm h _⟩
  | m + 1, i, N, st, sm, hi, hN, h => by
    obtain ⟨N, rfl⟩ : ∃ a, N = a + 1 := ⟨N - 1, by omega⟩
    obtain ⟨st', sm', h1, h2⟩ := step i st sm (by omega) h
    obtain ⟨st2, sm2, h3, h4⟩ := loopK_ex n inv fin step stop m (i + 1) N st' sm' (by omega) (by omega) h1
    exact ⟨st2, sm2, h3, by rw [loopK_succ, h2]; exact h4⟩
theorem loopK_all {F : KD R → List C → List Es → Option R} (n : Nat) (inv : Nat → List C → List Es → Prop) (r : Option R)
    (step : ∀ i st sm, i < n → inv i st sm → (∀ rec : KD R, (∀ st' sm', inv (i + 1) st' sm' → rec st' sm' = r) → F rec st sm = r))
    (stop : ∀ st sm, inv n st sm → ∀ rec : KD R, F rec st sm = r) : ∀ (m i N : Nat) (st : List C) (sm : List Es), i + m = n → m < N → inv i st sm → loopK N F st sm = r
  | 0, i, N, st, sm, hi, hN, h => by
    obtain ⟨N, rfl⟩ : ∃ a, N = a + 1 := ⟨N - 1, by omega⟩
    have e : i = n := by omega
    subst e
    rw [loopK_succ]; exact stop st sm h _
  | m + 1, i, N, st, sm, hi, hN, h => by
    obtain ⟨N, rfl⟩ : ∃ a, N = a + 1 := ⟨N - 1, by omega⟩
    rw [loopK_succ]
    exact step i st sm (by omega) h _ fun st' sm' h' => loopK_all n inv r step stop m (i + 1) N st' sm' (by omega) (by omega) h'
def putE : Es → C → C → Es
  | [], c, v => [(c, v)]
  | (k, u) :: l, c, v => if C.beq c k = true then (k, v) :: l else (k, u) :: putE l c v
theorem putMB_dE (τ : Ty) (c v : C) : ∀ m : Es, putMB (dE τ m) c (V.d τ v) = dE τ (putE m c v)
  | [] => rfl
  | (k, u) :: m => by
    have ih := putMB_dE τ c v m
    simp only [dE, List.map_cons, putMB, putE] at ih ⊢
    by_cases h : C.beq c k = true
    · simp [h]
    · simp [h, ih]
theorem hasM_put (c v d : C) : ∀ m : Es, hasM m c = false → hasM (putE m c v) d = (hasM m d || C.beq d c) ∧ (hasM m d = true → getM (putE m c v) d = getM m d) ∧ (hasM m d = false → C.beq d c = true → getM (putE m c v) d = v)
  | [], _ => by
    refine ⟨?_, fun h => by simp [hasM] at h, fun _ h => ?_⟩
    · cases h : C.beq d c <;> simp [putE, hasM, h]
    · simp [putE, getM, h]
  | (k, u) :: m, h => by
    have hk : C.beq c k = false := by
      cases hb : C.beq c k with
      | true => simp [hasM, hb] at h
      | false => rfl
    have hm : hasM m c = false := by simpa [hasM, hk] using h
    obtain ⟨i1, i2, i3⟩ := hasM_put c v d m hm
    simp only [putE, hk, Bool.false_eq_true, if_false]
    cases hd : C.beq d k with
    | true =>
      refine ⟨by simp [hasM, hd], fun _ => by simp [getM, hd], fun h2 => by simp [hasM, hd] at h2⟩
    | false =>
      refine ⟨by simp [hasM, hd, i1], fun h2 => ?_, fun h2 h3 => ?_⟩
      · simp only [hasM, hd, cond_false] at h2
        simp [getM, hd, i2 h2]
      · simp only [hasM, hd, cond_false] at h2
        simp [getM, hd, i3 h2 h3]
def inT (m : Es) (c : C) : Bool := hasM m (c.get 3) && decide (((getM m (c.get 3)).get 1).toInt ≤ (c.get 4).toInt)
def ofP (m : Es) (c : C) (height : Int) : Int := if inT m c = true then 1 else if (c.get 4).toInt < height then 2 else 0
theorem when_eq (h : C) (a1 b0 : C) (m : Es) (k : KD R) : notary_Notary_When_p N h a1 b0 m k = k [if hasM m h = true then (getM m h).get 1 else .int 0, .bool (hasM m h)] [] := by
  rw [notary_Notary_When_pe]
  unfold notary_Notary_When_p0
  simp only [go_sem]
  cases hasM m h <;> rfl
theorem in_eq (h x : C) (a1 b0 : C) (m : Es) (k : KD R) : notary_Notary_In_p N h x a1 b0 m k = k [.bool (hasM m h && decide (((getM m h).get 1).toInt ≤ x.toInt))] [] := by
  rw [notary_Notary_In_pe]
  unfold notary_Notary_In_p0
  simp only [go_sem, when_eq, c_bool]
  cases hm : hasM m h <;> simp [hm]
theorem of_eq (c height : C) (b0 : C) (m : Es) (k : KD R) : notary_Notary_Of_p N c height b0 m k = k [.int (ofP m c height.toInt)] [] := by
  rw [notary_Notary_Of_pe]
  unfold notary_Notary_Of_p0 ofP inT
  simp only [go_sem, in_eq, c_bool]
  cases h : hasM m (c.get 3)
  · by_cases h2 : (c.get 4).toInt < height.toInt <;> simp [h2]
  · by_cases h1 : ((getM m (c.get 3)).get 1).toInt ≤ (c.get 4).toInt
    · simp [h1]
    · by_cases h2 : (c.get 4).toInt < height.toInt <;> simp [h1, h2]
theorem lock_tot (s : C) (hN : 5000 < N) (hN2 : N < 4611686018427387904) : ∃ c : C, ∀ k : KD R, mill_Lock_p N s k = k [c] [] := by
  obtain ⟨c, _, h⟩ := For_tot (R := R) (N := N) (.int 6) [C.slice (cut (C.elems s) 0 32)] 100 (fun x hx => ⟨_, List.mem_singleton.1 hx, by simp [cut]; omega⟩) (by simp; omega) (by omega) hN2
  refine ⟨c, fun k => ?_⟩
  rw [mill_Lock_pe]
  unfold mill_Lock_p0
  simp only [h, dk_0]
theorem tell_eq (s h x y : C) (m : Es) (hN : 5000 < N) (hN2 : N < 4611686018427387904) : ∃ (e : Int) (m' : Es), (∀ k : KD R, notary_Notary_Tell_p N s h x y m k = k [.int e] [m']) ∧
    (m' = m ∨ ∃ c v : C, hasM m c = false ∧ v.get 1 = h ∧ m' = putE m c v) := by
  obtain ⟨c, hc⟩ := lock_tot (R := R) (N := N) s hN hN2
  cases hm : hasM m c with
  | true =>
    refine ⟨7, m, fun k => ?_, .inl rfl⟩
    rw [notary_Notary_Tell_pe]
    unfold notary_Notary_Tell_p0
    simp only [hc, dk_0, allDB_dE, hasE_dE, allD_dE, unE_dE, hm, cond_true, if_true]
  | false =>
    refine ⟨0, _, fun k => ?_, .inr ⟨c, C.set (C.set (C.agg [C.agg (List.replicate 32 (C.int 0)), C.int 0]) 0 s) 1 h, hm, rfl, rfl⟩⟩
    rw [notary_Notary_Tell_pe]
    unfold notary_Notary_Tell_p0
    have e : dm [m] 0 = m := rfl
    simp only [hc, dk_0, e, allDB_dE, hasE_dE, putMB_dE, allD_dE, unE_dE, hm, cond_true, cond_false, if_true]
theorem awake10_eq (hN : 5000 < N) (hN2 : N < 4611686018427387904) (k : KD R) : law10_awake_p N k = k [.bool true] [] := by
  obtain ⟨c, hc⟩ := lock_tot (R := R) (N := N) (C.set (zeroC (Ty.arr 32 (Ty.int IntKind.u8))) 0 (C.int 1)) hN hN2
  rw [law10_awake_pe]
  unfold law10_awake_p0
  simp only [hc, dk_0, jn_eq, hasE, getE, beqC_refl, cond_true]
  rfl
def EtaC (c : C) : Prop := c = .agg [c.get 0, c.get 1, c.get 2, c.get 3, c.get 4]
theorem law10_To_id (c : C) (h : EtaC c) (k : KD R) : law10_To_p N c k = k [c] [] := by
  rw [law10_To_pe]
  unfold law10_To_p0
  simp only [set_agg_0, set_agg_1, set_agg_2, set_agg_3, set_agg_4]
  rw [← h]
def Stay (m : Es) (H : Int) (c x : C) : Prop := ∃ v : Int, x = .int v ∧ (v = 0 ∨ (v = 1 ∧ inT m c = true) ∨ (v = 2 ∧ inT m c = false ∧ (c.get 4).toInt < H))
theorem stay_of (m : Es) (c : C) (H : Int) : Stay m H c (.int (ofP m c H)) := by
  refine ⟨_, rfl, ?_⟩
  unfold ofP
  cases h : inT m c
  · by_cases h2 : (c.get 4).toInt < H
    · exact .inr (.inr ⟨by simp [h2], rfl, h2⟩)
    · exact .inl (by simp [h2])
  · exact .inr (.inl ⟨by simp, rfl⟩)
theorem stay_ver {m : Es} {c x : C} {H : Int} (h : Stay m H c x) : x.toInt = 0 ∨ ofP m c H = x.toInt := by
  obtain ⟨v, rfl, h⟩ := h
  simp only [c_int]
  rcases h with h | ⟨rfl, h⟩ | ⟨rfl, h, h2⟩
  · exact .inl h
  · exact .inr (by simp [ofP, h])
  · exact .inr (by simp [ofP, h, h2])
theorem stay_more {m m' : Es} {c x h : C} {H H' : Int} (hh : h.toInt = H') (hH : H ≤ H') (hm : m' = m ∨ ∃ d v : C, hasM m d = false ∧ v.get 1 = h ∧ m' = putE m d v) (hs : Stay m H c x) : Stay m' H' c x := by
  obtain ⟨v, rfl, hs⟩ := hs
  refine ⟨v, rfl, ?_⟩
  rcases hm with rfl | ⟨d, u, hd, hu, rfl⟩
  · rcases hs with h | ⟨h1, h2⟩ | ⟨h1, h2, h3⟩
    · exact .inl h
    · exact .inr (.inl ⟨h1, h2⟩)
    · exact .inr (.inr ⟨h1, h2, by omega⟩)
  · obtain ⟨p1, p2, p3⟩ := hasM_put d u (c.get 3) m hd
    rcases hs with h | ⟨h1, h2⟩ | ⟨h1, h2, h3⟩
    · exact .inl h
    · refine .inr (.inl ⟨h1, ?_⟩)
      unfold inT at h2 ⊢
      simp only [Bool.and_eq_true, decide_eq_true_eq] at h2 ⊢
      rw [p1, p2 h2.1, h2.1]
      exact ⟨rfl, h2.2⟩
    · refine .inr (.inr ⟨h1, ?_, by omega⟩)
      unfold inT at h2 ⊢
      cases hb : hasM m (c.get 3) with
      | true =>
        rw [p1, p2 hb]
        simpa [hb] using h2
      | false =>
        cases hq : C.beq (c.get 3) d with
        | false => rw [p1, hb, hq]; rfl
        | true =>
          rw [p3 hb hq, hu, hh]
          have : ¬ H' ≤ (c.get 4).toInt := by omega
          simp [this]
end Go.Proofs.Ytfepimekilmgcaa


namespace Go.Proofs.Ytfepimekilmgcaa
open Go Go.E
set_option maxRecDepth 100000
set_option maxHeartbeats 4000000
set_option linter.unusedSimpArgs false
variable {R : Type} {N : Nat}
theorem setA (l : List C) (i : Nat) (x : C) : C.set (.agg l) i x = .agg (l.set i x) := rfl
theorem getA (l : List C) (i : Nat) : C.get (.agg l) i = l.getD i .nil := rfl
theorem dm0 (a : Es) (l : List Es) : dm (a :: l) 0 = a := rfl
theorem dm1 (a b : Es) (l : List Es) : dm (a :: b :: l) 1 = b := rfl
theorem getD_set {l : List C} {i j : Nat} {x : C} (hi : i < l.length) : (l.set i x).getD j .nil = if i = j then x else l.getD j .nil := by
  rw [List.getD_eq_getElem?_getD, List.getD_eq_getElem?_getD, List.getElem?_set]
  by_cases h : i = j
  · subst h; simp [hi]
  · simp [h]
theorem inner_ok (a0 : C) (L S : List C) (i : Nat) (H : Int) (B T : Es) (last : List C) (hl : last.length = L.length) (hE : ∀ c ∈ L, EtaC c) (hs : ∀ k, k < L.length → Stay B H (L.getD k .nil) (last.getD k .nil)) (hn : L.length ≤ 20) (hN : 5000 < N) (k1 k4 : KD R) :
    ∃ last' : List C, last'.length = L.length ∧ (∀ k, k < L.length → Stay B H (L.getD k .nil) (last'.getD k .nil)) ∧
      loopK N (law10_NotaryLasts_l1 N k1 k4) [a0, .slice L, .int H, .slice S, .int S.length, .int i, .slice L, .int L.length, .int L.length, .int 0, .agg last] [B, T] =
        k4 [a0, .slice L, .int H, .slice S, .int S.length, .int i, .int L.length, .agg last'] [B, T] := by
  obtain ⟨st, sm, ⟨last', rfl, rfl, h1, h2⟩, h3⟩ := loopK_ex (F := law10_NotaryLasts_l1 N k1 k4) L.length
    (fun j st sm => ∃ last' : List C, st = [a0, .slice L, .int H, .slice S, .int S.length, .int i, .slice L, .int L.length, .int L.length, .int j, .agg last'] ∧ sm = [B, T] ∧ last'.length = L.length ∧ ∀ k, k < L.length → Stay B H (L.getD k .nil) (last'.getD k .nil))
    (fun st sm => k4 [dk st 0, dk st 1, dk st 2, dk st 3, dk st 4, dk st 5, .int L.length, dk st 10] [B, T])
    (fun j st sm hj hst => by
      obtain ⟨last', rfl, rfl, h1, h2⟩ := hst
      have e1 : (j : Int) < (L.length : Int) := by omega
      have hc := hE _ (getD_mem hj)
      have hv := stay_ver (h2 j hj)
      refine ⟨_, _, ⟨last'.set j (.int (ofP B (L.getD j .nil) H)), rfl, rfl, by simp [h1], fun k hk => ?_⟩, fun rec => ?_⟩
      · rw [getD_set (by omega)]
        split
        · rename_i e; subst e; exact stay_of _ _ _
        · exact h2 k hk
      · have hb : ∀ b : Bool, b = false → (bif b then k1 [C.bool false] [] else none : Option R) = none := fun b hb => by rw [hb]; rfl
        unfold law10_NotaryLasts_l1
        rcases hv with hv | hv
        · simp only [jn_eq, dk_0, dk_1, dk_2, dk_3, dk_4, dk_5, dk_6, dk_7, dk_8, dk_9, dk_10, dk_11, dk_12, dk_13, dm0, dm1, c_int, c_slice, c_bool, c_agg, e1, h1, hv, setA, getA, Nat.zero_add, renE_dE, unE_dE, allD_dE, law10_To_id _ hc, of_eq, decide_true, Bool.not_true, Int.natCast_nonneg, and_self, if_true, cond_true, cond_false, Int.toNat_natCast, List.length_set, wrap_succ (show j < 4611686018427387904 by omega)]
        · by_cases hz : (last'.getD j .nil).toInt = 0
          · simp only [jn_eq, dk_0, dk_1, dk_2, dk_3, dk_4, dk_5, dk_6, dk_7, dk_8, dk_9, dk_10, dk_11, dk_12, dk_13, dm0, dm1, c_int, c_slice, c_bool, c_agg, e1, h1, hz, setA, getA, Nat.zero_add, renE_dE, unE_dE, allD_dE, law10_To_id _ hc, of_eq, decide_true, Bool.not_true, Int.natCast_nonneg, and_self, if_true, cond_true, cond_false, Int.toNat_natCast, List.length_set, wrap_succ (show j < 4611686018427387904 by omega)]
          · simp only [jn_eq, dk_0, dk_1, dk_2, dk_3, dk_4, dk_5, dk_6, dk_7, dk_8, dk_9, dk_10, dk_11, dk_12, dk_13, dm0, dm1, c_int, c_slice, c_bool, c_agg, e1, h1, hv, hz, setA, getA, Nat.zero_add, renE_dE, unE_dE, allD_dE, law10_To_id _ hc, of_eq, decide_true, decide_false, Bool.not_true, Bool.not_false, Int.natCast_nonneg, and_self, if_true, cond_true, cond_false, Int.toNat_natCast, List.length_set, wrap_succ (show j < 4611686018427387904 by omega)])
    (fun st sm hst rec => by
      obtain ⟨last', rfl, rfl, h1, h2⟩ := hst
      unfold law10_NotaryLasts_l1
      simp only [dk_0, dk_1, dk_2, dk_3, dk_4, dk_5, dk_6, dk_7, dk_8, dk_9, dk_10, dm0, dm1, c_int, Int.lt_irrefl, allD_dE, unE_dE, decide_false, cond_false, if_true, Int.toNat_natCast])
    L.length 0 N [a0, .slice L, .int H, .slice S, .int S.length, .int i, .slice L, .int L.length, .int L.length, .int (0 : Nat), .agg last] [B, T] (by omega) (by omega) ⟨last, rfl, rfl, hl, hs⟩
  exact ⟨last', h1, h2, h3⟩
theorem NotaryLasts_eq (a0 : C) (S L : List C) (hS : ∀ c ∈ S, c = .int c.toInt ∧ 0 ≤ c.toInt ∧ c.toInt < 256) (hSl : S.length ≤ 140737488355328) (hE : ∀ c ∈ L, EtaC c) (ha0 : a0.elems.length ≤ 140737488355328) (hN : 200000000000000 < N) (hN2 : N < 4611686018427387904) (k : KD R) :
    law10_NotaryLasts_p N a0 (.slice S) (.slice L) k = k [.bool true] [] := by
  rw [law10_NotaryLasts_pe]
  unfold law10_NotaryLasts_p0
  have aw := fun k : KD R => awake10_eq (N := N) (by omega) hN2 k
  by_cases g1 : 20 < (L.length : Int)
  · simp only [c_slice, g1, decide_true, cond_true, aw, dk_0, c_bool]
  have hn : L.length ≤ 20 := by omega
  simp only [c_slice, g1, decide_false, cond_false, jn_eq, Int.toNat_natCast, List.length_replicate, if_true, unE_nil]
  refine (if_pos (by omega)).trans ?_
  refine loopK_all (F := law10_NotaryLasts_l2 N k _) S.length
    (fun i st sm => ∃ (H : Int) (B : Es) (last : List C), st = [a0, .slice L, .slice S, .int S.length, .int H, .int L.length, .int i, .agg last] ∧ sm = [B, []] ∧ 0 ≤ H ∧ H ≤ 2 * i ∧ last.length = L.length ∧ ∀ k, k < L.length → Stay B H (L.getD k .nil) (last.getD k .nil)) (k [.bool true] []) ?_ ?_
    S.length 0 N _ _ (by omega) (by omega) ⟨0, [], List.replicate L.length (zeroC (.int .i64)), rfl, rfl, by omega, by omega, by simp, fun k hk => ⟨0, ?_, .inl rfl⟩⟩
  · intro i st sm hi hst rec hrec
    obtain ⟨H, B, last, rfl, rfl, hH0, hH, hl, hs⟩ := hst
    have e1 : (i : Int) < (S.length : Int) := by omega
    unfold law10_NotaryLasts_l2
    by_cases z : 40 ≤ (i : Int)
    · simp only [jn_eq, dk_0, dk_1, dk_2, dk_3, dk_4, dk_5, dk_6, dk_7, dm0, dm1, c_int, c_slice, e1, z, Int.natCast_nonneg, and_self, if_true, decide_true, cond_true, allD_dE, unE_dE, aw, c_bool, renE_dE, dE_nil, List.length_nil]
      rfl
    have hsb := (hS _ (getD_mem hi)).2
    have r3 := tmod_range (S.getD i .nil).toInt 3 hsb.1 (by omega)
    have w1 : IntKind.u64.wrap (Int.tmod (S.getD i .nil).toInt 3) = Int.tmod (S.getD i .nil).toInt 3 := wrap_u64 (by omega) (by omega)
    have w2 : IntKind.u64.wrap (H + Int.tmod (S.getD i .nil).toInt 3) = H + Int.tmod (S.getD i .nil).toInt 3 := wrap_u64 (by omega) (by omega)
    have fin : ∀ (B' : Es), (B' = B ∨ ∃ d v : C, hasM B d = false ∧ v.get 1 = .int (H + Int.tmod (S.getD i .nil).toInt 3) ∧ B' = putE B d v) → ∀ k4 : KD R,
        (∀ last' : List C, last'.length = L.length → (∀ k, k < L.length → Stay B' (H + Int.tmod (S.getD i .nil).toInt 3) (L.getD k .nil) (last'.getD k .nil)) → k4 [a0, .slice L, .int (H + Int.tmod (S.getD i .nil).toInt 3), .slice S, .int S.length, .int i, .int L.length, .agg last'] [B', []] = k [.bool true] []) →
        loopK N (law10_NotaryLasts_l1 N k k4) [a0, .slice L, .int (H + Int.tmod (S.getD i .nil).toInt 3), .slice S, .int S.length, .int i, .slice L, .int L.length, .int L.length, .int 0, .agg last] [B', []] = k [.bool true] [] := by
      intro B' hB' k4 hk4
      obtain ⟨last', h1, h2, h3⟩ := inner_ok (N := N) a0 L S i (H + Int.tmod (S.getD i .nil).toInt 3) B' [] last hl hE (fun k hk => stay_more (c_int _) (by omega) hB' (hs k hk)) hn (by omega) k k4
      rw [h3]
      exact hk4 last' h1 h2
    have next : ∀ (B' : Es) (last' : List C), last'.length = L.length → (∀ k, k < L.length → Stay B' (H + Int.tmod (S.getD i .nil).toInt 3) (L.getD k .nil) (last'.getD k .nil)) →
        rec [a0, .slice L, .slice S, .int S.length, .int (H + Int.tmod (S.getD i .nil).toInt 3), .int L.length, .int ((i + 1 : Nat) : Int), .agg last'] [B', []] = k [.bool true] [] := fun B' last' h1 h2 =>
      hrec _ _ ⟨_, B', last', rfl, rfl, by omega, by omega, h1, h2⟩
    by_cases hb : 128 ≤ (S.getD i .nil).toInt ∧ 0 < (a0.elems.length : Int)
    · have hne : (a0.elems.length : Int) ≠ 0 := by omega
      have w3 : IntKind.i64.wrap (S.getD i .nil).toInt = (S.getD i .nil).toInt := wrap_i64 (by omega) (by omega)
      have rl := tmod_range (S.getD i .nil).toInt (a0.elems.length : Int) hsb.1 (by omega)
      obtain ⟨e, B', ht, hB'⟩ := tell_eq (R := R) (N := N) (a0.elems.getD (Int.tmod (S.getD i .nil).toInt (a0.elems.length : Int)).toNat .nil) (.int (H + Int.tmod (S.getD i .nil).toInt 3)) .nil .nil B (by omega) hN2
      simp only [jn_eq, dk_0, dk_1, dk_2, dk_3, dk_4, dk_5, dk_6, dk_7, dk_8, dk_9, dm0, dm1, c_int, c_slice, c_bool, e1, z, hb.1, hb.2, hne, rl, w1, w2, w3, Int.natCast_nonneg, and_self, if_true, decide_true, decide_false, cond_true, cond_false, renE_dE, allD_dE, unE_dE, ht, Int.toNat_natCast, ne_eq, not_false_eq_true]
      refine fin B' hB' _ fun last' h1 h2 => ?_
      simp only [dk_0, dk_1, dk_2, dk_3, dk_4, dk_5, dk_6, dk_7, dm0, dm1, c_int, allD_dE, unE_dE, if_true, Int.toNat_natCast, wrap_succ (show i < 4611686018427387904 by omega)]
      exact next B' last' h1 h2
    · have tail : ∀ (b : Bool), b = false → b = false := fun _ h => h
      by_cases h8 : 128 ≤ (S.getD i .nil).toInt
      · have h9 : ¬ 0 < (a0.elems.length : Int) := fun h => hb ⟨h8, h⟩
        simp only [jn_eq, dk_0, dk_1, dk_2, dk_3, dk_4, dk_5, dk_6, dk_7, dk_8, dk_9, dm0, dm1, c_int, c_slice, c_bool, e1, z, h8, h9, w1, w2, Int.natCast_nonneg, and_self, if_true, decide_true, decide_false, cond_true, cond_false, allD_dE, unE_dE, Int.toNat_natCast]
        refine fin B (.inl rfl) _ fun last' h1 h2 => ?_
        simp only [dk_0, dk_1, dk_2, dk_3, dk_4, dk_5, dk_6, dk_7, dm0, dm1, c_int, allD_dE, unE_dE, if_true, Int.toNat_natCast, wrap_succ (show i < 4611686018427387904 by omega)]
        exact next B last' h1 h2
      · simp only [jn_eq, dk_0, dk_1, dk_2, dk_3, dk_4, dk_5, dk_6, dk_7, dk_8, dk_9, dm0, dm1, c_int, c_slice, c_bool, e1, z, h8, w1, w2, Int.natCast_nonneg, and_self, if_true, decide_true, decide_false, cond_true, cond_false, allD_dE, unE_dE, Int.toNat_natCast]
        refine fin B (.inl rfl) _ fun last' h1 h2 => ?_
        simp only [dk_0, dk_1, dk_2, dk_3, dk_4, dk_5, dk_6, dk_7, dm0, dm1, c_int, allD_dE, unE_dE, if_true, Int.toNat_natCast, wrap_succ (show i < 4611686018427387904 by omega)]
        exact next B last' h1 h2
  · intro st sm hst rec
    obtain ⟨H, B, last, rfl, rfl, hH0, hH, hl, hs⟩ := hst
    unfold law10_NotaryLasts_l2
    simp only [jn_eq, dk_0, dk_1, dk_2, dk_3, dk_4, dk_5, dk_6, dk_7, dm0, dm1, c_int, Int.lt_irrefl, decide_false, cond_false, if_true, allD_dE, unE_dE, aw, c_bool, renE_dE, dE_nil, List.length_nil, cond_true]
    rfl
  · rw [List.getD_eq_getElem?_getD, List.getElem?_replicate, if_pos hk]; rfl
theorem run_NotaryLasts (A : Key → Option O) (a s l : C) : DCalls (X0 gl0) 3 [.d (.slice 32 (.arr 32 (.int .u8))) a, .d (.slice 1 (.int .u8)) s, .d (.slice 64 tCond) l] A (.d .bool (.bool true)) [] := by
  refine dcalls_wf (ts := [.slice 32 (.arr 32 (.int .u8)), .slice 1 (.int .u8), .slice 64 tCond]) (cs := [a, s, l]) fun W => ?_
  have h0 := W 0 _ _ rfl rfl
  have h1 := W 1 _ _ rfl rfl
  have h2 := W 2 _ _ rfl rfl
  simp only [C.wf] at h0 h1
  have e2 : l = .slice l.elems := by simp only [C.wf] at h2; exact h2.1
  have hE : ∀ c ∈ l.elems, C.wf tCond c := by simp only [C.wf] at h2; exact h2.2.2.2
  have m1 : IntKind.u8.min = 0 := by decide
  have m2 : IntKind.u8.max = 255 := by decide
  refine of_gok (law10_NotaryLasts_ok 200000000000001) ?_
  show law10_NotaryLasts_g 200000000000001 [.d (.slice 32 (.arr 32 (.int .u8))) a, .d (.slice 1 (.int .u8)) s, .d (.slice 64 tCond) l] A kR = _
  simp only [law10_NotaryLasts_g, and_self, if_true]
  rw [h1.1, e2, NotaryLasts_eq a s.elems l.elems (fun c hc => by have := h1.2.2.2 c hc; exact ⟨this.1, by omega, by omega⟩) (by omega) (fun c hc => (C.wf_eta (hE c hc)).symm) (by omega) (by omega) (by omega)]
  rfl
end Go.Proofs.Ytfepimekilmgcaa

