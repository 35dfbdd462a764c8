/-
 What the functions on the way compute, part 1.
 Conditions: none.
-/
import Derived.Test.YteaddgnjddjllaaTf
import Derived.RangeFuncSeq
import Derived.RangeFuncGives
import Derived.RangeFuncBound
import Derived.Sort.MapsRangeIn
import Derived.Maps.RangeRun
import Derived.Maps.AppendAt
import Derived.Deep.WholeRow
import Derived.WalkKit
import Derived.OwnWalkIn
import Derived.TacticsInMore
import Derived.RegionIn
import Derived.LoopNIn
import Derived.LoopIn
import Derived.Great.FillDense
import Derived.Great.BuildSlice
import Derived.Shelf.SlSortCmp.NoneTotal
import Derived.Laws.Externs
import Derived.Lib.Bytealg
import Derived.Sort.Statements
import Derived.Sort.Grow
import Derived.Deep.Draws
import Derived.OwnWalk
import Derived.LoopTactic
import Derived.Deep.RegionWith
import Derived.Lib.BytesEntry
import Derived.Lib.UnsafeStr
set_option linter.all false
namespace Go.Proofs.Yteaddgnjddjllaa
open Go Go.E Go.RowKit
set_option maxRecDepth 100000
set_option maxHeartbeats 4000000
set_option linter.unusedSimpArgs false
abbrev H32 := {l : List UInt8 // l.length = 32}
instance : Inhabited H32 := ⟨⟨List.replicate 32 0, by simp⟩⟩
def Y5 (x : H32) : List Value := x.1.map fun b => .int .u8 (b.toNat : Int)
theorem q2G (x : H32) : (Y5 x).length = 32 := by unfold Y5; rw [List.length_map, x.2]
def q0F (x : H32) : Value := .agg (Y5 x).toArray
def z4q : Value → UInt8
 | .int _ i => UInt8.ofNat i.toNat
 | _ => 0
def x1d : Value → H32
 | .agg a => if h : (a.toList.map z4q).length = 32 then ⟨a.toList.map z4q, h⟩ else default
 | _ => default
theorem y7A (x : H32) : x1d (q0F x) = x := by
 have h : ((Y5 x).toArray.toList.map z4q) = x.1 := by
  simp only [Y5, List.map_map]
  refine (List.map_congr_left fun b _ => ?_).trans (List.map_id _)
  simp [z4q]
 show (if h : ((Y5 x).toArray.toList.map z4q).length = 32 then (⟨(Y5 x).toArray.toList.map z4q, h⟩ : H32) else default) = x
 rw [dif_pos (by rw [h, x.2])]
 exact Subtype.ext h
theorem q9L (e : MapEntry) : ∀ l : List MapEntry, (l.map (·.born)).Nodup → e ∈ l → l.Perm (e :: l.filter fun x => !(x.born == e.born))
 | [], _, h => by cases h
 | x :: l, hn, he => by
  simp only [List.map_cons, List.nodup_cons] at hn
  rcases List.mem_cons.1 he with rfl | he
  ·have : l.filter (fun x => !(x.born == e.born)) = l := by
    refine List.filter_eq_self.2 fun y hy => ?_
    have : y.born ≠ e.born := fun h => hn.1 (h ▸ List.mem_map_of_mem hy)
    simp [this]
   simp only [List.filter_cons, beq_self_eq_true, Bool.not_true, Bool.false_eq_true, if_false, this]
   exact .refl _
  ·have hne : x.born ≠ e.born := fun h => hn.1 (h ▸ List.mem_map_of_mem he)
   have ih := q9L e l hn.2 he
   simp only [List.filter_cons, (by simpa using hne : (x.born == e.born) = false), Bool.not_false, if_true]
   exact (ih.cons x).trans (.swap _ _ _)
theorem y3X {ms : Array MapEntry} {seen : Array Nat} {e : MapEntry} (hn : (ms.toList.map (·.born)).Nodup) (he : e ∈ (leftOf ms seen).toList) : (leftOf ms seen).toList.Perm (e :: (leftOf ms (seen.push e.born)).toList) := by
 have h1 : (leftOf ms (seen.push e.born)).toList = (leftOf ms seen).toList.filter fun x => !(x.born == e.born) := by
  unfold leftOf
  rw [Array.toList_filter, Array.toList_filter, List.filter_filter]
  refine List.filter_congr fun x _ => ?_
  rw [contains_push]
  cases seen.contains x.born <;> cases (x.born == e.born) <;> rfl
 rw [h1]
 refine q9L e _ ?_ he
 unfold leftOf
 rw [Array.toList_filter]
 exact hn.sublist (List.Sublist.map _ List.filter_sublist)
theorem y65 (n : Nat) (hn : 1 ≤ n) (l Bm bm : Nat) (ms : Array MapEntry) (clock : Nat) (xs : List H32) (J : List H32 → World → Prop)
  (W : World) (hJ : AbidesFrom W.heap.size J) (hm : W.cell? ⟨Bm, 0, none⟩ = some (.map (some bm))) (hb : W.heap[bm]? = some (.map ms clock)) (hborn : ∀ x ∈ ms.toList, x.born < clock) (hnd : (ms.toList.map (·.born)).Nodup)
  (hkey : ms.toList.map (·.key) = xs.map q0F)
  (hY : ∀ pre x W1, J pre W1 → pre.length < xs.length → YieldAt Fence.wide (n - 1) Try.prog l #[q0F x] W1 fun e W' => e = .returned (.bool true) ∧ J (pre ++ [x]) W' ∧ KeepsWalks W1 W') (h0 : J [] W) :
  CallsIn Fence.wide n Try.prog 35 #[.func (.yield l) #[] #[], .pointer (some ⟨Bm, 0, none⟩)] W fun e W' => (∃ v, e = .returned v) ∧ ∃ ss : List H32, ss.Perm xs ∧ J ss W' := by
 have hmt : Try.prog.underlying 71 = some (.map 26 78) := by kernel_rfl
 have hrange := run_range_map (P := Try.prog) W 71 _ _ bm ms clock hmt hb
 have hml : ms.toList.length = xs.length := by simpa using congrArg List.length hkey
 refine callsIn_of_wp Try.func35 rfl trivial ?_ rfl
 simp only [Try.ntmps35, List.size_toArray, List.length_cons, List.length_nil, Nat.reduceAdd, Nat.reduceSub, Array.replicate_succ, Array.replicate_zero, List.push_toArray, List.append_toArray, List.nil_append, List.cons_append]
 gi_wp2_with (first
  | (gi_at_range; refine y2q _ rfl _ _ rfl _ _ hrange ?_)
  | gi_in)
 go_frame
 gi_loopw [3] (fun _ wr => ∃ (seen : Array Nat) (col : List MapEntry) (c0 : Nat) (ss : List H32), wr.heap[W.heap.size]? = some (.mapIter (some bm) clock seen c0) ∧ clock ≤ c0 ∧ (col ++ (leftOf ms seen).toList).Perm ms.toList ∧
   col.map (·.key) = ss.map q0F ∧ wr.heap[bm]? = some (.map ms clock) ∧ W.heap.size < wr.heap.size ∧ J ss wr)
  (fun _ wr => (leftOf ms (wr.iterSeen W.heap.size)).size)
 case atStart =>
  have hg : W.grownBy (W.alloc (.mapIter (some bm) clock #[] clock)) none := ⟨rfl, rfl, rfl, by simp, fun k hk _ => heap_alloc_old _ _ hk⟩
  refine ⟨#[], [], clock, [], heap_alloc_new _ _, Nat.le_refl _, ?_, rfl, ?_, by simp, hJ [] W _ none h0 hg (fun r e => by cases e)⟩
  ·have hlf : leftOf ms #[] = ms := Array.filter_eq_self.2 fun x _ => by simp
   rw [hlf]
   exact .refl _
  ·rw [heap_alloc_old _ _ (Go.E.Q1 hb)]; exact hb
 case round =>
  obtain ⟨seen, col, c0, ss, hr, hc0, hperm, hcol, hb', hsz, hJs⟩ := hrel
  gi_wp2_with (first
   | (gi_at_next; refine y35 _ rfl _ rfl W.heap.size bm clock c0 seen ms clock rfl hr hb' hborn hc0 (Nat.le_refl _) hnd ?_ ?_)
   | gi_in)
  ·intro hl0
   gi_wp2
   go_end0
   have hemp : (leftOf ms seen).toList = [] := List.eq_nil_of_length_eq_zero (by simpa using hl0)
   rw [hemp, List.append_nil] at hperm
   refine ⟨⟨_, rfl⟩, ss, ?_, hJs⟩
   have h1 : (ss.map q0F).Perm (xs.map q0F) := by rw [← hcol, ← hkey]; exact hperm.map _
   have h2 := h1.map x1d
   rw [List.map_map, List.map_map] at h2
   simpa [Function.comp_def, y7A] using h2
  ·intro e he w2 hr2 hg2 hs2 hen
   have he' := Array.mem_toList_iff.2 he
   have hme := mem_left he'
   obtain ⟨x, hx, hev⟩ : ∃ x ∈ xs, q0F x = e.key := by
    have := List.mem_map_of_mem (f := fun e : MapEntry => e.key) hme.1
    rw [hkey] at this
    simpa using this
   rw [← hev] at hen ⊢
   have hYx := hY ss x
   obtain ⟨c', hc'⟩ : ∃ c', (Y5 x).toArray = c' := ⟨_, rfl⟩
   have hkv : q0F x = .agg c' := by unfold q0F; rw [hc']
   have hz : c'.size = 32 := by rw [← hc', List.size_toArray, q2G]
   have hone : c'.all (·.oneCell') = true := by
    rw [← hc', List.all_toArray]
    refine List.all_eq_true.2 fun v hv => ?_
    obtain ⟨b, _, rfl⟩ := List.mem_map.1 hv
    rfl
   obtain ⟨i0, hi, hz0, hz1, hz2⟩ := info_parts (show (Try.prog.info? 26).map (fun i => (i.zero, i.size, i.bytes)) = some (some (.agg (Array.replicate 32 (.int .u8 0))), 32, 32) by kernel_rfl)
   have hi1 : (Try.prog.info? 26).map (·.size) = some c'.size := by rw [hi, hz]; simp [hz1]
   have hst := run_storeAt_new (P := Try.prog) w2 26 (Array.replicate 32 (.int .u8 0)) c' hi1 (by simp [hz]) hone
   have hld := run_loadAt_new (P := Try.prog) w2 26 c' 32 5 (by kernel_rfl) hi1
   have hcl : ss.length < xs.length := by
    have h1 := hperm.length_eq
    have h2 : 0 < (leftOf ms seen).toList.length := List.length_pos_of_mem he'
    have h3 : col.length = ss.length := by simpa using congrArg List.length hcol
    rw [List.length_append, hml] at h1
    omega
   have hg4 : wr.grownBy (w2.alloc (.cells c' 26)) (some W.heap.size) := ⟨hg2.os, hg2.tape, hg2.output, by have := hg2.size; simp; omega, fun k hk hne => (heap_alloc_old _ _ (by omega)).trans (hg2.block k hk hne)⟩
   have hJ2 : J ss (w2.alloc (.cells c' 26)) := hJ ss wr _ (some W.heap.size) hJs hg4 (fun r e => by cases e; exact ⟨Nat.le_refl _, _, hr, rfl⟩)
   have hr4 : (w2.alloc (.cells c' 26)).heap[W.heap.size]? = some (.mapIter (some bm) clock (seen.push e.born) clock) := (heap_alloc_old _ _ (by omega)).trans hr2
   have hbne : bm ≠ W.heap.size := fun h => by rw [h, hr] at hb'; cases hb'
   have hb4 : (w2.alloc (.cells c' 26)).heap[bm]? = some (.map ms clock) := (hg4.block bm (Go.E.Q1 hb') (fun h => hbne (by cases h; rfl))).trans hb'
   have hsz4 : W.heap.size < (w2.alloc (.cells c' 26)).heap.size := by have := hg4.size; omega
   have hkey2 : (col ++ [e]).map (·.key) = (ss ++ [x]).map q0F := by rw [List.map_append, List.map_append, hcol]; simp [← hev]
   rw [hkv] at hen hYx ⊢
   obtain ⟨fn, tmps, assign, body, hy, hR⟩ := hYx _ hJ2 hcl
   clear hev hY hYx hs2 hg4 hJ2 hi1 hc' hkv hi hz0 hz1 hz2 hone hz
   gi_wp2_with (first
    | (refine z1z _ rfl 26 _ rfl _ _ hld ?_)
    | (refine q95 _ rfl 26 _ _ rfl _ hst ?_)
    | gi_in)
   refine hR.mono ?_
   rintro e' W3 ⟨rfl, hJ3, hk3⟩
   clear hst hld
   gi_wp2
   go_roundw
   case rel => exact ⟨seen.push e.born, col ++ [e], clock, ss ++ [x], hk3.same _ _ hr4 rfl, Nat.le_refl _, by rw [List.append_assoc]; exact ((y3X hnd he').symm.append_left col).trans hperm, hkey2, hk3.same _ _ hb4 rfl, Nat.lt_of_lt_of_le hsz4 hk3.size, hJ3⟩
   case measure =>
    have e1 : W3.iterSeen W.heap.size = seen.push e.born := by unfold World.iterSeen; rw [hk3.same _ _ hr4 rfl]
    have e2 : wr.iterSeen W.heap.size = seen := by unfold World.iterSeen; rw [hr]
    rw [e1, e2]
    exact left_shrinks ms seen e he'
def rfA : Code → Code
 | .seq (.region _ _ _) b => rfA b
 | .seq a _ => rfA a
 | .block _ c => rfA c
 | .rangeFunc _ _ a _ => a
 | c => c
def rfB : Code → Code
 | .seq (.region _ _ _) b => rfB b
 | .seq a _ => rfB a
 | .block _ c => rfB c
 | .rangeFunc _ _ _ b => b
 | c => c
noncomputable def apA : Code := match Try.f39.body with | some c => rfA c | none => .skip
noncomputable def apB : Code := match Try.f39.body with | some c => rfB c | none => .skip
noncomputable def q5f (fn : FuncId) (sv : Value) (Bs D : Nat) (st : LoopState) (pend : Option Code) : Loop :=
 { state := st, pending := pend, fn, tmps := #[.slice none 0 0, sv, .pointer (some ⟨Bs, 0, none⟩), undef, .slice none 0 0, undef, sv, undef, undef, undef, undef, undef, undef], params := #[7], assign := apA, body := apB, defers := D }
structure y11 (w0 : World) (fn : FuncId) (sv : Value) (Bs l D : Nat) (ss : List H32) (W : World) : Prop where
 box : ∃ v, W.heap[Bs]? = some (.cells #[v] 37 (0, 0)) ∧ W.ownsRow w0.heap.size 26 32 v ss.length (ss.flatMap Y5) ∧ (v = .slice none 0 0 ↔ ss = [])
 L : W.heap[l]? = some (.loop (q5f fn sv Bs D .ready none))
 K : W.heap[D]? = some (.deferred (some []))
 below : Below w0.heap.size w0 W
theorem y5Z (w : World) (c' : Array Value) (hz : c'.size = 32) : (Instr.buildSlice 37 1 #[(0, .agg c')]).run Try.prog w = .ok (.slice (some ⟨w.heap.size, 0, none⟩) 1 1) (w.alloc (.cells c' 26)) := by
 obtain ⟨i0, hi, hz0, hz1, hz2⟩ := info_parts (show (Try.prog.info? 26).map (fun i => (i.zero, i.size, i.bytes)) = some (some (.agg (Array.replicate 32 (.int .u8 0))), 32, 32) by kernel_rfl)
 have hu : Try.prog.underlying 37 = some (.slice 26) := by kernel_rfl
 refine run_buildSlice w _ _ 1 #[(0, .agg c')] c' i0 _ hu hi hz0 (by rw [hz1]; decide) (by rw [hz1]; decide) ?_
 have hf := Great.fill_whole (s := 32) (by omega) [Value.agg c'] ((Array.range (1 * 32)).map ((Array.replicate 32 (Value.int .u8 0))[· % 32]!)) (fun v hv => by rw [List.mem_singleton.1 hv]; exact hz) (by simp)
 rw [hz1]
 refine Eq.trans ?_ (hf.trans ?_)
 ·simp [Value.cells]
 ·simp [Value.cells]
theorem z3v (W : World) (l : Nat) (o : Obj) : W.grownBy (W.putObj l o) (some l) :=
 ⟨rfl, rfl, rfl, by simp, fun k _ hk => World.putObj_heap_other (fun e => hk (by rw [e]))⟩
theorem y9h (W : World) (b : Nat) (v : Value) : W.grownBy (W.setCell ⟨b, 0, none⟩ v) (some b) :=
 ⟨rfl, rfl, rfl, (KeepsWalks.setCell W _ v).size, fun k _ hk => Below.heap_setCell _ _ _ k (fun e => hk (by rw [e]))⟩
theorem z0m {W : World} {base : Nat} {e : TypeId} {size : Nat} {v : Value} {k : Nat} {xs : List Value} (h : W.ownsRow base e size v k xs) {j : Nat} {o : Obj} (hj : W.heap[j]? = some o) (hno : ∀ cur, o ≠ .cells cur e (0, 0)) :
  v.ownBlock = none ∨ v.ownBlock ≠ some j := by
 rcases h.2 with ⟨rfl, _⟩ | ⟨g, cap, cur, rfl, _, hgb, _⟩
 ·exact .inl rfl
 ·refine .inr fun e' => ?_
  have : g = j := by simpa [Value.ownBlock] using e'
  subst this; rw [hgb] at hj; cases hj; exact hno cur rfl
theorem z1O {W : World} {B : Nat} {v : Value} {t : TypeId} (h : W.heap[B]? = some (.cells #[v] t (0, 0))) : W.cell? ⟨B, 0, none⟩ = some v ∧ W.frozen? ⟨B, 0, none⟩ = false := by
 constructor <;> simp [World.cell?, World.frozen?, h]
theorem z5z {W : World} {B : Nat} {v : Value} {t : TypeId} (v' : Value) (h : W.heap[B]? = some (.cells #[v] t (0, 0))) : (W.setCell ⟨B, 0, none⟩ v').heap[B]? = some (.cells #[v'] t (0, 0)) := by
 obtain ⟨hlt, hk⟩ := Array.getElem?_eq_some_iff.1 h
 show (W.heap.modify B _)[B]? = _
 rw [Array.getElem?_eq_getElem (by rw [Array.size_modify]; exact hlt), Array.getElem_modify_self, hk]
 rfl
theorem y0h {W : World} {base : Nat} {e : TypeId} {size : Nat} {v : Value} {k : Nat} {xs : List Value} (h : W.ownsRow base e size v k xs) : ∀ (j : Nat) (o : Obj), v.ownBlock = some j → W.heap[j]? = some o → o.isWalk = false := by
 intro j o hj ho
 rcases h.2 with ⟨rfl, _⟩ | ⟨g, cap, cur, rfl, _, hgb, _⟩
 ·simp [Value.ownBlock] at hj
 ·have : g = j := by simpa [Value.ownBlock] using hj
  subst this; rw [hgb] at ho; cases ho; rfl
theorem y4s (W : World) (T : TypeId) (c' : Array Value) : ∀ (j : Nat) (u : Value), c'.toList[j]? = some u → (W.alloc (.cells c' T)).cell? ((⟨W.heap.size, 0, none⟩ : Addr).add j) = some u := by
 intro j u hu
 have hadd : (⟨W.heap.size, 0, none⟩ : Addr).add j = ⟨W.heap.size, j, none⟩ := by unfold Addr.add; split <;> simp_all
 rw [hadd, cell_of_row _ _ j _ T (0, 0) (heap_alloc_new W _)]
 simpa using hu
theorem y4U (w : World) (t : TypeId) (p : Addr) (v : Value) {d : TypeDesc} (hu : Try.prog.underlying t = some d) (hd : ∀ w : World, (isAgg t).run Try.prog w = .ok false w) (hc : w.cell? p = some v) : (Instr.loadAt t (.pointer (some p))).run Try.prog w = .ok v w := by
 simp only [Instr.loadAt, Instr.sureAddr, Sem.run_bind, Sem.run_pure, Result.andThen, loadVar, hd]
 simp [hc]
theorem y3v (w : World) (t : TypeId) (B : Nat) (q : Option Addr) (n c : Nat) (v0 : Value) {i : TypeInfo} (hi : Try.prog.info? t = some i) (hs : i.size = 1) (hc : w.cell? ⟨B, 0, none⟩ = some v0) (hf : w.frozen? ⟨B, 0, none⟩ = false) : (Instr.storeAt t (.pointer (some ⟨B, 0, none⟩)) (.slice q n c)).run Try.prog w = .ok () (w.setCell ⟨B, 0, none⟩ (.slice q n c)) := by
 simp only [Instr.storeAt, Instr.sureAddr, Sem.run_bind, Sem.run_pure, Result.andThen, storeVar, sizeOf, typeInfo]
 simp [hi, hs, storeCells, Value.cells, Addr.add, run_store_slice, stored, hc, hf]
theorem y7P (m : Nat) (w0 : World) (fn : FuncId) (sv : Value) (Bs l D : Nat) (hBl : Bs ≠ l) (hDl : D ≠ l) (hDB : D ≠ Bs) (h0B : w0.heap.size ≤ Bs) (h0l : w0.heap.size ≤ l)
  (ss : List H32) (x : H32) (W : World) (h : y11 w0 fn sv Bs l D ss W) (hlen : ss.length < 1048576) :
  YieldAt Fence.wide m Try.prog l #[q0F x] W fun e W' => e = .returned (.bool true) ∧ y11 w0 fn sv Bs l D (ss ++ [x]) W' ∧ KeepsWalks W W' := by
 obtain ⟨v, hv, hrow, _⟩ := h.box
 refine ⟨fn, #[.slice none 0 0, sv, .pointer (some ⟨Bs, 0, none⟩), undef, .slice none 0 0, undef, sv, q0F x, undef, undef, undef, undef, undef], apA, apB, by simpa [q5f] using run_yield (P := Try.prog) (args := #[q0F x]) h.L rfl, roundIn_of_wpIn trivial ?_⟩
 simp only [apA, apB, Try.f39, rfA, rfB]
 have hne : (37 : Nat) ≠ 26 := by decide
 have hl : l < W.heap.size := Go.E.Q1 h.L
 obtain ⟨c', hc'⟩ : ∃ c', (Y5 x).toArray = c' := ⟨_, rfl⟩
 have hkv : q0F x = .agg c' := by unfold q0F; rw [hc']
 have hz : c'.size = 32 := by rw [← hc', List.size_toArray, q2G]
 have hone : c'.all (·.oneCell') = true := by
  rw [← hc', List.all_toArray]
  refine List.all_eq_true.2 fun v hv => ?_
  obtain ⟨b, _, rfl⟩ := List.mem_map.1 hv
  rfl
 obtain ⟨i0, hi, hz0, hz1, hz2⟩ := info_parts (show (Try.prog.info? 26).map (fun i => (i.zero, i.size, i.bytes)) = some (some (.agg (Array.replicate 32 (.int .u8 0))), 32, 32) by kernel_rfl)
 have hi1 : (Try.prog.info? 26).map (·.size) = some c'.size := by rw [hi, hz]; simp [hz1]
 have hst := run_storeAt_new (P := Try.prog) W 26 (Array.replicate 32 (.int .u8 0)) c' hi1 (by simp [hz]) hone
 have hu37 : Try.prog.underlying 37 = some (.slice 26) := by kernel_rfl
 obtain ⟨i37, hi37, _, hz37, _⟩ := info_parts (show (Try.prog.info? 37).map (fun i => (i.zero, i.size, i.bytes)) = some (some (.slice none 0 0), 1, 24) by kernel_rfl)
 have hal : (Instr.alloc 26 true (.tuple #[])).run Try.prog W = .ok (.pointer (some ⟨W.heap.size, 0, none⟩)) (W.alloc (.cells (Array.replicate 32 (.int .u8 0)) 26)) := by
  have hz' : (zeroValue 26).run Try.prog W = .ok (.agg (Array.replicate 32 (.int .u8 0))) W := by simp [zeroValue, typeInfo, hi, hz0]
  simp only [Instr.alloc, Sem.run_bind, hz', Result.andThen_ok]
  simp [newVar, newRow, Value.cells]
 obtain ⟨W1, hW1⟩ : ∃ W1, W.alloc (.cells c' 26) = W1 := ⟨_, rfl⟩
 rw [hW1] at hst
 have hs1 : W1.heap.size = W.heap.size + 1 := by rw [← hW1]; simp
 have hold1 : ∀ k, k < W.heap.size → W1.heap[k]? = W.heap[k]? := fun k hk => by rw [← hW1]; exact heap_alloc_old _ _ hk
 have hbox1 : W1.heap[W.heap.size]? = some (.cells c' 26 (0, 0)) := by rw [← hW1]; exact heap_alloc_new _ _
 have hL1 : W1.heap[l]? = some (.loop (q5f fn sv Bs D .ready none)) := (hold1 l hl).trans h.L
 have hbr := run_beginRound (P := Try.prog) hL1 rfl
 obtain ⟨W2, hW2⟩ : ∃ W2, W1.putObj l (.loop { q5f fn sv Bs D .ready none with state := .busy }) = W2 := ⟨_, rfl⟩
 rw [hW2] at hbr
 have hs2 : W2.heap.size = W.heap.size + 1 := by rw [← hW2]; simpa using hs1
 have hg2 : W.grownBy W2 (some l) := by
  rw [← hW2, ← hW1]
  exact ⟨rfl, rfl, rfl, by simp, fun k hk hne => (World.putObj_heap_other (fun e => hne (by rw [e]))).trans (heap_alloc_old _ _ hk)⟩
 have hk2 : KeepsWalks W W2 := by rw [← hW2, ← hW1]; exact (KeepsWalks.alloc _ _).trans (KeepsWalks.putObj _ ((heap_alloc_old _ _ hl).trans h.L) rfl)
 have hv2 : W2.heap[Bs]? = some (.cells #[v] 37 (0, 0)) := by rw [← hW2]; exact (World.putObj_heap_other hBl).trans ((hold1 _ (Go.E.Q1 hv)).trans hv)
 have hK2 : W2.heap[D]? = some (.deferred (some [])) := by rw [← hW2]; exact (World.putObj_heap_other hDl).trans ((hold1 _ (Go.E.Q1 h.K)).trans h.K)
 have hL2 : W2.heap[l]? = some (.loop { q5f fn sv Bs D .ready none with state := .busy }) := by rw [← hW2]; exact World.putObj_heap_same (by omega)
 have hbox2 : W2.heap[W.heap.size]? = some (.cells c' 26 (0, 0)) := by rw [← hW2]; exact (World.putObj_heap_other (by omega)).trans hbox1
 have hrow2 : W2.ownsRow w0.heap.size 26 32 v ss.length (ss.flatMap Y5) := hrow.kept hg2 (z0m hrow h.L (fun cur e => by cases e))
 have hb2 : Below w0.heap.size w0 W2 := h.below.grown hg2 h.below.size (fun k e => by cases e; exact h0l)
 obtain ⟨hc2, hf2⟩ := z1O hv2
 have hBlt : Bs < W2.heap.size := Go.E.Q1 hv2
 have hl2 : l < W2.heap.size := Go.E.Q1 hL2
 have hDlt : D < W2.heap.size := Go.E.Q1 hK2
 have ne_of : ∀ {j : Nat} {o : Obj}, W2.heap[j]? = some o → (∀ cur, o ≠ .cells cur 26 (0, 0)) → some j ≠ v.ownBlock := fun hj hno => by
  rcases z0m hrow2 hj hno with e | e
  ·rw [e]; simp
  ·exact fun e' => e e'.symm
 have hld : (Instr.loadAt 26 (.pointer (some ⟨W.heap.size, 0, none⟩))).run Try.prog W2 = .ok (.agg c') W2 := by
  simp only [Instr.loadAt, Instr.sureAddr, Sem.run_bind, Sem.run_pure, Result.andThen]
  exact run_loadVar_row _ _ 26 26 c' (0, 0) _ hbox2 (show Try.prog.underlying 26 = some (.array 32 5) by kernel_rfl) rfl hi1
 have hbd := y5Z W2 c' hz
 have hld0 : (Instr.loadAt 37 (.pointer (some ⟨Bs, 0, none⟩))).run Try.prog W2 = .ok v W2 := y4U _ _ _ _ hu37 (fun w => by simp [isAgg, underlying, hu37]) hc2
 rw [hkv]
 clear hW2 hW1 hi1 hkv hs1 hold1 hbox1 hL1
 refine wpIn_region_lit ?_
 refine y2s _ rfl 26 rfl _ _ hal ?_
 refine q95 _ rfl 26 _ _ rfl _ hst ?_
 refine wpListIn_nil ?_
 refine ⟨_, hbr, wpIn_block (wpIn_region_lit ?_)⟩
 refine z1z _ rfl 37 _ rfl _ _ hld0 ?_
 refine z1z _ rfl 26 _ rfl _ _ hld ?_
 refine y2r _ rfl 37 1 #[(0, Operand.tmp 9)] rfl (.slice (some ⟨W2.heap.size, 0, none⟩) 1 1) (W2.alloc (.cells c' 26)) ?hb ?_
 case hb => simpa [Act.eval, Act.put] using hbd
 refine wpListIn_append_own _ rfl _ _ 37 rfl w0.heap.size 26 i0 (.agg (Array.replicate 32 (.int .u8 0))) 32 32 (show Try.prog.underlying 37 = some (.slice 26) by kernel_rfl) hi hz0 hz1 hz2 (by simp [Value.cells]) (by decide) v ss.length (ss.flatMap Y5) rfl (hrow2.alloc _) ⟨W2.heap.size, 0, none⟩ 1 1 c'.toList rfl (by simpa using hz) (y4s _ _ _) (fun u hu => by rw [← Array.all_toList] at hone; exact List.all_eq_true.1 hone u hu) (by unfold maxLen; omega) (by omega) (by have := hb2.size; simp; omega) ?_
 intro v' w3 hown' hg3 hnil3
 have hv3 : w3.heap[Bs]? = some (.cells #[v] 37 (0, 0)) := (hg3.block Bs (by simp; omega) (ne_of hv2 (fun cur e => by cases e))).trans ((Below.heap_alloc _ _ Bs hBlt).trans hv2)
 obtain ⟨hc3, hf3⟩ := z1O hv3
 obtain ⟨g', cap', cur', rfl, hbase', hgb', hr1, hr2, hr3, hr4⟩ : ∃ g' cap' cur', v' = .slice (some ⟨g', 0, none⟩) (ss.length + 1) cap' ∧ w0.heap.size ≤ g' ∧ w3.heap[g']? = some (.cells cur' 26 (0, 0)) ∧ ss.length + 1 ≤ cap' ∧ cap' ≤ maxLen ∧ cur'.size = cap' * 32 ∧ cur'.toList.take ((ss.length + 1) * 32) = ss.flatMap Y5 ++ c'.toList := by
  rcases hown'.2 with ⟨_, h0⟩ | h'
  ·exact absurd h0 (by omega)
  ·exact h'
 have hst3 : (Instr.storeAt 37 (.pointer (some ⟨Bs, 0, none⟩)) (.slice (some ⟨g', 0, none⟩) (ss.length + 1) cap')).run Try.prog w3 = .ok () (w3.setCell ⟨Bs, 0, none⟩ (.slice (some ⟨g', 0, none⟩) (ss.length + 1) cap')) := y3v _ _ _ _ _ _ _ hi37 hz37 hc3 hf3
 refine q95 _ rfl 37 _ _ rfl _ hst3 ?_
 refine wpListIn_nil ?_
 have hg3' : (W2.alloc (.cells c' 26)).grownBy w3 v.ownBlock := hg3
 have hL3 : w3.heap[l]? = some (.loop { q5f fn sv Bs D .ready none with state := .busy }) := (hg3'.block l (by simp; omega) (ne_of hL2 (fun cur e => by cases e))).trans ((Below.heap_alloc _ _ l hl2).trans hL2)
 have hK3 : w3.heap[D]? = some (.deferred (some [])) := (hg3'.block D (by simp; omega) (ne_of hK2 (fun cur e => by cases e))).trans ((Below.heap_alloc _ _ D hDlt).trans hK2)
 obtain ⟨w4, hw4⟩ : ∃ w4, w3.setCell ⟨Bs, 0, none⟩ (.slice (some ⟨g', 0, none⟩) (ss.length + 1) cap') = w4 := ⟨_, rfl⟩
 rw [hw4]
 have hg4 : w3.grownBy w4 (some Bs) := by rw [← hw4]; exact y9h _ _ _
 have hv4 : w4.heap[Bs]? = some (.cells #[.slice (some ⟨g', 0, none⟩) (ss.length + 1) cap'] 37 (0, 0)) := by rw [← hw4]; exact z5z _ hv3
 have hL4 : w4.heap[l]? = some (.loop { q5f fn sv Bs D .ready none with state := .busy }) := (hg4.block l (Go.E.Q1 hL3) (fun e => hBl (by cases e; rfl))).trans hL3
 have hK4 : w4.heap[D]? = some (.deferred (some [])) := (hg4.block D (Go.E.Q1 hK3) (fun e => hDB (by cases e; rfl))).trans hK3
 have hrow4 := hown'.kept hg4 (z0m hown' hv3 (fun cur e => by cases e))
 have hl4 : l < w4.heap.size := Go.E.Q1 hL4
 have hb3 : Below w0.heap.size w0 w3 := (hb2.alloc hb2.size _).grown hg3' (by have := hb2.size; simp; omega) (fun k e => (hrow2.lt k e).1)
 have hb4 : Below w0.heap.size w0 w4 := hb3.grown hg4 hb3.size (fun k e => by cases e; exact h0B)
 have hk4 : KeepsWalks W w4 := ((hk2.trans (KeepsWalks.alloc _ _)).trans (KeepsWalks.of_grownBy hg3' (y0h (hrow2.alloc _)))).trans (by rw [← hw4]; exact KeepsWalks.setCell _ _ _)
 clear hw4
 refine ⟨_, _, run_endRound none hL4, rfl, ⟨⟨_, (World.putObj_heap_other hBl).trans hv4, ?_, by simp⟩, World.putObj_heap_same hl4, (World.putObj_heap_other hDl).trans hK4, hb4.grown (z3v _ _ _) hb4.size (fun k e => by cases e; exact h0l)⟩, hk4.trans (KeepsWalks.putObj _ hL4 rfl)⟩
 have := hrow4.kept (z3v w4 l (.loop { { q5f fn sv Bs D .ready none with state := .busy } with state := if (none : Option Code).isNone then .ready else .done, pending := none })) (z0m hrow4 hL4 (fun cur e => by cases e))
 rw [← hc'] at this
 simpa using this
end Go.Proofs.Yteaddgnjddjllaa
namespace Go.Proofs.Yteaddgnjddjllaa
open Go Go.E Go.RowKit
set_option maxRecDepth 100000
set_option maxHeartbeats 4000000
set_option linter.unusedSimpArgs false
theorem z6i {W W' : World} {row : Option Nat} {base : Nat} {e : TypeId} {size : Nat} {v : Value} {k : Nat} {xs : List Value} (h : W.ownsRow base e size v k xs) (hg : W.grownBy W' row)
  (hrow : ∀ r, row = some r → ∃ o : Obj, W.heap[r]? = some o ∧ o.isWalk = true) : W'.ownsRow base e size v k xs := by
 refine h.kept hg ?_
 rcases h.2 with ⟨rfl, _⟩ | ⟨g, cap, cur, rfl, _, hgb, _⟩
 ·exact .inl rfl
 ·refine .inr fun e' => ?_
  obtain ⟨o, ho, hw⟩ := hrow g (by simpa [Value.ownBlock] using e'.symm)
  rw [hgb] at ho; cases ho; cases hw
theorem y4x (w0 : World) (fn : FuncId) (sv : Value) (Bs l D B : Nat) (hB : w0.heap.size ≤ B) : AbidesFrom B (y11 w0 fn sv Bs l D) := fun s W W' row h hg hrow => by
 have hrow' : ∀ r, row = some r → ∃ o : Obj, W.heap[r]? = some o ∧ o.isWalk = true := fun r e => (hrow r e).2
 obtain ⟨v, hv, hr, hn⟩ := h.box
 exact ⟨⟨v, (grownBy_keeps hg hrow' hv rfl).trans hv, z6i hr hg hrow', hn⟩, (grownBy_keeps hg hrow' h.L rfl).trans h.L, (grownBy_keeps hg hrow' h.K rfl).trans h.K,
  h.below.grown hg h.below.size (fun k e => Nat.le_trans hB (hrow k e).1)⟩
theorem y4w (g : Nat) (lb : Array Value) (eg : ∀ args w, (callFunc g args).run Try.prog w = .ok (.enter g args) w)
  (S : List H32 → Prop) (N : Nat) (hN : N ≤ 1048576) (w : World)
  (hseq : SeqGives Fence.wide 2 Try.prog g lb q0F S N w) :
  CallsIn Fence.wide 3 Try.prog 39 #[.slice none 0 0, .func (.func g) #[] lb] w fun e w' => ∃ (v : Value) (ss : List H32), e = .returned v ∧ S ss ∧ w'.ownsRow w.heap.size 26 32 v ss.length (ss.flatMap Y5) ∧ (v = .slice none 0 0 ↔ ss = []) ∧ Below w.heap.size w w' := by
 refine callsIn_of_wp_marks Try.func39 rfl trivial ?_ rfl
 simp only [Try.ntmps39, List.size_toArray, List.length_cons, List.length_nil, Nat.reduceAdd, Nat.reduceSub, Array.replicate_succ, Array.replicate_zero, List.push_toArray, List.append_toArray, List.nil_append, List.cons_append]
 gi_wp2
 refine wpIn_rangeFunc ?_
 intro fn hfn
 obtain ⟨W0, hW0⟩ : ∃ W0, w.alloc (.cells #[.slice none 0 0] 37) = W0 := ⟨_, rfl⟩
 have hs0 : W0.heap.size = w.heap.size + 1 := by rw [← hW0]; simp
 have hv0 : W0.heap[w.heap.size]? = some (.cells #[.slice none 0 0] 37 (0, 0)) := by rw [← hW0]; exact heap_alloc_new w _
 have hb0 : Below w.heap.size w W0 := by rw [← hW0]; exact (Below.refl _ w).alloc (Nat.le_refl _) _
 rw [hW0]
 obtain ⟨W1, hW1⟩ : ∃ W1, (W0.alloc (.deferred (some []))).alloc (.loop (q5f fn (.func (.func g) #[] lb) w.heap.size W0.heap.size .ready none)) = W1 := ⟨_, rfl⟩
 have hold : ∀ k, k < W0.heap.size → W1.heap[k]? = W0.heap[k]? := fun k hk => by
  rw [← hW1]; exact (Below.heap_alloc _ _ k (by simp; omega)).trans (Below.heap_alloc _ _ k hk)
 have hb1 : Below w.heap.size w W1 := by rw [← hW1]; exact (hb0.alloc hb0.size _).alloc (by have := hb0.size; simp; omega) _
 have hs1 : W1.heap.size = W0.heap.size + 2 := by rw [← hW1]; simp
 have hM : y11 w fn (.func (.func g) #[] lb) w.heap.size (W0.heap.size + 1) W0.heap.size [] W1 :=
  ⟨⟨_, (hold w.heap.size (by omega)).trans hv0, ⟨rfl, .inl ⟨rfl, rfl⟩⟩, by simp⟩,
   by rw [← hW1]; have := heap_alloc_new (W0.alloc (.deferred (some []))) (.loop (q5f fn (.func (.func g) #[] lb) w.heap.size W0.heap.size .ready none)); rwa [World.size_alloc] at this,
   by rw [← hW1]; exact (Below.heap_alloc _ _ _ (by simp)).trans (heap_alloc_new W0 _), hb1⟩
 refine ⟨W0.heap.size + 1, [{ target := .collected W0.heap.size, args := #[] }], W1, { target := .fn (.func g) lb, args := #[.func (.yield (W0.heap.size + 1)) #[] #[]] }, W1, g,
  #[.func (.yield (W0.heap.size + 1)) #[] #[]] ++ lb, W1, ?_, ?_, ?_, ?_, fun h => by simp [Fence.wide] at h, ?_⟩
 ·rw [← hW1]; exact run_enterLoop_outer _ _ _ _ _
 ·simp [resolve, go_sem]
 ·intro f' hf'; trivial
 ·simp [invoke, go_sem, eg]
 ·refine (hseq (W0.heap.size + 1) (y11 w fn (.func (.func g) #[] lb) w.heap.size (W0.heap.size + 1) W0.heap.size) W1 hb1 (y4x _ _ _ _ _ _ _ hb1.size)
   (fun pre x W hJ hl => y7P _ w fn _ w.heap.size (W0.heap.size + 1) W0.heap.size (by omega) (by omega) (by omega) (Nat.le_refl _) (by omega) pre x W hJ (by omega)) hM).mono ?_
  rintro e W2 ⟨⟨v0, rfl⟩, ss, hS, h2⟩
  obtain ⟨v, hv, hrow, hnil⟩ := h2.box
  have hend := run_endLoop (P := Try.prog) h2.L (by simp [q5f])
  obtain ⟨W3, hW3⟩ : ∃ W3, W2.putObj (W0.heap.size + 1) (.loop { q5f fn (.func (.func g) #[] lb) w.heap.size W0.heap.size .ready none with state := .exhausted }) = W3 := ⟨_, rfl⟩
  rw [hW3] at hend
  have hg3 : W2.grownBy W3 (some (W0.heap.size + 1)) := by rw [← hW3]; exact z3v _ _ _
  have hv3 : W3.heap[w.heap.size]? = some (.cells #[v] 37 (0, 0)) := by rw [← hW3]; exact (World.putObj_heap_other (by omega)).trans hv
  have hK3 : W3.heap[W0.heap.size]? = some (.deferred (some [])) := by rw [← hW3]; exact (World.putObj_heap_other (by omega)).trans h2.K
  have hrow3 := hrow.kept hg3 (z0m hrow h2.L (fun cur e => by cases e))
  have hb3 : Below w.heap.size w W3 := h2.below.grown hg3 h2.below.size (fun k e => by cases e; omega)
  obtain ⟨hc3, hf3⟩ := z1O hv3
  clear hW3
  refine ⟨none, W3, hend, ?_⟩
  gi_wp2
  rw [← hs0]
  refine ⟨by simp, .inl ⟨_, _, rfl, run_takeDeferred hK3, ?_⟩⟩
  exact ⟨_, results_tmp rfl _ _ _, v, ss, rfl, hS, hrow3.kept (z3v _ _ _) (z0m hrow3 hK3 (fun cur e => by cases e)), hnil, hb3.grown (z3v _ _ _) hb3.size (fun k e => by cases e; omega)⟩
end Go.Proofs.Yteaddgnjddjllaa
set_option linter.all false
namespace Go.Proofs
open Go.Shelf
def Try.z2E : Go.Shelf.Ren := ⟨fun | 6 => 34 | 15 => 41 | 14 => 40 | 28 => 53 | 29 => 54 | 20 => 45 | 21 => 46 | 22 => 47 | 23 => 48 | 24 => 49 | 25 => 50 | 26 => 51 | 27 => 52 | 46 => 60 | 47 => 61 | 48 => 62 | 49 => 63 | 50 => 64 | 57 => 67 | n => n, fun | 22 => 37 | 24 => 26 | 25 => 85 | 3 => 3 | 39 => 104 | 0 => 0 | 53 => 93 | 55 => 23 | 4 => 4 | 46 => 112 | 45 => 111 | 50 => 116 | 5 => 5 | 9 => 9 | 66 => 128 | 70 => 132 | 76 => 136 | 77 => 137 | n => n, fun | n => n⟩
theorem Try.y74 : Go.Proofs.SlLaysF0.n6 Try.prog Try.z2E := {
 mixed := by kernel_rfl
 f6 := ⟨Try.f34.name, by decide, Try.func34.trans (congrArg some (by kernel_rfl))⟩
 f14 := ⟨Try.f40.name, by decide, Try.func40.trans (congrArg some (by kernel_rfl))⟩
 f15 := Try.func41.trans (congrArg some (by kernel_rfl))
 f20 := ⟨Try.f45.name, by decide, Try.func45.trans (congrArg some (by kernel_rfl))⟩
 f21 := ⟨Try.f46.name, by decide, Try.func46.trans (congrArg some (by kernel_rfl))⟩
 f22 := ⟨Try.f47.name, by decide, Try.func47.trans (congrArg some (by kernel_rfl))⟩
 f23 := ⟨Try.f48.name, by decide, Try.func48.trans (congrArg some (by kernel_rfl))⟩
 f24 := ⟨Try.f49.name, by decide, Try.func49.trans (congrArg some (by kernel_rfl))⟩
 f25 := ⟨Try.f50.name, by decide, Try.func50.trans (congrArg some (by kernel_rfl))⟩
 f26 := ⟨Try.f51.name, by decide, Try.func51.trans (congrArg some (by kernel_rfl))⟩
 f27 := ⟨Try.f52.name, by decide, Try.func52.trans (congrArg some (by kernel_rfl))⟩
 f28 := Try.func53.trans (congrArg some (by kernel_rfl))
 f29 := Try.func54.trans (congrArg some (by kernel_rfl))
 f46 := ⟨Try.f60.name, by decide, Try.func60.trans (congrArg some (by kernel_rfl))⟩
 f47 := Try.func61.trans (congrArg some (by kernel_rfl))
 f48 := Try.func62.trans (congrArg some (by kernel_rfl))
 f49 := ⟨Try.f63.name, by decide, Try.func63.trans (congrArg some (by kernel_rfl))⟩
 f50 := ⟨Try.f64.name, by decide, Try.func64.trans (congrArg some (by kernel_rfl))⟩
 f57 := ⟨Try.f67.name, by decide, Try.func67.trans (congrArg some (by kernel_rfl))⟩
 t0 := Try.underlying0
 a0 := Try.isAgg0
 z0 := Try.sizeOf0
 v0 := Try.zeroValue0
 t3 := Try.underlying3
 a3 := Try.isAgg3
 z3 := Try.sizeOf3
 v3 := Try.zeroValue3
 t4 := Try.underlying4
 a4 := Try.isAgg4
 z4 := Try.sizeOf4
 v4 := Try.zeroValue4
 t5 := Try.underlying5
 a5 := Try.isAgg5
 z5 := Try.sizeOf5
 v5 := Try.zeroValue5
 t9 := Try.underlying9
 a9 := Try.isAgg9
 z9 := Try.sizeOf9
 v9 := Try.zeroValue9
 t22 := Try.underlying37
 a22 := Try.isAgg37
 z22 := Try.sizeOf37
 v22 := Try.zeroValue37
 t25 := Try.underlying85
 a25 := Try.isAgg85
 z25 := Try.sizeOf85
 v25 := Try.zeroValue85
 t39 := Try.underlying104
 a39 := Try.isAgg104
 z39 := Try.sizeOf104
 v39 := Try.zeroValue104
 t45 := Try.underlying111
 a45 := Try.isAgg111
 z45 := Try.sizeOf111
 v45 := Try.zeroValue111
 t46 := Try.underlying112
 a46 := Try.isAgg112
 z46 := Try.sizeOf112
 v46 := Try.zeroValue112
 t50 := Try.underlying116
 a50 := Try.isAgg116
 z50 := Try.sizeOf116
 v50 := Try.zeroValue116
 t53 := Try.underlying93
 a53 := Try.isAgg93
 z53 := Try.sizeOf93
 v53 := Try.zeroValue93
 t55 := Try.underlying23
 a55 := Try.isAgg23
 z55 := Try.sizeOf23
 v55 := Try.zeroValue23
 t66 := Try.underlying128
 a66 := Try.isAgg128
 z66 := Try.sizeOf128
 v66 := Try.zeroValue128
 t70 := Try.underlying132
 a70 := Try.isAgg132
 z70 := Try.sizeOf132
 v70 := Try.zeroValue132
 t76 := Try.underlying136
 a76 := Try.isAgg136
 z76 := Try.sizeOf136
 v76 := Try.zeroValue136
 t77 := Try.underlying137
 a77 := Try.isAgg137
 z77 := Try.sizeOf137
 v77 := Try.zeroValue137 }
end Go.Proofs
namespace Go.Proofs.Yteaddgnjddjllaa
open Go Go.E
set_option maxRecDepth 10000
set_option linter.unusedSimpArgs false
variable {gl : Nat → Option (Ty × C)}
end Go.Proofs.Yteaddgnjddjllaa
namespace Go.Proofs.Yteaddgnjddjllaa
open Go Go.E
set_option maxRecDepth 10000
set_option linter.unusedSimpArgs false
variable {gl : Nat → Option (Ty × C)}
end Go.Proofs.Yteaddgnjddjllaa
namespace Go.Proofs.Yteaddgnjddjllaa
open Go Go.E
set_option maxRecDepth 100000
def q8m : List (Nat × Ty × C) → Nat → Option (Ty × C)
 | [], _ => none
 | (i, x) :: l, g => bif Nat.beq g i then some x else q8m l g
theorem z8C {gl : Nat → Option (Ty × C)} : ∀ {l : List (Nat × Ty × C)}, l.map (fun p => gl p.1) = l.map (fun p => some p.2) → ∀ g x, q8m l g = some x → gl g = some x
 | [], _, g, x, h => by cases h
 | (i, y) :: l, h0, g, x, h => by
  simp only [List.map_cons, List.cons.injEq] at h0
  simp only [q8m] at h
  cases hb : Nat.beq g i with
  | true =>
   rw [hb, cond_true] at h
   cases h
   rw [Nat.eq_of_beq_eq_true hb]; exact h0.1
  | false =>
   rw [hb, cond_false] at h
   exact z8C h0.2 g x h
def y7e : List (Nat × Ty × C) :=
 []
def gl0 : Nat → Option (Ty × C) := q8m y7e
theorem y9e (gl : Nat → Option (Ty × C)) (h : y7e.map (fun p => gl p.1) = y7e.map (fun p => some p.2)) : ∀ g x, gl0 g = some x → gl g = some x := z8C h
def y7k : List (Nat × (List V → Option V)) := []
def F0 : q26 := z4e y7k
theorem y9m (gl : Nat → Option (Ty × C)) : q7V (X0 gl) y7k := by
 unfold y7k
 repeat' refine q7V.append ?_ ⟨?_, trivial⟩
 ·exact trivial
theorem y9l (gl : Nat → Option (Ty × C)) : q48 (X0 gl) F0 := z6N (y9m gl)
def noX : FuncId → Nat → List (Nat × Nat) := fun _ _ => []
open Go Go.E Go.RowKit Go.Sort
set_option maxHeartbeats 4000000
set_option linter.unusedSimpArgs false
def cfH (x y : H32) : Int := Go.Lib.compareBytes x.1 y.1
theorem y2X (l : H32) (b : Nat) (T : TypeId) (w : World) (h : w.heap[b]? = some (.cells (Y5 l).toArray T (0, 0))) :
  (Extern.Bytes.bytesOf (.slice (some ⟨b, 0, none⟩) 32 32)).run Try.prog w = .ok ⟨l.1.toArray⟩ w := by
 have h1 := Go.Lib.run_loadBytesX (P := Try.prog) w (l.1.map fun b => (b.toNat : Int)) ⟨b, 0, none⟩ .empty (fun j x hj => by
  have e : (⟨b, 0, none⟩ : Addr).add j = ⟨b, j, none⟩ := by unfold Addr.add; split <;> simp_all
  rw [e, cell_of_row _ _ j _ T (0, 0) h]
  rw [List.getElem?_map] at hj
  cases hq : l.1[j]? with
  | none => rw [hq] at hj; cases hj
  | some u => rw [hq] at hj; cases hj; simp [Y5, hq])
 have h2 : (Go.Lib.bytesOf (l.1.map fun b => (b.toNat : Int))) = l.1 := by
  simp [Go.Lib.bytesOf, List.map_map, Function.comp_def]
 rw [h2] at h1
 simp only [List.length_map, l.2] at h1
 simp only [Extern.Bytes.bytesOf, h1]
 simp
theorem y5S (x y : H32) (b1 b2 : Nat) (T : TypeId) (w : World) (h1 : w.heap[b1]? = some (.cells (Y5 x).toArray T (0, 0))) (h2 : w.heap[b2]? = some (.cells (Y5 y).toArray T (0, 0))) :
  Calls Try.prog 26 #[.slice (some ⟨b1, 0, none⟩) 32 32, .slice (some ⟨b2, 0, none⟩) 32 32] w fun e w' => e = .returned (.int .i64 (cfH x y)) ∧ w' = w := by
 have e1 : (Extern.BytealgCompare.compare #[.slice (some ⟨b1, 0, none⟩) 32 32, .slice (some ⟨b2, 0, none⟩) 32 32]).run Try.prog w = .ok (.int .i64 (cfH x y)) w := by
  change Sem.run Try.prog (do pure (goInt (Extern.BytealgCompare.cmp (← Extern.Bytes.bytesOf (.slice (some ⟨b1, 0, none⟩) 32 32)) (← Extern.Bytes.bytesOf (.slice (some ⟨b2, 0, none⟩) 32 32))))) w = _
  simp only [Sem.run_bind, Sem.run_pure, y2X x b1 T w h1, y2X y b2 T w h2, Result.andThen]
  rw [Go.Lib.cmp_eq]
  rfl
 go_enter Try.func26, Try.ntmps26
 go_wp2
 rw [run_callFunc_extern Try.func36 (by kernel_rfl) (by kernel_rfl) (by kernel_rfl) (e := Extern.BytealgCompare.compare) (by kernel_rfl), e1]
 simp only [Result.andThen]
 rw [Oper.upon_value]
 go_wp2
 go_ret
 exact ⟨rfl, rfl⟩
theorem y7H (x y : H32) (w : World) : Calls Try.prog 25 #[q0F x, q0F y] w fun e w' => e = .returned (.int .i64 (cfH x y)) ∧ ∃ q os', w' = grow (w.drewN q) os' := by
 have hc := fun w b1 b2 h1 h2 => y5S x y b1 b2 26 w h1 h2
 obtain ⟨cx, hcx⟩ : ∃ c, (Y5 x).toArray = c := ⟨_, rfl⟩
 obtain ⟨cy, hcy⟩ : ∃ c, (Y5 y).toArray = c := ⟨_, rfl⟩
 have hx : q0F x = .agg cx := by unfold q0F; rw [hcx]
 have hy : q0F y = .agg cy := by unfold q0F; rw [hcy]
 rw [hcx, hcy] at hc
 rw [hx, hy]
 generalize cfH x y = r at hc ⊢
 clear hx hy hcx hcy
 have g1 : ((w.alloc (.cells cx 26)).alloc (.cells cy 26)).heap[w.heap.size]? = some (.cells cx 26 (0, 0)) := (heap_alloc_old _ _ (by simp)).trans (heap_alloc_new _ _)
 have g2 : ((w.alloc (.cells cx 26)).alloc (.cells cy 26)).heap[w.heap.size + 1]? = some (.cells cy 26 (0, 0)) := by
  have := heap_alloc_new (w.alloc (.cells cx 26)) (.cells cy 26); rwa [World.size_alloc] at this
 go_enter Try.func25, Try.ntmps25
 go_wp2
 go_region_with (go_at_call 26; refine (hc ((w.alloc (.cells cx 26)).alloc (.cells cy 26)).drew _ _ g1 g2).mono ?_; rintro e w' ⟨rfl, rfl⟩)
 all_goals go_wp2
 all_goals go_ret
 all_goals exact ⟨rfl, 1, #[.cells cx 26, .cells cy 26], by rw [alloc_eq_grow, alloc_eq_grow, grow_grow]; rfl⟩
theorem y3g : ∀ x y : List UInt8, x.length = y.length → (decide (Go.Lib.compareBytes x y < 0) = Op.bytesLess x y)
 | [], [], _ => by simp [Go.Lib.compareBytes, Op.bytesLess]
 | [], _ :: _, h => by simp at h
 | _ :: _, [], h => by simp at h
 | a :: x, b :: y, h => by
  have ih := y3g x y (by simpa using h)
  simp only [Go.Lib.compareBytes, Op.bytesLess]
  by_cases h1 : a < b
  ·simp [h1]
  ·by_cases h2 : b < a
   ·have : a ≠ b := fun e => by subst e; exact h1 h2
    simp [h1, h2, this]
   ·have e : a = b := UInt8.toNat_inj.1 (by rw [UInt8.lt_iff_toNat_lt] at h1 h2; omega)
    subst e
    simp [h1, ih]
theorem z7f : ∀ x : List UInt8, Op.bytesLess x x = false
 | [] => rfl
 | a :: x => by simp [Op.bytesLess, z7f x]
theorem z7e : ∀ x y z : List UInt8, Op.bytesLess x y = true → Op.bytesLess y z = true → Op.bytesLess x z = true
 | _, [], _, h, _ => by simp [Op.bytesLess] at h
 | _, _ :: _, [], _, h => by simp [Op.bytesLess] at h
 | [], _ :: _, _ :: _, _, _ => by simp [Op.bytesLess]
 | a :: x, b :: y, c :: z, h, h' => by
  have ih := z7e x y z
  simp only [Op.bytesLess, Bool.or_eq_true, decide_eq_true_eq, Bool.and_eq_true, beq_iff_eq, UInt8.lt_iff_toNat_lt, ← UInt8.toNat_inj] at h h' ⊢
  rcases h with h | ⟨h, h1⟩ <;> rcases h' with h' | ⟨h', h2⟩
  ·left; omega
  ·left; omega
  ·left; omega
  ·right; exact ⟨by omega, ih h1 h2⟩
theorem z9R : ∀ x y : List UInt8, Op.bytesLess x y = true ∨ x = y ∨ Op.bytesLess y x = true
 | [], [] => by simp
 | [], _ :: _ => by simp [Op.bytesLess]
 | _ :: _, [] => by simp [Op.bytesLess]
 | a :: x, b :: y => by
  have ih := z9R x y
  simp only [Op.bytesLess, Bool.or_eq_true, decide_eq_true_eq, Bool.and_eq_true, beq_iff_eq, UInt8.lt_iff_toNat_lt, List.cons.injEq]
  by_cases h1 : a.toNat < b.toNat
  ·exact .inl (.inl h1)
  by_cases h2 : b.toNat < a.toNat
  ·exact .inr (.inr (.inl h2))
  have e : a = b := UInt8.toNat_inj.1 (by omega)
  subst e
  rcases ih with h | h | h
  ·exact .inl (.inr ⟨rfl, h⟩)
  ·exact .inr (.inl ⟨rfl, h⟩)
  ·exact .inr (.inr (.inr ⟨rfl, h⟩))
theorem y6r {x y z : List UInt8} (h1 : Op.bytesLess x y = false) (h2 : Op.bytesLess y z = false) : Op.bytesLess x z = false := by
 rcases z9R x y with h | h | h
 ·rw [h] at h1; cases h1
 ·rw [h]; exact h2
 ·rcases z9R y z with g | g | g
  ·rw [g] at h2; cases h2
  ·rw [← g]; exact h1
  ·cases hxz : Op.bytesLess x z with
   | false => rfl
   | true =>
    have := z7e _ _ _ h hxz
    rw [this] at h2; cases h2
theorem z3j (x y : H32) : ltOf cfH x y = Op.bytesLess x.1 y.1 := y3g _ _ (by rw [x.2, y.2])
theorem x2B : SWO (ltOf cfH) where
 irrefl x := by rw [z3j, z7f]
 trans x y z h1 h2 := by rw [z3j] at *; exact z7e _ _ _ h1 h2
 ntrans x y z h1 h2 := by rw [z3j] at *; exact y6r h1 h2
theorem flat_get : ∀ (zs : List H32) (t : Nat), t < zs.length * 32 → (zs.flatMap Y5)[t]? = some ((Y5 (zs.toArray[t / 32]!))[t % 32]!)
 | [], t, h => by simp at h
 | x :: zs, t, h => by
  have hx : (Y5 x).length = 32 := q2G x
  simp only [List.length_cons] at h
  by_cases ht : t < 32
  ·have h0 : t / 32 = 0 := by omega
   have h1 : t % 32 = t := by omega
   rw [List.flatMap_cons, List.getElem?_append_left (by omega), h0, h1]
   have hz : (x :: zs).toArray[0]! = x := rfl
   rw [hz, List.getElem?_eq_getElem (by omega), List.getElem!_eq_getElem?_getD, List.getElem?_eq_getElem (by omega)]
   rfl
  ·rw [List.flatMap_cons, List.getElem?_append_right (by omega), hx, flat_get zs (t - 32) (by omega)]
   have h0 : t / 32 = (t - 32) / 32 + 1 := by omega
   have h1 : (t - 32) % 32 = t % 32 := by omega
   have h2 : (t - 32) / 32 < zs.length := by omega
   rw [h0, h1]
   congr 3
   rw [getElem!_pos _ _ (by simpa using h2), getElem!_pos _ _ (by simpa using h2)]
   simp
theorem y2t {w : World} {g : Nat} {cur : Array Value} {e : TypeId} {zs : List H32} (hb : w.heap[g]? = some (.cells cur e (0, 0))) (ht : cur.toList.take (zs.length * 32) = zs.flatMap Y5) : HoldsK Y5 32 w g 0 zs.toArray := by
 intro j hj
 have hj' : j < zs.length * 32 := by simpa using hj
 refine ⟨?_, by simp [World.frozen?, hb]⟩
 have h1 : (cur.toList.take (zs.length * 32))[j]? = (zs.flatMap Y5)[j]? := by rw [ht]
 rw [List.getElem?_take_of_lt hj', flat_get zs j hj'] at h1
 simp only [World.cell?, hb, Nat.zero_add, Option.isSome_none, Bool.false_eq_true, if_false]
 rw [← Array.getElem?_toList, h1, get_flatK _ _ _ _ (by simpa using hj')]
 rfl
theorem y0c {w : World} {g n cap base : Nat} {os : Array Obj} {cur : Array Value} {e : TypeId} {zs : List H32} {d : Array H32} (hd : d.size = zs.length) (hb : w.heap[g]? = some (.cells cur e (0, 0))) (hbase : base ≤ g) (h1 : zs.length ≤ cap) (h2 : cap ≤ maxLen) (h3 : cur.size = cap * 32) :
  (sortWorldK Y5 32 w g 0 n d os).ownsRow base e 32 (.slice (some ⟨g, 0, none⟩) d.toList.length cap) d.toList.length (d.toList.flatMap Y5) ∧ w.grownBy (sortWorldK Y5 32 w g 0 n d os) (some g) := by
 have hg : g < w.heap.size := (Array.getElem?_eq_some_iff.1 hb).1
 have hl : d.toList.length = zs.length := by simpa using hd
 have hle : zs.length * 32 ≤ cap * 32 := Nat.mul_le_mul_right _ h1
 refine ⟨⟨?_, .inr ⟨g, cap, putCells id 0 (flatK Y5 32 d) cur, by simp, hbase, ?_, by omega, h2, by simp [putCells, h3], ?_⟩⟩, rfl, rfl, rfl, by simp [sortWorldK, putRowK, putRow, mapBlock, Sort.ahead, grow], fun k hk hne => ?_⟩
 ·have : ∀ l : List H32, (l.flatMap Y5).length = l.length * 32 := by
   intro l
   induction l with
   | nil => rfl
   | cons x l ih => rw [List.flatMap_cons, List.length_append, ih]; simp [Y5]; omega
  exact this _
 ·unfold sortWorldK
  rw [heap_grow_old _ _ (by simpa [putRowK, putRow, mapBlock, Sort.ahead] using hg)]
  simp [putRowK, putRow, mapBlock, Sort.ahead, Array.getElem?_modify, hb, onCells]
 ·apply List.ext_getElem?
  intro j
  by_cases hj : j < d.toList.length * 32
  ·rw [List.getElem?_take_of_lt hj, Array.getElem?_toList, flat_get _ _ hj]
   have hc : j < cur.size := by omega
   have hf : j < d.size * 32 := by simpa using hj
   simp only [putCells, Array.getElem?_mapIdx, Array.getElem?_eq_getElem hc, Option.map_some, Nat.zero_le, Nat.zero_add, size_flatK, hf, and_self, if_true, Nat.sub_zero, get_flatK _ _ _ _ hf, id, Array.toArray_toList]
  ·rw [List.getElem?_take_eq_none (by omega), List.getElem?_eq_none]
   have : ∀ l : List H32, (l.flatMap Y5).length = l.length * 32 := by
    intro l
    induction l with
    | nil => rfl
    | cons x l ih => rw [List.flatMap_cons, List.length_append, ih]; simp [Y5]; omega
   rw [this]; omega
 ·unfold sortWorldK
  rw [heap_grow_old _ _ (by simpa [putRowK, putRow, mapBlock, Sort.ahead] using hk)]
  have : g ≠ k := fun e => hne (by rw [e])
  simp [putRowK, putRow, mapBlock, Sort.ahead, Array.getElem?_modify, this]
theorem y4M (base : Nat) (w : World) (v : Value) (zs : List H32) (hz : zs.length ≤ 1048576) (hrow : w.ownsRow base 26 32 v zs.length (zs.flatMap Y5)) :
  Calls Try.prog 34 #[v, .func (.func 25) #[] #[]] w fun e w' => e = .returned (.tuple #[]) ∧ ∃ ys : List H32, ys.Perm zs ∧ (∀ i j, i < j → j < ys.length → ltOf cfH ys[j]! ys[i]! = false) ∧
   w'.ownsRow base 26 32 v ys.length (ys.flatMap Y5) ∧ w.grownBy w' v.ownBlock := by
 rcases hrow.2 with ⟨rfl, hn⟩ | ⟨g, cap, cur, rfl, hbase, hb, h1, h2, h3, h4⟩
 ·have hz0 : zs = [] := List.eq_nil_of_length_eq_zero hn
  subst hz0
  have hS := AnyF.slices_SortFunc_none (P := Try.prog) (ρ := Try.z2E) Try.y74 none 0 (.func (.func 25) #[] #[]) w
  change Calls Try.prog 34 _ _ _ at hS
  refine hS.mono ?_
  rintro e w' ⟨rfl, rfl⟩
  exact ⟨rfl, [], .refl _, fun i j _ h => by simp at h, hrow, rfl, rfl, rfl, Nat.le_refl _, fun _ _ _ => rfl⟩
 ·have hS := AnyQ.slices_SortFunc (P := Try.prog) (ρ := Try.z2E) Try.y74 32 (fun w => by kernel_rfl) (fun w => by kernel_rfl) Y5 q2G (fun x u hu => by obtain ⟨b, _, rfl⟩ := List.mem_map.1 hu; rfl) cfH x2B 25 #[] g 0 cap zs.toArray w
   (enters_of Try.func25 (by kernel_rfl) rfl) (fun _ _ _ _ x y => y7H x y _) (y2t hb h4) (Array.getElem?_eq_some_iff.1 hb).1 (by simp; omega)
  change Calls Try.prog 34 _ _ _ at hS
  rw [List.size_toArray] at hS
  refine hS.mono ?_
  rintro e w' ⟨rfl, d, n, os, hp, hs, rfl⟩
  have hd : d.size = zs.length := by simpa using hp.1
  obtain ⟨k1, k2⟩ := y0c (n := n) (os := os) hd hb hbase h1 h2 h3
  have hl : d.toList.length = zs.length := by simpa using hd
  refine ⟨rfl, d.toList, ?_, fun i j hij hj => ?_, ?_, k2⟩
  ·have := hp.2.2
   rw [show d.extract 0 zs.length = d by rw [← hd, Array.extract_size], show zs.toArray.extract 0 zs.length = zs.toArray by simp] at this
   exact this
  ·have := hs i j (Nat.zero_le _) hij (by omega)
   have e : ∀ k, k < d.size → d.toList[k]! = d[k]! := fun k hk => by rw [getElem!_pos _ k (by simpa using hk), getElem!_pos _ k hk]; simp
   rw [e i (by omega), e j (by omega)]; exact this
  ·rw [hl] at k1 ⊢; exact k1
theorem x19 (mb : Option Nat) (w : World) : Calls Try.prog 24 #[.map mb] w fun e w' => e = .returned (.func (.func 35) #[] #[.pointer (some ⟨w.heap.size, 0, none⟩)]) ∧ w' = w.alloc (.cells #[.map mb] 71) := by
 go_enter Try.func24, Try.ntmps24
 go_wp2
 go_ret
 exact ⟨rfl, rfl⟩
theorem x07 (Bm bm : Nat) (ms : Array MapEntry) (clock : Nat) (xs : List H32) (w : World) (hm : w.cell? ⟨Bm, 0, none⟩ = some (.map (some bm))) (hBm : Bm < w.heap.size) (hb : w.heap[bm]? = some (.map ms clock)) (hborn : ∀ x ∈ ms.toList, x.born < clock) (hnd : (ms.toList.map (·.born)).Nodup)
  (hkey : ms.toList.map (·.key) = xs.map q0F) : SeqGives Fence.wide 2 Try.prog 35 #[.pointer (some ⟨Bm, 0, none⟩)] q0F (fun ss => ss.Perm xs) xs.length w := by
 intro l J W hW hJ hY h0
 exact y65 2 (by omega) l Bm bm ms clock xs J W hJ ((hW.cell (p := ⟨Bm, 0, none⟩) hBm).trans hm) ((hW.block bm (Go.E.Q1 hb)).trans hb) hborn hnd hkey hY h0
theorem y7F (g : Nat) (lb : Array Value) (eg : ∀ args w, (callFunc g args).run Try.prog w = .ok (.enter g args) w) (S : List H32 → Prop) (N : Nat) (hN : N ≤ 1048576) (w : World) (hseq : SeqGives Fence.wide 2 Try.prog g lb q0F S N w) :
  Calls Try.prog 33 #[.func (.func g) #[] lb] w fun e w' => ∃ (v : Value) (ss : List H32), e = .returned v ∧ S ss ∧ w'.ownsRow w.heap.size 26 32 v ss.length (ss.flatMap Y5) ∧ (v = .slice none 0 0 ↔ ss = []) ∧ Below w.heap.size w w' := by
 have hA := callsIn_wide.1 (y4w g lb eg S N hN w hseq)
 go_enter Try.func33, Try.ntmps33
 go_wp2_with (go_at_call 39; refine hA.mono ?_; rintro e w' ⟨v, ss, rfl, hS, hrow, hnil, hb⟩)
 go_ret
 exact ⟨v, ss, rfl, hS, hrow, hnil, hb⟩
theorem y8N (g : Nat) (lb : Array Value) (eg : ∀ args w, (callFunc g args).run Try.prog w = .ok (.enter g args) w) (S : List H32 → Prop) (N : Nat) (hN : N ≤ 1048576) (w : World) (hseq : SeqGives Fence.wide 2 Try.prog g lb q0F S N w) (hSN : ∀ ss, S ss → ss.length ≤ N) :
  Calls Try.prog 23 #[.func (.func g) #[] lb, .func (.func 25) #[] #[]] w fun e w' => ∃ (v : Value) (ss ys : List H32), e = .returned v ∧ S ss ∧ ys.Perm ss ∧ (∀ i j, i < j → j < ys.length → ltOf cfH ys[j]! ys[i]! = false) ∧ w'.ownsRow w.heap.size 26 32 v ys.length (ys.flatMap Y5) ∧ (v = .slice none 0 0 ↔ ss = []) ∧ Below w.heap.size w w' := by
 have hC := y7F g lb eg S N hN w hseq
 have hF := fun w' v zs hz hr => y4M w.heap.size w' v zs hz hr
 clear hseq
 go_enter Try.func23, Try.ntmps23
 go_wp2_with (go_at_call 33; refine hC.mono ?_; rintro e w' ⟨v, ss, rfl, hS, hrow, hnil, hb⟩)
 have hl := hSN ss hS
 have hF' := hF w' v ss (by omega) hrow
 go_wp2_with (go_at_call 34; refine hF'.mono ?_; rintro e w2 ⟨rfl, ys, y1, y2, y3, y4⟩)
 go_ret
 exact ⟨v, ss, ys, rfl, hS, y1, y2, y3, hnil, hb.grown y4 hb.size (fun k e => (hrow.lt k e).1)⟩
theorem y9c (Bn bm : Nat) (ms : Array MapEntry) (clock : Nat) (xs : List H32) (w : World) (hn : w.cell? ⟨Bn, 0, none⟩ = some (.map (some bm))) (hb : w.heap[bm]? = some (.map ms clock)) (hborn : ∀ x ∈ ms.toList, x.born < clock) (hnd : (ms.toList.map (·.born)).Nodup)
  (hkey : ms.toList.map (·.key) = xs.map q0F) (hlen : xs.length ≤ 1048576) :
  Calls Try.prog 12 #[.pointer (some ⟨Bn, 0, none⟩)] w fun e w' => ∃ (v : Value) (ys : List H32), e = .returned v ∧ ys.Perm xs ∧ (∀ i j, i < j → j < ys.length → ltOf cfH ys[j]! ys[i]! = false) ∧
   w'.ownsRow w.heap.size 26 32 v ys.length (ys.flatMap Y5) ∧ Below w.heap.size w w' := by
 have hK := x19 (some bm) w
 have hG := x07 w.heap.size bm ms clock xs (w.alloc (.cells #[.map (some bm)] 71)) (z1O (heap_alloc_new w _)).1 (by simp) ((heap_alloc_old _ _ (Go.E.Q1 hb)).trans hb) hborn hnd hkey
 have hS := y8N _ _ (enters_of Try.func35 (by kernel_rfl) rfl) _ _ hlen _ hG (fun ss h => by rw [h.length_eq]; exact Nat.le_refl _)
 clear hG
 go_enter Try.func12, Try.ntmps12
 go_wp2_with (first | (go_at_call 24; refine hK.mono ?_; rintro e w' ⟨rfl, rfl⟩) | (go_at_call 23; refine hS.mono ?_; rintro e w2 ⟨v, ss, ys, rfl, h1, h2, h3, h4, h5, h6⟩))
 go_ret
 refine ⟨_, ys, rfl, h2.trans h1, h3, ⟨h4.1, h4.2.imp id fun ⟨g, cap, cur, q1, q2, q3⟩ => ⟨g, cap, cur, q1, by simp at q2; omega, q3⟩⟩, ?_⟩
 exact ((Below.refl _ w).alloc (Nat.le_refl _) _).trans (h6.mono (by simp))
def q1m (c : C) : List UInt8 := c.elems.map fun b => UInt8.ofNat b.toInt.toNat
def c6 (x : H32) : C := .agg (x.1.map fun b => .int (b.toNat : Int))
def q22 (m : Es) : List C := (m.map (·.1)).mergeSort fun x y => !Op.bytesLess (q1m y) (q1m x)
theorem q4J (x : H32) : q1m (c6 x) = x.1 := by
 simp [q1m, c6, C.elems, List.map_map, Function.comp_def, C.toInt]
theorem y8W {H : Hp} {vs : List Value} {c : C} (h : y8 H (.arr 32 (.int .u8)) vs c) : ∃ x : H32, vs = Y5 x ∧ c = c6 x := by
 simp only [y8] at h
 obtain ⟨cs, rfl, h1, h2, _, h4⟩ := h
 have hb : ∀ (i : Nat) (hi : i < cs.length), ∃ b : UInt8, cs[i] = .int (b.toNat : Int) ∧ vs[i]? = some (.int .u8 (b.toNat : Int)) := by
  intro i hi
  obtain ⟨n, e1, e2, e3, e4⟩ := h4 i _ (List.getElem?_eq_getElem hi)
  have m1 : IntKind.u8.min = 0 := by decide
  have m2 : IntKind.u8.max = 255 := by decide
  rw [m1] at e3; rw [m2] at e4
  have hn : ((UInt8.ofNat n.toNat).toNat : Int) = n := by simp; omega
  refine ⟨UInt8.ofNat n.toNat, by rw [hn]; exact e1, ?_⟩
  rw [hn]
  simp only [chunk, Ty.size, Nat.mul_one] at e2
  have : ((vs.drop i).take 1)[0]? = some (.int .u8 n) := by rw [e2]; rfl
  simpa using this
 refine ⟨⟨cs.map fun c => UInt8.ofNat c.toInt.toNat, by simpa using h1⟩, ?_, ?_⟩
 ·apply List.ext_getElem?
  intro i
  simp only [Y5, List.map_map, List.getElem?_map]
  by_cases hi : i < cs.length
  ·obtain ⟨b, e1, e2⟩ := hb i hi
   rw [e2, List.getElem?_eq_getElem hi, e1]
   simp [C.toInt]
  ·rw [List.getElem?_eq_none (by simp [Ty.size] at h2; omega), List.getElem?_eq_none (by omega)]; rfl
 ·simp only [c6, List.map_map]
  congr 1
  apply List.ext_getElem?
  intro i
  rw [List.getElem?_map]
  by_cases hi : i < cs.length
  ·obtain ⟨b, e1, e2⟩ := hb i hi
   rw [List.getElem?_eq_getElem hi, e1]
   simp [C.toInt]
  ·rw [List.getElem?_eq_none (by omega)]; rfl
theorem y18 (H : Hp) (x : H32) : y8 H (.arr 32 (.int .u8)) (Y5 x) (c6 x) := by
 simp only [y8]
 refine ⟨_, rfl, by simp [x.2], by rw [q2G]; rfl, fun v hv => ?_, fun i c hc => ?_⟩
 ·obtain ⟨b, _, rfl⟩ := List.mem_map.1 hv; rfl
 ·rw [List.getElem?_map] at hc
  cases hq : x.1[i]? with
  | none => rw [hq] at hc; cases hc
  | some b =>
   rw [hq] at hc; cases hc
   have hb := b.toNat_lt
   have m1 : IntKind.u8.min = 0 := by decide
   have m2 : IntKind.u8.max = 255 := by decide
   refine ⟨b.toNat, rfl, ?_, by omega, by omega⟩
   simp only [chunk, Ty.size, Nat.mul_one, Y5]
   apply List.ext_getElem?
   intro j
   match j with
   | 0 => simp [hq]
   | j + 1 => simp; omega
theorem z7b : ∀ (ys : List H32) (i : Nat) (x : H32), ys[i]? = some x → chunk (ys.flatMap Y5) (i * 32) 32 = Y5 x
 | [], i, x, h => by simp at h
 | y :: ys, 0, x, h => by
  simp at h; subst h
  simp only [chunk, Nat.zero_mul, List.drop_zero, List.flatMap_cons]
  rw [List.take_append_of_le_length (by rw [q2G]; exact Nat.le_refl _), List.take_of_length_le (by rw [q2G]; exact Nat.le_refl _)]
 | y :: ys, i + 1, x, h => by
  have ih := z7b ys i x (by simpa using h)
  unfold chunk at ih ⊢
  rw [List.flatMap_cons, List.drop_append, q2G, List.drop_of_length_le (by rw [q2G]; omega), List.nil_append, show (i + 1) * 32 - 32 = i * 32 by omega]
  exact ih
theorem y07 : ∀ ys : List H32, (ys.flatMap Y5).length = ys.length * 32
 | [] => rfl
 | y :: ys => by rw [List.flatMap_cons, List.length_append, y07 ys, q2G]; simp; omega
theorem z4C {l : List C} {xs ys : List H32} (hl : l = xs.map c6) (hp : ys.Perm xs) (hs : ∀ i j, i < j → j < ys.length → ltOf cfH ys[j]! ys[i]! = false) : ys.map c6 = l.mergeSort fun x y => !Op.bytesLess (q1m y) (q1m x) := by
 subst hl
 have hperm := hp.map c6
 refine List.Perm.eq_of_pairwise (le := fun x y => (!Op.bytesLess (q1m y) (q1m x)) = true) (fun a b ha hb h1 h2 => ?_) ?_ (List.pairwise_mergeSort ?_ ?_ _) (hperm.trans (List.mergeSort_perm _ _).symm)
 ·obtain ⟨x, _, rfl⟩ := List.mem_map.1 ha
  obtain ⟨y, _, rfl⟩ := List.mem_map.1 ((List.mergeSort_perm _ _).mem_iff.1 hb)
  simp only [Bool.not_eq_true', q4J] at h1 h2
  rcases z9R x.1 y.1 with h | h | h
  ·rw [h] at h2; cases h2
  ·rw [Subtype.ext h]
  ·rw [h] at h1; cases h1
 ·rw [List.pairwise_map]
  refine List.pairwise_iff_getElem.2 fun i j hi hj hij => ?_
  have := hs i j hij hj
  rw [z3j, getElem!_pos ys j hj, getElem!_pos ys i hi] at this
  simpa [q4J] using this
 ·intro a b c h1 h2
  simp only [Bool.not_eq_true'] at h1 h2 ⊢
  exact y6r h2 h1
 ·intro a b
  simp only [Bool.or_eq_true, Bool.not_eq_true']
  cases h : Op.bytesLess (q1m b) (q1m a) with
  | false => exact .inl rfl
  | true =>
   right
   cases h' : Op.bytesLess (q1m a) (q1m b) with
   | false => rfl
   | true => have := z7e _ _ _ h h'; rw [z7f] at this; cases this
def hOf (c : C) : H32 := if h : (q1m c).length = 32 then ⟨q1m c, h⟩ else default
theorem y1d (x : H32) : hOf (c6 x) = x := by
 unfold hOf
 rw [dif_pos (by rw [q4J, x.2])]
 exact Subtype.ext (q4J x)
theorem z6E (A : Key → Option O) (k km : Key) (es : List (C × V)) (hA : A k = some (.box (.agg Q0 [.mp (.g km)]))) (hA2 : A km = some (.map (.arr 32 (.int .u8)) z7 es)) (hlen : es.length ≤ 1048576) :
  Y6 (X0 gl0) 12 [.ptr (.g k) [] Q0] A (.d (.slice 32 (.arr 32 (.int .u8))) (.slice ((es.map (·.1)).mergeSort fun x y => !Op.bytesLess (q1m y) (q1m x)))) [] := by
 intro A' Γ w args hA' hg hc hn hr
 obtain ⟨c, hok⟩ := hc
 have hs : args.size = 1 := hn.symm
 have h0 : z8 Γ (.ptr (.g k) [] Q0) args[0] := hr 0 _ _ rfl (Array.getElem?_eq_getElem (by omega))
 obtain ⟨b, τ0, o, hι, hw, hv⟩ := q0I h0
 cases hw
 have ho : args = #[.pointer (some ⟨b, 0, none⟩)] := by
  apply Array.ext
  ·simp [hs]
  ·intro i h1 h2
   have : i = 0 := by omega
   subst this
   simpa using hv
 obtain ⟨b1, cells, T, e1, _, _, e4, e5, e6, _, _⟩ := c.own hι (show (S.start [.ptr (.g k) [] Q0] A').obj (.g k) = some _ from hA' _ _ hA)
 rw [hι] at e1; cases e1
 simp only [z6, x9] at e6
 obtain ⟨q1, q2, q3, q4, ⟨o1, f1, q5, q6, q7, bm, q8, q9⟩, _⟩ := e6
 cases q5
 obtain ⟨b2, ms, clock, g1, _, _, g4, g5, g6, g7, g8⟩ := c.own q8 (show (S.start [.ptr (.g k) [] Q0] A').obj (.g km) = some _ from hA' _ _ hA2)
 rw [q8] at g1; cases g1
 have hcell : w.cell? ⟨b, 0, none⟩ = some (.map (some bm)) := by
  simp only [World.cell?, e4]
  have hsz : 1 ≤ cells.size := e5
  have : chunk (chunk cells.toList 0 1) 0 1 = [.map (some bm)] := q9
  simp only [chunk, List.drop_zero, List.take_take, Nat.min_self] at this
  have h0 : (cells.toList.take 1)[0]? = some (.map (some bm)) := by rw [this]; rfl
  simpa using h0
 have hx : ∀ (i : Nat) (hi : i < ms.size) (hi' : i < es.length), ∃ x : H32, ms[i].key = q0F x ∧ es[i].1 = c6 x := by
  intro i hi hi'
  obtain ⟨a1, a2, _⟩ := g6 i ms[i] es[i] (Array.getElem?_eq_getElem hi) (List.getElem?_eq_getElem hi')
  obtain ⟨x, r1, r2⟩ := y8W a1
  refine ⟨x, ?_, r2⟩
  cases hv : ms[i].key with
  | agg vs => rw [hv] at r1; simp only [Value.cells] at r1; rw [q0F, ← r1]
  | _ => rw [hv] at a2; cases a2
 have hml : ms.toList.map (·.key) = (es.map fun e => hOf e.1).map q0F := by
  apply List.ext_getElem
  ·simp [g5]
  ·intro i h1 h2
   obtain ⟨x, r1, r2⟩ := hx i (by simpa using h1) (by simpa using h2)
   simp only [List.getElem_map, Array.getElem_toList]
   rw [r1, r2, y1d]
 have hel : es.map (·.1) = (es.map fun e => hOf e.1).map c6 := by
  rw [List.map_map]
  refine List.map_congr_left fun e he => ?_
  obtain ⟨i, hi, rfl⟩ := List.mem_iff_getElem.1 he
  obtain ⟨x, r1, r2⟩ := hx i (by omega) hi
  show es[i].1 = c6 (hOf es[i].1)
  rw [r2, y1d]
 have hborn : ∀ x ∈ ms.toList, x.born < clock := by
  intro x hx
  obtain ⟨i, hi, rfl⟩ := List.mem_iff_getElem.1 hx
  exact g7 i _ (by simp at hi; simp [hi])
 have hnd : (ms.toList.map (·.born)).Nodup := by
  rw [List.nodup_iff_pairwise_ne, List.pairwise_map]
  refine List.pairwise_iff_getElem.2 fun i j hi hj hij h => ?_
  have := g8 i j ms[i] ms[j] (Array.getElem?_eq_getElem _) (Array.getElem?_eq_getElem _) (by simpa using h)
  omega
 rw [ho]
 refine (y9c b bm ms clock _ w hcell g4 hborn hnd hml (by simpa using hlen)).mono ?_
 rintro e w' ⟨v, ys, rfl, h1, h2, h3, h4⟩
 have hsrt := z4C hel h1 h2
 have hys : ys.length ≤ 1048576 := by rw [h1.length_eq]; simpa using hlen
 have hext : Ext w w' := ⟨h4.size, h4.block, by unfold oof; rw [h4.os, h4.output]⟩
 rcases h3.2 with ⟨hv, hn0⟩ | ⟨g, cap, cur, hv, hbase, hg', u1, u2, u3, u4⟩
 ·have hy0 : ys = [] := List.eq_nil_of_length_eq_zero hn0
  subst hy0
  refine ⟨_, Γ, rfl, .refl Γ, (c.ext hext).congr (fun _ => rfl) (fun _ => rfl) (fun _ h => h), ?_⟩
  rw [hv, ← hsrt]
  refine X2.2 ⟨?_, rfl⟩
  simp only [Value.cells, y8]
  exact ⟨none, 0, 0, [], rfl, rfl, rfl, Nat.le_refl _, by decide, by decide, .inl rfl⟩
 ·have hgl : g < w'.heap.size := Go.E.Q1 hg'
  let w1 : World := { w' with heap := w'.heap.extract 0 g }
  have hs1 : w1.heap.size = g := by simp [w1]; omega
  have x1 : Ext w w1 := ⟨by omega, fun b hb => by
   rw [← hext.old b hb]
   simp [w1, Array.getElem?_extract]
   omega, hext.oo⟩
  have x2 : Ext w1 w' := ⟨by omega, fun b hb => by
   have : b < g := by omega
   simp [w1, Array.getElem?_extract]
   omega, rfl⟩
  obtain ⟨k1, k2, k3⟩ := (c.ext x1).q1U x2 (l := ys.flatMap Y5) (r := cur.toList.drop (ys.length * 32)) (by rw [hs1]; exact hg') (by rw [← u4, List.take_append_drop])
  refine ⟨_, _, rfl, k3, k1.congr (fun _ => rfl) (fun _ => rfl) (fun _ h => h), ?_⟩
  rw [hv, ← hsrt]
  refine X2.2 ⟨?_, rfl⟩
  simp only [Value.cells, y8]
  refine ⟨_, ys.length, cap, ys.map c6, rfl, rfl, by simp, u1, u2, by omega, .inr ⟨g, 0, ys.flatMap Y5, rfl, ?_, ?_, fun i c hi => ?_⟩⟩
  ·rw [← hs1]; exact b6 _ _ _
  ·rw [y07]
   show 0 + ys.length * 32 ≤ _
   omega
  ·rw [List.getElem?_map] at hi
   cases hy : ys[i]? with
   | none => rw [hy] at hi; cases hi
   | some x =>
    rw [hy] at hi
    cases hi
    have := y18 (Γ.q1U w1.heap.size (ys.flatMap Y5)).H x
    rw [← z7b ys i x hy] at this
    simp only [y8] at this
    have e32 : (Ty.arr 32 (.int .u8)).size = 32 := rfl
    rw [e32, Nat.zero_add]
    exact this
def okH (m : Es) : Bool := Nat.ble m.length 1048576
def q4M : List Sh := [.as (.ptr (.g (.l 1)) [] Q0)]
def q4L : List (Key × OSh) := [(.l 1, .box (.agg Q0 [.as (.mp (.g (.l 2)))])), (.l 2, .map (.arr 32 (.int .u8)) z7)]
noncomputable def q2D (_ : Nat) {R : Type} : OvG R := q4Q q4M q4L fun _ ms K => bif okH (dm ms 0) then K (.d (.slice 32 (.arr 32 (.int .u8))) (.slice (q22 (dm ms 0)))) [] else none
theorem q9o (N : Nat) {R : Type} : GOk (X0 gl0) 12 (q2D N (R := R)) := by
 unfold q2D
 refine q1r fun ds ms K r hr => ?_
 cases hok : okH (dm ms 0) with
 | false => rw [hok] at hr; cases hr
 | true =>
  rw [hok, cond_true] at hr
  refine ⟨_, _, ?_, hr⟩
  have := z6E (y7 (u5 q4L (Sh.q0n q4M) 0 ds ms)) (.l 1) (.l 2) (dE z7 (dm ms 0)) rfl rfl (by simpa [dE] using Nat.le_of_ble_eq_true hok)
  have e : (dE z7 (dm ms 0)).map (·.1) = (dm ms 0).map (·.1) := by simp [dE, List.map_map, Function.comp_def]
  rw [e] at this
  exact this
set_option linter.unusedVariables false
noncomputable def y2f : Hints := [([9], ⟨[], [(0, .as (.ptr (.l 1) [] Z5))], [], [(.l 1, .box (.d Z5))], [], []⟩)]
noncomputable def z4N (N : Nat) : OvS (X0 gl0) where
 g R := []
 ok := fun R => fun _ h => nomatch h
noncomputable def q42 {R : Type} (N : Nat) (k1 : KD R) : Option R := (k1 [C.set (C.agg [C.agg (List.replicate 8 (C.int 0)), C.agg (List.replicate 64 (C.int 0)), C.int 0]) 0 (C.set (C.set (C.set (C.set (C.set (C.set (C.set (C.set (u7 (Ty.arr 8 (Ty.int IntKind.u32))) 0 (C.int 1779033703)) 1 (C.int 3144134277)) 2 (C.int 1013904242)) 3 (C.int 2773480762)) 4 (C.int 1359893119)) 5 (C.int 2600822924)) 6 (C.int 528734635)) 7 (C.int 1541459225))] [])
noncomputable def q3h {R : Type} (N : Nat) : KD R → Option R := lid "" (q42 N)
theorem q93 {R : Type} (N : Nat)  (k : KD R) : q3h N  k = q42 N  k := by unfold q3h; rw [Z9]
theorem y0U {R : Type} (N : Nat)  (K : V → List (Key × O) → Option R) : exF (X0 gl0) ((z4N N).ov R) F0 noX (fun f => bif Nat.beq f 29 then y2f else []) N 400 8 29 [] A0 K =
  q3h N  (fun d1 m1 => K (V.ptr (Key.l 1) [] Z5) [(Key.l 1, O.box (V.d Z5 (dk d1 0)))]) := by
 rw [q93]
 exact (show _ = jn (fun d1 m1 => (K (V.ptr (Key.l 1) [] Z5) [(Key.l 1, O.box (V.d Z5 (dk d1 0)))])) (q42 N ) by kernel_rfl).trans (u9 _ _)
noncomputable def z1m (N : Nat) {R : Type} : OvG R := fun xs _ K => match xs with
 | [] => q3h N  (fun d1 m1 => K (V.ptr (Key.l 1) [] Z5) [(Key.l 1, O.box (V.d Z5 (dk d1 0)))])
 | _ => none
theorem okB {R : Type} (o : OvS (X0 gl0)) {tb hs N n d f xs} {A : Key → Option O} {K : V → List (Key × O) → Option R} {r} (h : exF (X0 gl0) (o.ov R) F0 tb hs N n d f xs A K = some r) : ∃ v L, Y6 (X0 gl0) f xs A v L ∧ K v L = some r := y5D (ok0 gl0) (mo gl0) (o.x12 _) (y9l gl0) _ _ _ _ _ _ h
theorem okA {R : Type} (o : OvS (X0 gl0)) {tb hs N n d f xs} {A : Key → Option O} {K : V → List (Key × O) → Option R} {r} (h : exF (X0 gl0) (o.ov R) F0 tb hs N n d f xs A0 K = some r) : ∃ v L, Y6 (X0 gl0) f xs A v L ∧ K v L = some r := let ⟨v, L, h1, h2⟩ := okB o h
 ⟨v, L, h1.mono (y62 fun _ => rfl), h2⟩
theorem y2e (N : Nat) {R : Type} : GOk (X0 gl0) 29 (z1m N (R := R)) := by
 intro xs A Kr r hr
 unfold z1m at hr
 split at hr
 ·skip
  rw [← y0U] at hr
  exact okA (z4N N) hr
 ·cases hr
noncomputable def y0S : Hints := [([1, 0, 1, 1], ⟨[], [(3, .d (.int .u32))], [], [], [], []⟩),
  ([4, 1, 0, 1, 1], ⟨[7, 8], [(3, .d (.int .u32)), (9, .d (.int .i64))], [], [], [], []⟩),
  ([9], ⟨[], [(2, .d (.int .u32))], [], [], [], []⟩)]
noncomputable def z3a (N : Nat) : OvS (X0 gl0) where
 g R := []
 ok := fun R => fun _ h => nomatch h
noncomputable def q15 {R : Type} (N : Nat) (k2 : KD R) : KD R → List C → List Es → Option R := (fun k3 d1 m1 => (bif decide (C.toInt (dk d1 3) < C.toInt (dk d1 1)) then (if 0 ≤ C.toInt (dk d1 3) ∧ C.toInt (dk d1 3) < (↑(List.length (C.elems (dk d1 0))) : Int) then (k3 [dk d1 0, dk d1 1, C.int (o5 BinOp.or IntKind.u32 (IntKind.wrap IntKind.u32 (C.toInt (dk d1 2) * 2 ^ min (Int.toNat 8) 32)) (IntKind.wrap IntKind.u32 (C.toInt (List.getD (C.elems (dk d1 0)) (Int.toNat (C.toInt (dk d1 3))) C.nil)))), C.int (IntKind.wrap IntKind.i64 (C.toInt (dk d1 3) + 1))] []) else none) else (k2 [dk d1 2] [])))
noncomputable def q4f {R : Type} (N : Nat) (a0 : C) (k1 : KD R) : Option R := (if Int.ofNat 0 ≤ 0 ∧ Int.ofNat 0 ≤ 4 ∧ 4 ≤ (↑(List.length (C.elems a0)) : Int) then (jn (fun d1 m1 => (k1 [dk d1 0] [])) (fun k2 => (k9 N (q15 N k2) [C.slice (cut (C.elems a0) 0 4), C.int (↑(List.length (cut (C.elems a0) 0 4)) : Int), C.int 0, C.int 0] []))) else none)
noncomputable def q1X {R : Type} (N : Nat) : C → KD R → Option R := lid "" (q4f N)
theorem q8R {R : Type} (N : Nat) (a0 : C) (k : KD R) : q1X N a0 k = q4f N a0 k := by unfold q1X; rw [Z9]
theorem z9o {R : Type} (N : Nat) (a0 : C) (K : V → List (Key × O) → Option R) : exF (X0 gl0) ((z3a N).ov R) F0 noX (fun f => bif Nat.beq f 57 then y0S else []) N 400 8 57 [.d (.slice 1 (.int .u8)) a0] A0 K =
  q1X N a0 (fun d1 m1 => K (V.d (Ty.int IntKind.u32) (dk d1 0)) []) := by
 rw [q8R]
 exact (show _ = jn (fun d1 m1 => (K (V.d (Ty.int IntKind.u32) (dk d1 0)) [])) (q4f N a0) by kernel_rfl).trans (u9 _ _)
noncomputable def q92 (N : Nat) {R : Type} : OvG R := fun xs _ K => match xs with
 | [.d t0 a0] => if t0 = (.slice 1 (.int .u8)) then q1X N a0 (fun d1 m1 => K (V.d (Ty.int IntKind.u32) (dk d1 0)) []) else none
 | _ => none
theorem y0R (N : Nat) {R : Type} : GOk (X0 gl0) 57 (q92 N (R := R)) := by
 intro xs A Kr r hr
 unfold q92 at hr
 split at hr
 ·simp only [Option.ite_none_right_eq_some] at hr
  obtain ⟨hty, hr⟩ := hr
  subst hty
  rw [← z9o] at hr
  exact okA (z3a N) hr
 ·cases hr
noncomputable def z9s : Hints := [([9], ⟨[], [(0, .as (.ptr (.l 0) [] (.arr 64 (.int .u32))))], [], [(.l 0, .box (.d (.arr 64 (.int .u32))))], [], []⟩)]
noncomputable def z18 (N : Nat) : OvS (X0 gl0) where
 g R := []
 ok := fun R => fun _ h => nomatch h
noncomputable def q3v {R : Type} (N : Nat) (k1 : KD R) : Option R := (k1 [C.set (C.set (C.set (C.set (C.set (C.set (C.set (C.set (C.set (C.set (C.set (C.set (C.set (C.set (C.set (C.set (C.set (C.set (C.set (C.set (C.set (C.set (C.set (C.set (C.set (C.set (C.set (C.set (C.set (C.set (C.set (C.set (C.set (C.set (C.set (C.set (C.set (C.set (C.set (C.set (C.set (C.set (C.set (C.set (C.set (C.set (C.set (C.set (C.set (C.set (C.set (C.set (C.set (C.set (C.set (C.set (C.set (C.set (C.set (C.set (C.set (C.set (C.set (C.set (u7 (Ty.arr 64 (Ty.int IntKind.u32))) 0 (C.int 1116352408)) 1 (C.int 1899447441)) 2 (C.int 3049323471)) 3 (C.int 3921009573)) 4 (C.int 961987163)) 5 (C.int 1508970993)) 6 (C.int 2453635748)) 7 (C.int 2870763221)) 8 (C.int 3624381080)) 9 (C.int 310598401)) 10 (C.int 607225278)) 11 (C.int 1426881987)) 12 (C.int 1925078388)) 13 (C.int 2162078206)) 14 (C.int 2614888103)) 15 (C.int 3248222580)) 16 (C.int 3835390401)) 17 (C.int 4022224774)) 18 (C.int 264347078)) 19 (C.int 604807628)) 20 (C.int 770255983)) 21 (C.int 1249150122)) 22 (C.int 1555081692)) 23 (C.int 1996064986)) 24 (C.int 2554220882)) 25 (C.int 2821834349)) 26 (C.int 2952996808)) 27 (C.int 3210313671)) 28 (C.int 3336571891)) 29 (C.int 3584528711)) 30 (C.int 113926993)) 31 (C.int 338241895)) 32 (C.int 666307205)) 33 (C.int 773529912)) 34 (C.int 1294757372)) 35 (C.int 1396182291)) 36 (C.int 1695183700)) 37 (C.int 1986661051)) 38 (C.int 2177026350)) 39 (C.int 2456956037)) 40 (C.int 2730485921)) 41 (C.int 2820302411)) 42 (C.int 3259730800)) 43 (C.int 3345764771)) 44 (C.int 3516065817)) 45 (C.int 3600352804)) 46 (C.int 4094571909)) 47 (C.int 275423344)) 48 (C.int 430227734)) 49 (C.int 506948616)) 50 (C.int 659060556)) 51 (C.int 883997877)) 52 (C.int 958139571)) 53 (C.int 1322822218)) 54 (C.int 1537002063)) 55 (C.int 1747873779)) 56 (C.int 1955562222)) 57 (C.int 2024104815)) 58 (C.int 2227730452)) 59 (C.int 2361852424)) 60 (C.int 2428436474)) 61 (C.int 2756734187)) 62 (C.int 3204031479)) 63 (C.int 3329325298)] [])
noncomputable def q16 {R : Type} (N : Nat) : KD R → Option R := lid "" (q3v N)
theorem q7Z {R : Type} (N : Nat)  (k : KD R) : q16 N  k = q3v N  k := by unfold q16; rw [Z9]
theorem z7K {R : Type} (N : Nat)  (K : V → List (Key × O) → Option R) : exF (X0 gl0) ((z18 N).ov R) F0 noX (fun f => bif Nat.beq f 58 then z9s else []) N 400 8 58 [] A0 K =
  q16 N  (fun d1 m1 => K (V.d (Ty.arr 64 (Ty.int IntKind.u32)) (dk d1 0)) []) := by
 rw [q7Z]
 exact (show _ = jn (fun d1 m1 => (K (V.d (Ty.arr 64 (Ty.int IntKind.u32)) (dk d1 0)) [])) (q3v N ) by kernel_rfl).trans (u9 _ _)
noncomputable def q8T (N : Nat) {R : Type} : OvG R := fun xs _ K => match xs with
 | [] => q16 N  (fun d1 m1 => K (V.d (Ty.arr 64 (Ty.int IntKind.u32)) (dk d1 0)) [])
 | _ => none
theorem z9r (N : Nat) {R : Type} : GOk (X0 gl0) 58 (q8T N (R := R)) := by
 intro xs A Kr r hr
 unfold q8T at hr
 split at hr
 ·skip
  rw [← z7K] at hr
  exact okA (z18 N) hr
 ·cases hr
noncomputable def q8l : Hints := [([9], ⟨[], [(4, .d (.int .u32))], [], [], [], []⟩)]
noncomputable def q3Z (N : Nat) : OvS (X0 gl0) where
 g R := []
 ok := fun R => fun _ h => nomatch h
noncomputable def H8 {R : Type} (N : Nat) (a0 a1 : C) (k1 : KD R) : Option R := (if 0 ≤ IntKind.wrap IntKind.u64 (32 - o5 BinOp.and IntKind.u64 (IntKind.wrap IntKind.u64 (C.toInt a1)) 31) then (k1 [C.int (o5 BinOp.or IntKind.u32 (IntKind.wrap IntKind.u32 (C.toInt a0 * 2 ^ min (Int.toNat (o5 BinOp.and IntKind.u64 (IntKind.wrap IntKind.u64 (C.toInt a1)) 31)) 32)) (Int.fdiv (C.toInt a0) (2 ^ min (Int.toNat (IntKind.wrap IntKind.u64 (32 - o5 BinOp.and IntKind.u64 (IntKind.wrap IntKind.u64 (C.toInt a1)) 31))) 32)))] []) else none)
noncomputable def Z1 {R : Type} (N : Nat) : C → C → KD R → Option R := lid "" (H8 N)
theorem q1R {R : Type} (N : Nat) (a0 a1 : C) (k : KD R) : Z1 N a0 a1 k = H8 N a0 a1 k := by unfold Z1; rw [Z9]
theorem q72 {R : Type} (N : Nat) (a0 a1 : C) (K : V → List (Key × O) → Option R) : exF (X0 gl0) ((q3Z N).ov R) F0 noX (fun f => bif Nat.beq f 66 then q8l else []) N 400 8 66 [.d (.int .u32) a0, .d (.int .i64) a1] A0 K =
  Z1 N a0 a1 (fun d1 m1 => K (V.d (Ty.int IntKind.u32) (dk d1 0)) []) := by
 rw [q1R]
 exact (show _ = jn (fun d1 m1 => (K (V.d (Ty.int IntKind.u32) (dk d1 0)) [])) (H8 N a0 a1) by kernel_rfl).trans (u9 _ _)
noncomputable def q19 (N : Nat) {R : Type} : OvG R := fun xs _ K => match xs with
 | [.d t0 a0, .d t1 a1] => if t0 = (.int .u32) ∧ t1 = (.int .i64) then Z1 N a0 a1 (fun d1 m1 => K (V.d (Ty.int IntKind.u32) (dk d1 0)) []) else none
 | _ => none
theorem q8k (N : Nat) {R : Type} : GOk (X0 gl0) 66 (q19 N (R := R)) := by
 intro xs A Kr r hr
 unfold q19 at hr
 split at hr
 ·simp only [Option.ite_none_right_eq_some] at hr
  obtain ⟨hty, hr⟩ := hr
  obtain ⟨rfl, rfl⟩ := hty
  rw [← q72] at hr
  exact okA (q3Z N) hr
 ·cases hr
noncomputable def z9q : Hints := [([1, 0, 1, 1], ⟨[0, 1, 2], [(11, .d (.int .u32))], [], [], [], []⟩),
  ([9], ⟨[], [(10, .d (.int .u32))], [], [], [], []⟩)]
noncomputable def z16 (N : Nat) : OvS (X0 gl0) where
 g R := [(66, q19 N)]
 ok := fun R => List.forall_mem_cons.2 ⟨q8k N, fun _ h => nomatch h⟩
noncomputable def q2q {R : Type} (N : Nat) (a0 a1 a2 a3 a4 : C) (k1 : KD R) : Option R := (Z1 N a0 (C.int (IntKind.wrap IntKind.i64 (0 - C.toInt a3))) (fun d1 m1 => (jn (fun d2 m2 => (Z1 N (dk d2 0) (C.int (IntKind.wrap IntKind.i64 (0 - C.toInt (dk d2 1)))) (fun d3 m3 => (Z1 N (dk d2 0) (C.int (IntKind.wrap IntKind.i64 (0 - C.toInt (dk d2 2)))) (fun d4 m4 => (k1 [C.int (o5 BinOp.xor IntKind.u32 (o5 BinOp.xor IntKind.u32 (C.toInt (dk d3 0)) (C.toInt (dk d4 0))) (C.toInt (dk d2 3)))] [])))))) (fun k2 => (bif C.toBool a4 then (if 0 ≤ C.toInt a3 then (k2 [a0, a1, a2, C.int (Int.fdiv (C.toInt a0) (2 ^ min (Int.toNat (C.toInt a3)) 32))] []) else none) else (k2 [a0, a1, a2, dk d1 0] []))))))
noncomputable def W4 {R : Type} (N : Nat) : C → C → C → C → C → KD R → Option R := lid "" (q2q N)
theorem q5d {R : Type} (N : Nat) (a0 a1 a2 a3 a4 : C) (k : KD R) : W4 N a0 a1 a2 a3 a4 k = q2q N a0 a1 a2 a3 a4 k := by unfold W4; rw [Z9]
theorem z7J {R : Type} (N : Nat) (a0 a1 a2 a3 a4 : C) (K : V → List (Key × O) → Option R) : exF (X0 gl0) ((z16 N).ov R) F0 noX (fun f => bif Nat.beq f 59 then z9q else []) N 400 8 59 [.d (.int .u32) a0, .d (.int .i64) a1, .d (.int .i64) a2, .d (.int .i64) a3, .d .bool a4] A0 K =
  W4 N a0 a1 a2 a3 a4 (fun d1 m1 => K (V.d (Ty.int IntKind.u32) (dk d1 0)) []) := by
 rw [q5d]
 exact (show _ = jn (fun d1 m1 => (K (V.d (Ty.int IntKind.u32) (dk d1 0)) [])) (q2q N a0 a1 a2 a3 a4) by kernel_rfl).trans (u9 _ _)
noncomputable def q8S (N : Nat) {R : Type} : OvG R := fun xs _ K => match xs with
 | [.d t0 a0, .d t1 a1, .d t2 a2, .d t3 a3, .d t4 a4] => if t0 = (.int .u32) ∧ t1 = (.int .i64) ∧ t2 = (.int .i64) ∧ t3 = (.int .i64) ∧ t4 = .bool then W4 N a0 a1 a2 a3 a4 (fun d1 m1 => K (V.d (Ty.int IntKind.u32) (dk d1 0)) []) else none
 | _ => none
theorem z9p (N : Nat) {R : Type} : GOk (X0 gl0) 59 (q8S N (R := R)) := by
 intro xs A Kr r hr
 unfold q8S at hr
 split at hr
 ·simp only [Option.ite_none_right_eq_some] at hr
  obtain ⟨hty, hr⟩ := hr
  obtain ⟨rfl, rfl, rfl, rfl, rfl⟩ := hty
  rw [← z7J] at hr
  exact okA (z16 N) hr
 ·cases hr
def q4h : List Sh := [.as (.ptr (.g (.l 1)) [] Z5)]
def q7H : List (Key × OSh) := [(.l 1, .box (.d Z5))]
noncomputable def z3e : Hints := [([1, 0, 1], ⟨[0, 2], [], [.g (.l 1)], [], [], []⟩),
  ([4, 1, 0, 1], ⟨[0, 2], [(12, .d (.int .i64))], [.g (.l 1)], [], [], []⟩),
  ([1, 0, 1, 1, 1], ⟨[0, 4], [], [.g (.l 1)], [], [], []⟩),
  ([4, 1, 0, 1, 1, 1], ⟨[0, 2, 4, 29], [(30, .d (.int .i64))], [.g (.l 1)], [], [], []⟩),
  ([1, 0, 1, 1, 4, 0, 1, 1, 5, 4, 1, 0, 1, 1, 1], ⟨[0, 2, 4, 6, 7, 29, 30], [], [.g (.l 1)], [], [], []⟩),
  ([1, 1, 1, 1, 1], ⟨[0], [], [.g (.l 1)], [], [], []⟩),
  ([4, 1, 1, 1, 1, 1], ⟨[0, 4], [(126, .d (.int .i64))], [.g (.l 1)], [], [], []⟩),
  ([9], ⟨[], [], [.g (.l 1)], [], [], []⟩)]
noncomputable def q7G (N : Nat) : OvS (X0 gl0) where
 g R := [(57, q92 N), (58, q8T N), (59, q8S N)]
 ok := fun R => List.forall_mem_cons.2 ⟨y0R N, List.forall_mem_cons.2 ⟨z9r N, List.forall_mem_cons.2 ⟨z9p N, fun _ h => nomatch h⟩⟩⟩
noncomputable def J2 {R : Type} (N : Nat) (k2 : KD R) : KD R → List C → List Es → Option R := (fun k3 d4 m4 => (bif decide (C.toInt (dk d4 0) < 8) then (if 0 ≤ C.toInt (dk d4 0) ∧ C.toInt (dk d4 0) < 8 then (if 0 ≤ C.toInt (dk d4 0) ∧ C.toInt (dk d4 0) < 8 then (if 0 ≤ C.toInt (dk d4 0) ∧ C.toInt (dk d4 0) < 8 then (k3 [C.int (IntKind.wrap IntKind.i64 (C.toInt (dk d4 0) + 1)), C.set (dk d4 1) 0 (C.set (C.get (dk d4 1) 0) (Int.toNat (C.toInt (dk d4 0))) (C.int (IntKind.wrap IntKind.u32 (C.toInt (C.get (C.get (dk d4 1) 0) (Int.toNat (C.toInt (dk d4 0)))) + C.toInt (C.get (dk d4 2) (Int.toNat (C.toInt (dk d4 0)))))))), dk d4 2] []) else none) else none) else none) else (k2 [dk d4 1] [])))
noncomputable def Y7 {R : Type} (N : Nat) (k2 : KD R) : KD R → List C → List Es → Option R := (fun k3 d3 m3 => (bif decide (C.toInt (dk d3 1) < 64) then (if 0 ≤ C.toInt (dk d3 1) ∧ C.toInt (dk d3 1) < 64 then (jn (fun d4 m4 => (W4 N (C.get (dk d4 6) (Int.toNat 4)) (C.int 6) (C.int 11) (C.int 25) (C.bool false) (fun d5 m5 => (if 0 ≤ C.toInt (dk d4 1) ∧ C.toInt (dk d4 1) < 16 then (W4 N (C.get (dk d4 6) (Int.toNat 0)) (C.int 2) (C.int 13) (C.int 22) (C.bool false) (fun d6 m6 => (k3 [dk d4 2, C.int (IntKind.wrap IntKind.i64 (C.toInt (dk d4 3) + 1)), dk d4 4, dk d4 5, C.set (C.set (C.set (C.set (C.set (C.set (C.set (C.set (u7 (Ty.arr 8 (Ty.int IntKind.u32))) 0 (C.int (IntKind.wrap IntKind.u32 (IntKind.wrap IntKind.u32 (IntKind.wrap IntKind.u32 (IntKind.wrap IntKind.u32 (IntKind.wrap IntKind.u32 (IntKind.wrap IntKind.u32 (C.toInt (C.get (dk d4 6) (Int.toNat 7)) + C.toInt (dk d5 0)) + o5 BinOp.xor IntKind.u32 (C.toInt (C.get (dk d4 6) (Int.toNat 6))) (o5 BinOp.and IntKind.u32 (C.toInt (C.get (dk d4 6) (Int.toNat 4))) (o5 BinOp.xor IntKind.u32 (C.toInt (C.get (dk d4 6) (Int.toNat 5))) (C.toInt (C.get (dk d4 6) (Int.toNat 6)))))) + C.toInt (dk d4 0)) + C.toInt (C.get (dk d4 5) (Int.toNat (C.toInt (dk d4 1))))) + C.toInt (dk d6 0)) + o5 BinOp.or IntKind.u32 (o5 BinOp.and IntKind.u32 (C.toInt (C.get (dk d4 6) (Int.toNat 0))) (C.toInt (C.get (dk d4 6) (Int.toNat 1)))) (o5 BinOp.and IntKind.u32 (C.toInt (C.get (dk d4 6) (Int.toNat 2))) (o5 BinOp.or IntKind.u32 (C.toInt (C.get (dk d4 6) (Int.toNat 0))) (C.toInt (C.get (dk d4 6) (Int.toNat 1))))))))) 1 (C.get (dk d4 6) (Int.toNat 0))) 2 (C.get (dk d4 6) (Int.toNat 1))) 3 (C.get (dk d4 6) (Int.toNat 2))) 4 (C.int (IntKind.wrap IntKind.u32 (C.toInt (C.get (dk d4 6) (Int.toNat 3)) + IntKind.wrap IntKind.u32 (IntKind.wrap IntKind.u32 (IntKind.wrap IntKind.u32 (IntKind.wrap IntKind.u32 (C.toInt (C.get (dk d4 6) (Int.toNat 7)) + C.toInt (dk d5 0)) + o5 BinOp.xor IntKind.u32 (C.toInt (C.get (dk d4 6) (Int.toNat 6))) (o5 BinOp.and IntKind.u32 (C.toInt (C.get (dk d4 6) (Int.toNat 4))) (o5 BinOp.xor IntKind.u32 (C.toInt (C.get (dk d4 6) (Int.toNat 5))) (C.toInt (C.get (dk d4 6) (Int.toNat 6)))))) + C.toInt (dk d4 0)) + C.toInt (C.get (dk d4 5) (Int.toNat (C.toInt (dk d4 1))))))))) 5 (C.get (dk d4 6) (Int.toNat 4))) 6 (C.get (dk d4 6) (Int.toNat 5))) 7 (C.get (dk d4 6) (Int.toNat 6))] []))) else none)))) (fun k4 => (bif decide (16 ≤ C.toInt (dk d3 1)) then (if 0 ≤ Int.tmod (C.toInt (dk d3 1)) 16 ∧ Int.tmod (C.toInt (dk d3 1)) 16 < 16 then (if 0 ≤ Int.tmod (IntKind.wrap IntKind.i64 (C.toInt (dk d3 1) + 1)) 16 ∧ Int.tmod (IntKind.wrap IntKind.i64 (C.toInt (dk d3 1) + 1)) 16 < 16 then (W4 N (C.get (dk d3 3) (Int.toNat (Int.tmod (IntKind.wrap IntKind.i64 (C.toInt (dk d3 1) + 1)) 16))) (C.int 7) (C.int 18) (C.int 3) (C.bool true) (fun d4 m4 => (if 0 ≤ Int.tmod (IntKind.wrap IntKind.i64 (C.toInt (dk d3 1) + 9)) 16 ∧ Int.tmod (IntKind.wrap IntKind.i64 (C.toInt (dk d3 1) + 9)) 16 < 16 then (if 0 ≤ Int.tmod (IntKind.wrap IntKind.i64 (C.toInt (dk d3 1) + 14)) 16 ∧ Int.tmod (IntKind.wrap IntKind.i64 (C.toInt (dk d3 1) + 14)) 16 < 16 then (W4 N (C.get (dk d3 3) (Int.toNat (Int.tmod (IntKind.wrap IntKind.i64 (C.toInt (dk d3 1) + 14)) 16))) (C.int 17) (C.int 19) (C.int 10) (C.bool true) (fun d5 m5 => (if 0 ≤ Int.tmod (C.toInt (dk d3 1)) 16 ∧ Int.tmod (C.toInt (dk d3 1)) 16 < 16 then (k4 [C.get (dk d3 0) (Int.toNat (C.toInt (dk d3 1))), C.int (Int.tmod (C.toInt (dk d3 1)) 16), dk d3 0, dk d3 1, dk d3 2, C.set (dk d3 3) (Int.toNat (Int.tmod (C.toInt (dk d3 1)) 16)) (C.int (IntKind.wrap IntKind.u32 (C.toInt (C.get (dk d3 3) (Int.toNat (Int.tmod (C.toInt (dk d3 1)) 16))) + IntKind.wrap IntKind.u32 (IntKind.wrap IntKind.u32 (C.toInt (dk d4 0) + C.toInt (C.get (dk d3 3) (Int.toNat (Int.tmod (IntKind.wrap IntKind.i64 (C.toInt (dk d3 1) + 9)) 16)))) + C.toInt (dk d5 0))))), dk d3 4] []) else none))) else none) else none))) else none) else none) else (k4 [C.get (dk d3 0) (Int.toNat (C.toInt (dk d3 1))), C.int (Int.tmod (C.toInt (dk d3 1)) 16), dk d3 0, dk d3 1, dk d3 2, dk d3 3, dk d3 4] [])))) else none) else (k2 [dk d3 2, dk d3 4] [])))
noncomputable def J1 {R : Type} (N : Nat) (k2 : KD R) : KD R → List C → List Es → Option R := (fun k3 d1 m1 => (bif decide (C.toInt (dk d1 0) < 16) then (if 0 ≤ IntKind.wrap IntKind.i64 (4 * C.toInt (dk d1 0)) ∧ IntKind.wrap IntKind.i64 (4 * C.toInt (dk d1 0)) ≤ 64 ∧ Int.ofNat 64 ≤ 64 then (q1X N (C.slice (List.take (Int.toNat (64 - IntKind.wrap IntKind.i64 (4 * C.toInt (dk d1 0)))) (List.drop (Int.toNat (IntKind.wrap IntKind.i64 (4 * C.toInt (dk d1 0)))) (C.elems (C.get (dk d1 1) 1))))) (fun d2 m2 => (if 0 ≤ C.toInt (dk d1 0) ∧ C.toInt (dk d1 0) < 16 then (k3 [C.int (IntKind.wrap IntKind.i64 (C.toInt (dk d1 0) + 1)), dk d1 1, C.set (dk d1 2) (Int.toNat (C.toInt (dk d1 0))) (dk d2 0)] []) else none))) else none) else (k2 [dk d1 1, dk d1 2] [])))
noncomputable def q1j {R : Type} (N : Nat) (b0 : C) (k1 : KD R) : Option R := (jn (fun d1 m1 => (q16 N (fun d2 m2 => (jn (fun d3 m3 => (jn (fun d4 m4 => (k1 [dk d4 0] [])) (fun k2 => (k9 N (J2 N k2) [C.int 0, dk d3 0, dk d3 1] [])))) (fun k2 => (k9 N (Y7 N k2) [dk d2 0, C.int 0, dk d1 0, dk d1 1, C.get (dk d1 0) 0] [])))))) (fun k2 => (k9 N (J1 N k2) [C.int 0, b0, u7 (Ty.arr 16 (Ty.int IntKind.u32))] [])))
noncomputable def q0m {R : Type} (N : Nat) : C → KD R → Option R := lid "" (q1j N)
theorem q4g {R : Type} (N : Nat) (b0 : C) (k : KD R) : q0m N b0 k = q1j N b0 k := by unfold q0m; rw [Z9]
theorem z2o {R : Type} (N : Nat) (b0 : C) (K : V → List (Key × O) → Option R) : exF (X0 gl0) ((q7G N).ov R) F0 (fun f r => bif Nat.beq f 44 then (bif Nat.beq r 12 then [(46, 7), (58, 7)] else bif Nat.beq r 15 then [(91, 7)] else bif Nat.beq r 16 then [(104, 7)] else bif Nat.beq r 4 then [(22, 8)] else []) else []) (fun f => bif Nat.beq f 44 then z3e else []) N 400 8 44 (Sh.U1 q4h 0 [b0]) (y7 (u5 q7H (Sh.q0n q4h) 0 [b0] [])) K =
  q0m N b0 (fun d1 m1 => K (V.tup []) [(Key.g (Key.l 1), O.box (V.d Z5 (dk d1 0)))]) := by
 rw [q4g]
 exact (show _ = jn (fun d1 m1 => (K (V.tup []) [(Key.g (Key.l 1), O.box (V.d Z5 (dk d1 0)))])) (q1j N b0) by kernel_rfl).trans (u9 _ _)
noncomputable def q4R (N : Nat) {R : Type} : OvG R := q4Q q4h q7H fun ds ms K => q0m N (dk ds 0) (fun d1 m1 => K (V.tup []) [(Key.g (Key.l 1), O.box (V.d Z5 (dk d1 0)))])
theorem z3d (N : Nat) {R : Type} : GOk (X0 gl0) 44 (q4R N (R := R)) := by
 unfold q4R
 refine q1r fun ds ms K r hr => ?_
 rw [← z2o] at hr
 exact okB (q7G N) hr
def q5l : List Sh := [.as (.ptr (.g (.l 1)) [] Z5), .d (.slice 1 (.int .u8))]
def q8W : List (Key × OSh) := [(.l 1, .box (.d Z5))]
noncomputable def z5n : Hints := [([], ⟨[0], [], [.g (.l 1)], [], [], []⟩),
  ([4], ⟨[0], [(1, .d (.slice 1 (.int .u8)))], [.g (.l 1)], [], [], []⟩),
  ([1, 1, 1, 1, 4, 1, 5, 4], ⟨[0, 1], [], [.g (.l 1)], [], [], []⟩),
  ([9], ⟨[], [], [.g (.l 1)], [], [], []⟩)]
noncomputable def q8V (N : Nat) : OvS (X0 gl0) where
 g R := [(44, q4R N)]
 ok := fun R => List.forall_mem_cons.2 ⟨z3d N, fun _ h => nomatch h⟩
noncomputable def J7 {R : Type} (N : Nat) (k2 : KD R) : KD R → List C → List Es → Option R := (fun k3 d1 m1 => (bif decide (0 < (↑(List.length (C.elems (dk d1 0))) : Int)) then (if 0 ≤ Int.tmod (C.toInt (C.get (dk d1 1) 2)) 64 ∧ Int.tmod (C.toInt (C.get (dk d1 1) 2)) 64 ≤ 64 ∧ Int.ofNat 64 ≤ 64 then (if 0 < Int.toNat (64 - Int.tmod (C.toInt (C.get (dk d1 1) 2)) 64) then (if 0 ≤ (↑(min (List.length (C.elems (dk d1 0))) (Int.toNat (64 - Int.tmod (C.toInt (C.get (dk d1 1) 2)) 64))) : Int) ∧ (↑(min (List.length (C.elems (dk d1 0))) (Int.toNat (64 - Int.tmod (C.toInt (C.get (dk d1 1) 2)) 64))) : Int) ≤ (↑(List.length (C.elems (dk d1 0))) : Int) ∧ (↑(List.length (C.elems (dk d1 0))) : Int) ≤ (↑(List.length (C.elems (dk d1 0))) : Int) then (jn (fun d2 m2 => (k3 [dk d2 0, dk d2 1] [])) (fun k4 => (bif decide (Int.tmod (C.toInt (C.get (C.set (C.set (dk d1 1) 1 (C.agg (F5 (C.elems (C.get (dk d1 1) 1)) (Int.toNat (Int.tmod (C.toInt (C.get (dk d1 1) 2)) 64)) (Int.toNat (64 - Int.tmod (C.toInt (C.get (dk d1 1) 2)) 64)) (C.elems (dk d1 0))))) 2 (C.int (IntKind.wrap IntKind.u64 (C.toInt (C.get (C.set (dk d1 1) 1 (C.agg (F5 (C.elems (C.get (dk d1 1) 1)) (Int.toNat (Int.tmod (C.toInt (C.get (dk d1 1) 2)) 64)) (Int.toNat (64 - Int.tmod (C.toInt (C.get (dk d1 1) 2)) 64)) (C.elems (dk d1 0))))) 2) + IntKind.wrap IntKind.u64 (↑(min (List.length (C.elems (dk d1 0))) (Int.toNat (64 - Int.tmod (C.toInt (C.get (dk d1 1) 2)) 64))) : Int))))) 2)) 64 = 0) then (q0m N (C.set (C.set (dk d1 1) 1 (C.agg (F5 (C.elems (C.get (dk d1 1) 1)) (Int.toNat (Int.tmod (C.toInt (C.get (dk d1 1) 2)) 64)) (Int.toNat (64 - Int.tmod (C.toInt (C.get (dk d1 1) 2)) 64)) (C.elems (dk d1 0))))) 2 (C.int (IntKind.wrap IntKind.u64 (C.toInt (C.get (C.set (dk d1 1) 1 (C.agg (F5 (C.elems (C.get (dk d1 1) 1)) (Int.toNat (Int.tmod (C.toInt (C.get (dk d1 1) 2)) 64)) (Int.toNat (64 - Int.tmod (C.toInt (C.get (dk d1 1) 2)) 64)) (C.elems (dk d1 0))))) 2) + IntKind.wrap IntKind.u64 (↑(min (List.length (C.elems (dk d1 0))) (Int.toNat (64 - Int.tmod (C.toInt (C.get (dk d1 1) 2)) 64))) : Int))))) (fun d2 m2 => (k4 [C.slice (cut (C.elems (dk d1 0)) (↑(min (List.length (C.elems (dk d1 0))) (Int.toNat (64 - Int.tmod (C.toInt (C.get (dk d1 1) 2)) 64))) : Int) (↑(List.length (C.elems (dk d1 0))) : Int)), dk d2 0] []))) else (k4 [C.slice (cut (C.elems (dk d1 0)) (↑(min (List.length (C.elems (dk d1 0))) (Int.toNat (64 - Int.tmod (C.toInt (C.get (dk d1 1) 2)) 64))) : Int) (↑(List.length (C.elems (dk d1 0))) : Int)), C.set (C.set (dk d1 1) 1 (C.agg (F5 (C.elems (C.get (dk d1 1) 1)) (Int.toNat (Int.tmod (C.toInt (C.get (dk d1 1) 2)) 64)) (Int.toNat (64 - Int.tmod (C.toInt (C.get (dk d1 1) 2)) 64)) (C.elems (dk d1 0))))) 2 (C.int (IntKind.wrap IntKind.u64 (C.toInt (C.get (C.set (dk d1 1) 1 (C.agg (F5 (C.elems (C.get (dk d1 1) 1)) (Int.toNat (Int.tmod (C.toInt (C.get (dk d1 1) 2)) 64)) (Int.toNat (64 - Int.tmod (C.toInt (C.get (dk d1 1) 2)) 64)) (C.elems (dk d1 0))))) 2) + IntKind.wrap IntKind.u64 (↑(min (List.length (C.elems (dk d1 0))) (Int.toNat (64 - Int.tmod (C.toInt (C.get (dk d1 1) 2)) 64))) : Int))))] [])))) else none) else none) else none) else (k2 [dk d1 1] [])))
noncomputable def q17 {R : Type} (N : Nat) (a0 b0 : C) (k1 : KD R) : Option R := (jn (fun d1 m1 => (k1 [dk d1 0] [])) (fun k2 => (k9 N (J7 N k2) [a0, b0] [])))
noncomputable def H7 {R : Type} (N : Nat) : C → C → KD R → Option R := lid "" (q17 N)
theorem q5k {R : Type} (N : Nat) (a0 b0 : C) (k : KD R) : H7 N a0 b0 k = q17 N a0 b0 k := by unfold H7; rw [Z9]
theorem z4v {R : Type} (N : Nat) (a0 b0 : C) (K : V → List (Key × O) → Option R) : exF (X0 gl0) ((q8V N).ov R) F0 noX (fun f => bif Nat.beq f 38 then z5n else []) N 400 8 38 (Sh.U1 q5l 0 [a0, b0]) (y7 (u5 q8W (Sh.q0n q5l) 0 [a0, b0] [])) K =
  H7 N a0 b0 (fun d1 m1 => K (V.tup []) [(Key.g (Key.l 1), O.box (V.d Z5 (dk d1 0)))]) := by
 rw [q5k]
 exact (show _ = jn (fun d1 m1 => (K (V.tup []) [(Key.g (Key.l 1), O.box (V.d Z5 (dk d1 0)))])) (q17 N a0 b0) by kernel_rfl).trans (u9 _ _)
noncomputable def q3Y (N : Nat) {R : Type} : OvG R := q4Q q5l q8W fun ds ms K => H7 N (dk ds 0) (dk ds 1) (fun d1 m1 => K (V.tup []) [(Key.g (Key.l 1), O.box (V.d Z5 (dk d1 0)))])
theorem q8X (N : Nat) {R : Type} : GOk (X0 gl0) 38 (q3Y N (R := R)) := by
 unfold q3Y
 refine q1r fun ds ms K r hr => ?_
 rw [← z4v] at hr
 exact okB (q8V N) hr
def q4j : List Sh := [.as (.ptr (.g (.l 1)) [] Z5), .d (.slice 24 (.slice 1 (.int .u8)))]
def q7J : List (Key × OSh) := [(.l 1, .box (.d Z5))]
noncomputable def z3g : Hints := [([1, 1], ⟨[0], [], [.g (.l 1)], [], [], []⟩),
  ([4, 1, 1], ⟨[0, 8, 9], [(10, .d (.int .i64))], [.g (.l 1)], [], [], []⟩),
  ([9], ⟨[], [], [.g (.l 1)], [], [], []⟩)]
noncomputable def q7I (N : Nat) : OvS (X0 gl0) where
 g R := [(38, q3Y N)]
 ok := fun R => List.forall_mem_cons.2 ⟨q8X N, fun _ h => nomatch h⟩
noncomputable def q0a {R : Type} (N : Nat) (k2 : KD R) : KD R → List C → List Es → Option R := (fun k3 d1 m1 => (bif decide (C.toInt (dk d1 2) < C.toInt (dk d1 1)) then (if 0 ≤ C.toInt (dk d1 2) ∧ C.toInt (dk d1 2) < (↑(List.length (C.elems (dk d1 0))) : Int) then (H7 N (List.getD (C.elems (dk d1 0)) (Int.toNat (C.toInt (dk d1 2))) C.nil) (dk d1 3) (fun d2 m2 => (k3 [dk d1 0, dk d1 1, C.int (IntKind.wrap IntKind.i64 (C.toInt (dk d1 2) + 1)), dk d2 0] []))) else none) else (k2 [dk d1 3] [])))
noncomputable def q1k {R : Type} (N : Nat) (a0 b0 : C) (k1 : KD R) : Option R := (jn (fun d1 m1 => (k1 [dk d1 0] [])) (fun k2 => (k9 N (q0a N k2) [a0, C.int (↑(List.length (C.elems a0)) : Int), C.int 0, b0] [])))
noncomputable def H3 {R : Type} (N : Nat) : C → C → KD R → Option R := lid "" (q1k N)
theorem q4i {R : Type} (N : Nat) (a0 b0 : C) (k : KD R) : H3 N a0 b0 k = q1k N a0 b0 k := by unfold H3; rw [Z9]
theorem z2p {R : Type} (N : Nat) (a0 b0 : C) (K : V → List (Key × O) → Option R) : exF (X0 gl0) ((q7I N).ov R) F0 noX (fun f => bif Nat.beq f 30 then z3g else []) N 400 8 30 (Sh.U1 q4j 0 [a0, b0]) (y7 (u5 q7J (Sh.q0n q4j) 0 [a0, b0] [])) K =
  H3 N a0 b0 (fun d1 m1 => K (V.tup []) [(Key.g (Key.l 1), O.box (V.d Z5 (dk d1 0)))]) := by
 rw [q4i]
 exact (show _ = jn (fun d1 m1 => (K (V.tup []) [(Key.g (Key.l 1), O.box (V.d Z5 (dk d1 0)))])) (q1k N a0 b0) by kernel_rfl).trans (u9 _ _)
noncomputable def q4S (N : Nat) {R : Type} : OvG R := q4Q q4j q7J fun ds ms K => H3 N (dk ds 0) (dk ds 1) (fun d1 m1 => K (V.tup []) [(Key.g (Key.l 1), O.box (V.d Z5 (dk d1 0)))])
theorem z3f (N : Nat) {R : Type} : GOk (X0 gl0) 30 (q4S N (R := R)) := by
 unfold q4S
 refine q1r fun ds ms K r hr => ?_
 rw [← z2p] at hr
 exact okB (q7I N) hr
noncomputable def y0T : Hints := [([9], ⟨[], [(2, .sl 1 (.int .u8) 5002)], [], [], [], []⟩)]
noncomputable def z3b (N : Nat) : OvS (X0 gl0) where
 g R := []
 ok := fun R => fun _ h => nomatch h
noncomputable def q20 {R : Type} (N : Nat) (a0 : C) (k1 : KD R) : Option R := (k1 [C.slice [C.int (IntKind.wrap IntKind.u8 (Int.fdiv (C.toInt a0) (2 ^ min (Int.toNat 24) 32))), C.int (IntKind.wrap IntKind.u8 (Int.fdiv (C.toInt a0) (2 ^ min (Int.toNat 16) 32))), C.int (IntKind.wrap IntKind.u8 (Int.fdiv (C.toInt a0) (2 ^ min (Int.toNat 8) 32))), C.int (IntKind.wrap IntKind.u8 (C.toInt a0))]] [])
noncomputable def q0G {R : Type} (N : Nat) : C → KD R → Option R := lid "" (q20 N)
theorem q8U {R : Type} (N : Nat) (a0 : C) (k : KD R) : q0G N a0 k = q20 N a0 k := by unfold q0G; rw [Z9]
theorem z9t {R : Type} (N : Nat) (a0 : C) (K : V → List (Key × O) → Option R) : exF (X0 gl0) ((z3b N).ov R) F0 (fun f r => bif Nat.beq f 31 then (bif Nat.beq r 1 then [(14, 4)] else []) else []) (fun f => bif Nat.beq f 31 then y0T else []) N 400 8 31 [.d (.int .u32) a0] A0 K =
  q0G N a0 (fun d1 m1 => K (V.ts 1 (Ty.int IntKind.u8) (C.elems (dk d1 0))) []) := by
 rw [q8U]
 exact (show _ = jn (fun d1 m1 => (bif Nat.beq (List.length (C.elems (dk d1 0))) (List.length (C.elems (dk d1 0))) then
  (K (V.ts 1 (Ty.int IntKind.u8) (C.elems (dk d1 0))) [])
 else
  none)) (q20 N a0) by kernel_rfl).trans ((u9 _ _).trans (congrArg (q20 N a0) (funext fun _ => funext fun _ => by simp only [Nat.beq_refl, cond_true])))
noncomputable def q7b (N : Nat) {R : Type} : OvG R := fun xs _ K => match xs with
 | [.d t0 a0] => if t0 = (.int .u32) then q0G N a0 (fun d1 m1 => K (V.ts 1 (Ty.int IntKind.u8) (C.elems (dk d1 0))) []) else none
 | _ => none
theorem z3c (N : Nat) {R : Type} : GOk (X0 gl0) 31 (q7b N (R := R)) := by
 intro xs A Kr r hr
 unfold q7b at hr
 split at hr
 ·simp only [Option.ite_none_right_eq_some] at hr
  obtain ⟨hty, hr⟩ := hr
  subst hty
  rw [← z9t] at hr
  exact okA (z3b N) hr
 ·cases hr
def q5n : List Sh := [.as (.ptr (.g (.l 1)) [] Z5)]
def q8Z : List (Key × OSh) := [(.l 1, .box (.d Z5))]
noncomputable def z5p : Hints := [([1, 0, 1, 1, 1, 1, 1, 1, 1, 1, 1], ⟨[0, 2, 6], [], [.g (.l 1)], [], [], []⟩),
  ([4, 1, 0, 1, 1, 1, 1, 1, 1, 1, 1, 1], ⟨[0, 2, 6, 38], [(39, .d (.int .i64))], [.g (.l 1)], [], [], []⟩),
  ([9], ⟨[], [(2, .as (.ptr (.l 2) [] (.arr 32 (.int .u8))))], [.g (.l 1)], [(.l 2, .box (.d (.arr 32 (.int .u8))))], [], []⟩)]
noncomputable def q8Y (N : Nat) : OvS (X0 gl0) where
 g R := [(31, q7b N), (38, q3Y N)]
 ok := fun R => List.forall_mem_cons.2 ⟨z3c N, List.forall_mem_cons.2 ⟨q8X N, fun _ h => nomatch h⟩⟩
noncomputable def q0b {R : Type} (N : Nat) (k2 : KD R) : KD R → List C → List Es → Option R := (fun k3 d5 m5 => (bif decide (C.toInt (dk d5 1) < 8) then (if 0 ≤ C.toInt (dk d5 1) ∧ C.toInt (dk d5 1) < 8 then (if 0 ≤ IntKind.wrap IntKind.i64 (4 * C.toInt (dk d5 1)) ∧ IntKind.wrap IntKind.i64 (4 * C.toInt (dk d5 1)) ≤ 32 ∧ Int.ofNat 32 ≤ 32 then (q0G N (C.get (dk d5 0) (Int.toNat (C.toInt (dk d5 1)))) (fun d6 m6 => (if 0 < Int.toNat (32 - IntKind.wrap IntKind.i64 (4 * C.toInt (dk d5 1))) then (k3 [dk d5 0, C.int (IntKind.wrap IntKind.i64 (C.toInt (dk d5 1) + 1)), dk d5 2, dk d5 3, C.agg (F5 (C.elems (dk d5 4)) (Int.toNat (IntKind.wrap IntKind.i64 (4 * C.toInt (dk d5 1)))) (Int.toNat (32 - IntKind.wrap IntKind.i64 (4 * C.toInt (dk d5 1)))) (C.elems (dk d6 0)))] []) else none))) else none) else none) else (k2 [dk d5 2, dk d5 3, dk d5 4] [])))
noncomputable def q18 {R : Type} (N : Nat) (b0 : C) (k1 : KD R) : Option R := (if 0 ≤ IntKind.wrap IntKind.u64 (64 - Int.tmod (IntKind.wrap IntKind.u64 (C.toInt (C.get b0 2) + 8)) 64) ∧ IntKind.wrap IntKind.u64 (64 - Int.tmod (IntKind.wrap IntKind.u64 (C.toInt (C.get b0 2) + 8)) 64) ≤ IntKind.wrap IntKind.u64 (64 - Int.tmod (IntKind.wrap IntKind.u64 (C.toInt (C.get b0 2) + 8)) 64) ∧ IntKind.wrap IntKind.u64 (64 - Int.tmod (IntKind.wrap IntKind.u64 (C.toInt (C.get b0 2) + 8)) 64) ≤ 9223372036854775807 ∧ Int.toNat (IntKind.wrap IntKind.u64 (64 - Int.tmod (IntKind.wrap IntKind.u64 (C.toInt (C.get b0 2) + 8)) 64)) * 1 ≤ 140737488355328 then (if Int.ofNat 0 ≤ 0 ∧ 0 < (↑(Int.toNat (IntKind.wrap IntKind.u64 (64 - Int.tmod (IntKind.wrap IntKind.u64 (C.toInt (C.get b0 2) + 8)) 64))) : Int) then (H7 N (C.slice (List.take (Int.toNat (IntKind.wrap IntKind.u64 (64 - Int.tmod (IntKind.wrap IntKind.u64 (C.toInt (C.get b0 2) + 8)) 64))) (List.drop 0 (List.set (List.replicate (Int.toNat (IntKind.wrap IntKind.u64 (64 - Int.tmod (IntKind.wrap IntKind.u64 (C.toInt (C.get b0 2) + 8)) 64))) (u7 (Ty.int IntKind.u8))) 0 (C.int 128))))) b0 (fun d1 m1 => (q0G N (C.int (IntKind.wrap IntKind.u32 (Int.fdiv (IntKind.wrap IntKind.u64 (C.toInt (C.get b0 2) * 8)) (2 ^ min (Int.toNat 32) 64)))) (fun d2 m2 => (q0G N (C.int (IntKind.wrap IntKind.u32 (IntKind.wrap IntKind.u64 (C.toInt (C.get b0 2) * 8)))) (fun d3 m3 => (bif Nat.beq (List.length (C.elems (dk d2 0))) (List.length (C.elems (dk d2 0))) then (if (List.length (C.elems (dk d2 0)) + List.length (C.elems (dk d3 0))) * 1 ≤ 140737488355328 ∧ List.length (C.elems (dk d2 0)) + List.length (C.elems (dk d3 0)) ≤ 9223372036854775807 then (H7 N (C.slice (C.elems (dk d2 0) ++ C.elems (dk d3 0))) (dk d1 0) (fun d4 m4 => (jn (fun d5 m5 => (k1 [dk d5 2, dk d5 0] [])) (fun k2 => (k9 N (q0b N k2) [C.get (dk d4 0) 0, C.int 0, b0, u7 (Ty.arr 32 (Ty.int IntKind.u8)), u7 (Ty.arr 32 (Ty.int IntKind.u8))] []))))) else none) else none))))))) else none) else none)
noncomputable def q0M {R : Type} (N : Nat) : C → KD R → Option R := lid "" (q18 N)
theorem q5m {R : Type} (N : Nat) (b0 : C) (k : KD R) : q0M N b0 k = q18 N b0 k := by unfold q0M; rw [Z9]
theorem z4w {R : Type} (N : Nat) (b0 : C) (K : V → List (Key × O) → Option R) : exF (X0 gl0) ((q8Y N).ov R) F0 (fun f r => bif Nat.beq f 32 then (bif Nat.beq r 7 then [(27, 100), (3, 16)] else bif Nat.beq r 8 then [(3, 16)] else []) else []) (fun f => bif Nat.beq f 32 then z5p else []) N 400 8 32 (Sh.U1 q5n 0 [b0]) (y7 (u5 q8Z (Sh.q0n q5n) 0 [b0] [])) K =
  q0M N b0 (fun d1 m1 => K (V.d (Ty.arr 32 (Ty.int IntKind.u8)) (dk d1 0)) [(Key.g (Key.l 1), O.box (V.d Z5 (dk d1 1)))]) := by
 rw [q5m]
 exact (show _ = jn (fun d1 m1 => (K (V.d (Ty.arr 32 (Ty.int IntKind.u8)) (dk d1 0)) [(Key.g (Key.l 1), O.box (V.d Z5 (dk d1 1)))])) (q18 N b0) by kernel_rfl).trans (u9 _ _)
noncomputable def q6a (N : Nat) {R : Type} : OvG R := q4Q q5n q8Z fun ds ms K => q0M N (dk ds 0) (fun d1 m1 => K (V.d (Ty.arr 32 (Ty.int IntKind.u8)) (dk d1 0)) [(Key.g (Key.l 1), O.box (V.d Z5 (dk d1 1)))])
theorem z5o (N : Nat) {R : Type} : GOk (X0 gl0) 32 (q6a N (R := R)) := by
 unfold q6a
 refine q1r fun ds ms K r hr => ?_
 rw [← z4w] at hr
 exact okB (q8Y N) hr
noncomputable def y2h : Hints := [([1, 0, 1, 1, 1], ⟨[4, 5], [], [], [], [], []⟩),
  ([4, 1, 0, 1, 1, 1], ⟨[4, 5, 17, 18], [(19, .d (.int .i64))], [], [], [], []⟩),
  ([9], ⟨[], [(4, .as (.ptr (.l 4) [] (.arr 32 (.int .u8))))], [], [(.l 4, .box (.d (.arr 32 (.int .u8))))], [], []⟩)]
noncomputable def z4O (N : Nat) : OvS (X0 gl0) where
 g R := [(29, z1m N), (30, q4S N), (31, q7b N), (32, q6a N)]
 ok := fun R => List.forall_mem_cons.2 ⟨y2e N, List.forall_mem_cons.2 ⟨z3f N, List.forall_mem_cons.2 ⟨z3c N, List.forall_mem_cons.2 ⟨z5o N, fun _ h => nomatch h⟩⟩⟩⟩
noncomputable def q2E {R : Type} (N : Nat) (k2 : KD R) : KD R → List C → List Es → Option R := (fun k3 d3 m3 => (bif decide (C.toInt (dk d3 2) < C.toInt (dk d3 1)) then (if 0 ≤ C.toInt (dk d3 2) ∧ C.toInt (dk d3 2) < (↑(List.length (C.elems (dk d3 0))) : Int) then (q0G N (C.int (IntKind.wrap IntKind.u32 (↑(List.length (C.elems (List.getD (C.elems (dk d3 0)) (Int.toNat (C.toInt (dk d3 2))) C.nil))) : Int))) (fun d4 m4 => (H3 N (C.slice [C.slice (C.elems (dk d4 0)), List.getD (C.elems (dk d3 0)) (Int.toNat (C.toInt (dk d3 2))) C.nil]) (dk d3 4) (fun d5 m5 => (k3 [dk d3 0, dk d3 1, C.int (IntKind.wrap IntKind.i64 (C.toInt (dk d3 2) + 1)), dk d3 3, dk d5 0] []))))) else none) else (k2 [dk d3 3, dk d3 4] [])))
noncomputable def q43 {R : Type} (N : Nat) (a0 a1 : C) (k1 : KD R) : Option R := (q3h N (fun d1 m1 => (H3 N (C.slice [C.slice [a0, C.int (IntKind.wrap IntKind.u8 (↑(List.length (C.elems a1)) : Int))]]) (dk d1 0) (fun d2 m2 => (jn (fun d3 m3 => (q0M N (dk d3 1) (fun d4 m4 => (k1 [dk d4 0] [])))) (fun k2 => (k9 N (q2E N k2) [a1, C.int (↑(List.length (C.elems a1)) : Int), C.int 0, u7 (Ty.arr 32 (Ty.int IntKind.u8)), dk d2 0] [])))))))
noncomputable def q3i {R : Type} (N : Nat) : C → C → KD R → Option R := lid "" (q43 N)
theorem q94 {R : Type} (N : Nat) (a0 a1 : C) (k : KD R) : q3i N a0 a1 k = q43 N a0 a1 k := by unfold q3i; rw [Z9]
theorem y0W {R : Type} (N : Nat) (a0 a1 : C) (K : V → List (Key × O) → Option R) : exF (X0 gl0) ((z4O N).ov R) F0 (fun f r => bif Nat.beq f 22 then (bif Nat.beq r 2 then [(5, 16)] else bif Nat.beq r 6 then [(5, 16)] else bif Nat.beq r 8 then [(5, 16)] else []) else []) (fun f => bif Nat.beq f 22 then y2h else []) N 400 8 22 [.d (.int .u8) a0, .d (.slice 24 (.slice 1 (.int .u8))) a1] A0 K =
  q3i N a0 a1 (fun d1 m1 => K (V.d (Ty.arr 32 (Ty.int IntKind.u8)) (dk d1 0)) []) := by
 rw [q94]
 exact (show _ = jn (fun d1 m1 => (K (V.d (Ty.arr 32 (Ty.int IntKind.u8)) (dk d1 0)) [])) (q43 N a0 a1) by kernel_rfl).trans (u9 _ _)
noncomputable def z1n (N : Nat) {R : Type} : OvG R := fun xs _ K => match xs with
 | [.d t0 a0, .d t1 a1] => if t0 = (.int .u8) ∧ t1 = (.slice 24 (.slice 1 (.int .u8))) then q3i N a0 a1 (fun d1 m1 => K (V.d (Ty.arr 32 (Ty.int IntKind.u8)) (dk d1 0)) []) else none
 | _ => none
theorem y2g (N : Nat) {R : Type} : GOk (X0 gl0) 22 (z1n N (R := R)) := by
 intro xs A Kr r hr
 unfold z1n at hr
 split at hr
 ·simp only [Option.ite_none_right_eq_some] at hr
  obtain ⟨hty, hr⟩ := hr
  obtain ⟨rfl, rfl⟩ := hty
  rw [← y0W] at hr
  exact okA (z4O N) hr
 ·cases hr
def W64 (a : Int) : Prop := 0 ≤ a ∧ a < 18446744073709551616
theorem wrap_u8 (x : Int) : IntKind.u8.wrap x = x % 256 := by simp [IntKind.wrap, IntKind.bits, IntKind.signed]
theorem wrap_i64 {n : Int} (h : -9223372036854775808 ≤ n) (h2 : n < 9223372036854775808) : IntKind.i64.wrap n = n := IntWalk.i64_in _ (by omega)
theorem q0U {l : List C} {i : Nat} (h : i < l.length) : l.getD i .nil ∈ l := by
 rw [List.getD_eq_getElem?_getD, List.getElem?_eq_getElem h]; exact List.getElem_mem h
end Go.Proofs.Yteaddgnjddjllaa
namespace Go.Proofs.Yteaddgnjddjllaa
open Go Go.E
set_option maxRecDepth 100000
set_option maxHeartbeats 4000000
set_option linter.unusedSimpArgs false
variable {R : Type} {N : Nat}
theorem q9E {F : KD R → KD R → List C → List Es → Option R} (inv : Nat → List C → Prop) (P : List C → Prop)
  (step : ∀ n st, inv n st → (∃ st' n', n' < n ∧ inv n' st' ∧ ∀ k rec : KD R, F k rec st [] = rec st' []) ∨ (∃ d, P d ∧ ∀ k rec : KD R, F k rec st [] = k d [])) :
  ∀ (m n : Nat) (st : List C) (N : Nat), n ≤ m → inv n st → n < N → ∃ d, P d ∧ ∀ k : KD R, k9 N (F k) st [] = k d []
 | m, n, st, N, hm, hi, hN => by
  obtain ⟨N, rfl⟩ : ∃ a, N = a + 1 := ⟨N - 1, by omega⟩
  rcases step n st hi with ⟨st', n', h1, h2, h3⟩ | ⟨d, h1, h2⟩
  ·match m with
   | 0 => omega
   | m + 1 =>
    obtain ⟨d, h4, h5⟩ := q9E inv P step m n' st' N (by omega) h2 (by omega)
    exact ⟨d, h4, fun k => by rw [j6, h3, h5]⟩
  ·exact ⟨d, h1, fun k => by rw [j6, h2]⟩
theorem q2z {F : KD R → KD R → List C → List Es → Option R} (n : Nat) (inv : Nat → List C → Prop) (P : List C → Prop)
  (step : ∀ i st, i < n → inv i st → ∃ st', inv (i + 1) st' ∧ ∀ k rec : KD R, F k rec st [] = rec st' [])
  (stop : ∀ st, inv n st → ∃ d, P d ∧ ∀ k rec : KD R, F k rec st [] = k d [])
  {N : Nat} (hN : n < N) {st : List C} (h0 : inv 0 st) : ∃ d, P d ∧ ∀ k : KD R, k9 N (F k) st [] = k d [] := by
 refine q9E (fun m st => ∃ i, i + m = n ∧ inv i st) P (fun m st hi => ?_) n n st N (Nat.le_refl n) ⟨0, by omega, h0⟩ hN
 obtain ⟨i, h1, h2⟩ := hi
 by_cases e : i = n
 ·subst e; exact .inr (stop st h2)
 ·obtain ⟨st', h3, h4⟩ := step i st (by omega) h2
  exact .inl ⟨st', m - 1, by omega, ⟨i + 1, by omega, h3⟩, h4⟩
theorem q9R (x : Int) : 0 ≤ IntKind.u64.wrap x ∧ IntKind.u64.wrap x < 18446744073709551616 := by
 have : IntKind.u64.wrap x = x % 18446744073709551616 := by simp [IntKind.wrap, IntKind.bits, IntKind.signed]
 omega
theorem z2M (x : C) (k : Int) : ∃ n : Int, ∀ k' : KD R, Z1 N x (.int k) k' = k' [.int n] [] :=
 ⟨_, fun k' => by
  rw [q1R]
  unfold H8
  rw [if_pos (q9R _).1]⟩
theorem q9r (x : C) (a b c : Int) (f : Bool) (hc : 0 ≤ c) : ∃ n : Int, ∀ k : KD R, W4 N x (.int a) (.int b) (.int c) (.bool f) k = k [.int n] [] := by
 obtain ⟨n1, h1⟩ := z2M (R := R) (N := N) x (IntKind.wrap IntKind.i64 (0 - c))
 obtain ⟨n2, h2⟩ := z2M (R := R) (N := N) x (IntKind.wrap IntKind.i64 (0 - a))
 obtain ⟨n3, h3⟩ := z2M (R := R) (N := N) x (IntKind.wrap IntKind.i64 (0 - b))
 cases f
 ·refine ⟨?v1, fun k => ?eq1⟩
  case eq1 =>
   rw [q5d]
   unfold q2q
   simp only [u9, w6, u0, o8, j9, w7, J8, h1, h2, h3, cond_false]
   rfl
 ·refine ⟨?v2, fun k => ?eq2⟩
  case eq2 =>
   rw [q5d]
   unfold q2q
   simp only [u9, w6, u0, o8, j9, w7, J8, h1, h2, h3, cond_true, if_pos hc]
   rfl
theorem y58 (l : List C) (hl : 4 ≤ l.length) (hN : 10 < N) : ∃ n : Int, ∀ k : KD R, q1X N (.slice l) k = k [.int n] [] := by
 have hc : (cut l 0 4).length = 4 := by simp [cut]; omega
 have key := q2z (R := R) (F := fun k2 => q15 N k2) 4 (fun i st => ∃ x : Int, st = [.slice (cut l 0 4), .int 4, .int x, .int i]) (fun d => ∃ n : Int, d = [.int n]) ?_ ?_ (N := N) (by omega) (st := [.slice (cut l 0 4), .int 4, .int 0, .int (0 : Nat)]) ⟨0, rfl⟩
 ·obtain ⟨d, ⟨n, rfl⟩, h⟩ := key
  refine ⟨n, fun k => ?_⟩
  rw [q8R]
  unfold q4f
  have h4 : (4 : Int) ≤ (l.length : Int) := by omega
  simp only [w5, hc, h4, u9]
  rw [if_pos ⟨by decide, by decide, trivial⟩]
  exact h _
 ·rintro i st hi ⟨x, rfl⟩
  refine ⟨_, ⟨?x3, rfl⟩, fun k rec => ?eq3⟩
  case eq3 =>
   have h1 : (i : Int) < 4 := by omega
   have h2 : (i : Int) < ((4 : Nat) : Int) := by omega
   unfold q15
   simp only [w6, u0, o8, j9, w7, w5, hc, h1, h2, decide_true, cond_true, Int.natCast_nonneg, and_self, if_true, c9 (show i < 4611686018427387904 by omega)]
   rfl
 ·rintro st ⟨x, rfl⟩
  refine ⟨_, ⟨x, rfl⟩, fun k rec => ?_⟩
  unfold q15
  have h : ¬ ((4 : Nat) : Int) < 4 := by decide
  simp only [w6, u0, o8, j9, w7, h, decide_false, cond_false]
theorem q1H (x m : Int) (hx : 0 ≤ x) (hm : 0 < m) : 0 ≤ Int.tmod x m ∧ Int.tmod x m < m := ⟨Int.tmod_nonneg _ hx, Int.tmod_lt_of_pos _ hm⟩
theorem y5x (s n : C) (w : List C) (hw : w.length = 64) (hN : 100 < N) : ∃ s', ∀ k : KD R, q0m N (.agg [s, .agg w, n]) k = k [.agg [s', .agg w, n]] [] := by
 obtain ⟨d1, ⟨x1, rfl⟩, h1⟩ := q2z (R := R) (F := fun k2 => J1 N k2) 16 (fun i st => ∃ x : C, st = [.int i, .agg [s, .agg w, n], x]) (fun d => ∃ x : C, d = [.agg [s, .agg w, n], x])
  (fun i st hi hst => by
   obtain ⟨x, rfl⟩ := hst
   have e1 : (i : Int) < 16 := by omega
   have e2 : IntKind.i64.wrap (4 * (i : Int)) = 4 * i := wrap_i64 (by omega) (by omega)
   have c1 : 0 ≤ 4 * (i : Int) ∧ 4 * (i : Int) ≤ 64 ∧ Int.ofNat 64 ≤ 64 := ⟨by omega, by omega, by decide⟩
   obtain ⟨v, hv⟩ := y58 (R := R) (N := N) (List.take (64 - 4 * (i : Int)).toNat (List.drop (4 * (i : Int)).toNat w)) (by simp; omega) (by omega)
   refine ⟨_, ⟨?x4, rfl⟩, fun k rec => ?eq4⟩
   case eq4 =>
    unfold J1
    simp only [w6, u0, o8, w7, e1, e2, decide_true, cond_true, Int.natCast_nonneg, and_self, if_true, q5F, q1T, hv, c1, c9 (show i < 4611686018427387904 by omega)]
    rfl)
  (fun st hst => by
   obtain ⟨x, rfl⟩ := hst
   refine ⟨_, ⟨x, rfl⟩, fun k rec => ?_⟩
   unfold J1
   have h : ¬ ((16 : Nat) : Int) < 16 := by decide
   simp only [w6, u0, o8, w7, h, decide_false, cond_false])
  (N := N) (by omega) (st := [.int (0 : Nat), .agg [s, .agg w, n], u7 (.arr 16 (.int .u32))]) ⟨_, rfl⟩
 obtain ⟨st0, hst0⟩ : ∃ x : C, ∀ k : KD R, q16 N k = k [x] [] := ⟨_, fun k => by rw [q7Z]; unfold q3v; rfl⟩
 obtain ⟨d2, ⟨x2, rfl⟩, h2⟩ := q2z (R := R) (F := fun k2 => Y7 N k2) 64 (fun i st => ∃ x y : C, st = [st0, .int i, .agg [s, .agg w, n], x, y]) (fun d => ∃ y : C, d = [.agg [s, .agg w, n], y])
  (fun i st hi hst => by
   obtain ⟨x, y, rfl⟩ := hst
   have e1 : (i : Int) < 64 := by omega
   have r0 := q1H (i : Int) 16 (by omega) (by omega)
   have q1 : IntKind.i64.wrap ((i : Int) + 1) = i + 1 := wrap_i64 (by omega) (by omega)
   have q9 : IntKind.i64.wrap ((i : Int) + 9) = i + 9 := wrap_i64 (by omega) (by omega)
   have q14 : IntKind.i64.wrap ((i : Int) + 14) = i + 14 := wrap_i64 (by omega) (by omega)
   have r1 := q1H ((i : Int) + 1) 16 (by omega) (by omega)
   have r9 := q1H ((i : Int) + 9) 16 (by omega) (by omega)
   have r14 := q1H ((i : Int) + 14) 16 (by omega) (by omega)
   obtain ⟨a1, ha1⟩ := q9r (R := R) (N := N) (C.get y (Int.toNat 4)) 6 11 25 false (by omega)
   obtain ⟨a2, ha2⟩ := q9r (R := R) (N := N) (C.get y (Int.toNat 0)) 2 13 22 false (by omega)
   obtain ⟨a3, ha3⟩ := q9r (R := R) (N := N) (C.get x (Int.toNat (Int.tmod ((i : Int) + 1) 16))) 7 18 3 true (by omega)
   obtain ⟨a4, ha4⟩ := q9r (R := R) (N := N) (C.get x (Int.toNat (Int.tmod ((i : Int) + 14) 16))) 17 19 10 true (by omega)
   have e5 : ((i + 1 : Nat) : Int) = (i : Int) + 1 := by omega
   by_cases e2 : 16 ≤ (i : Int)
   ·refine ⟨_, ⟨?x5, ?y5, rfl⟩, fun k rec => ?eq5⟩
    case eq5 =>
     unfold Y7
     simp only [u9, w6, u0, o8, j9, Y3, q07, q24, w7, e1, e2, q1, q9, q14, r0, r1, r9, r14, decide_true, cond_true, Int.natCast_nonneg, and_self, if_true, ha1, ha2, ha3, ha4, e5]
     rfl
   ·refine ⟨_, ⟨?x6, ?y6, rfl⟩, fun k rec => ?eq6⟩
    case eq6 =>
     unfold Y7
     simp only [u9, w6, u0, o8, j9, Y3, q07, q24, w7, e1, e2, q1, r0, decide_true, decide_false, cond_true, cond_false, Int.natCast_nonneg, and_self, if_true, ha1, ha2, e5]
     rfl)
  (fun st hst => by
   obtain ⟨x, y, rfl⟩ := hst
   refine ⟨_, ⟨y, rfl⟩, fun k rec => ?_⟩
   unfold Y7
   have h : ¬ ((64 : Nat) : Int) < 64 := by decide
   simp only [w6, u0, o8, j9, Y3, w7, h, decide_false, cond_false])
  (N := N) (by omega) (st := [st0, .int (0 : Nat), .agg [s, .agg w, n], x1, s]) ⟨_, _, rfl⟩
 obtain ⟨d3, ⟨x3, rfl⟩, h3⟩ := q2z (R := R) (F := fun k2 => J2 N k2) 8 (fun i st => ∃ x : C, st = [.int i, .agg [x, .agg w, n], x2]) (fun d => ∃ x : C, d = [.agg [x, .agg w, n]])
  (fun i st hi hst => by
   obtain ⟨x, rfl⟩ := hst
   have e1 : (i : Int) < 8 := by omega
   refine ⟨_, ⟨?x7, rfl⟩, fun k rec => ?eq7⟩
   case eq7 =>
    unfold J2
    simp only [w6, u0, o8, w7, e1, decide_true, cond_true, Int.natCast_nonneg, and_self, if_true, q33, c9 (show i < 4611686018427387904 by omega)]
    rfl)
  (fun st hst => by
   obtain ⟨x, rfl⟩ := hst
   refine ⟨_, ⟨x, rfl⟩, fun k rec => ?_⟩
   unfold J2
   have h : ¬ ((8 : Nat) : Int) < 8 := by decide
   simp only [w6, u0, o8, w7, h, decide_false, cond_false])
  (N := N) (by omega) (st := [.int (0 : Nat), .agg [s, .agg w, n], x2]) ⟨_, rfl⟩
 refine ⟨x3, fun k => ?_⟩
 rw [q4g]
 unfold q1j
 simp only [u9]
 refine (h1 _).trans ?_
 simp only [hst0, w6, u0, q2A]
 refine (h2 _).trans ?_
 simp only [w6, u0]
 exact (h3 _).trans rfl
def q5g (m : C) : Prop := ∃ (s : C) (w : List C) (n : Int), m = .agg [s, .agg w, .int n] ∧ w.length = 64 ∧ W64 n
theorem z7C (l : List C) (m : C) (hm : q5g m) (hN : l.length + 100 < N) : ∃ m', q5g m' ∧ ∀ k : KD R, H7 N (.slice l) m k = k [m'] [] := by
 obtain ⟨d, ⟨m', h1, rfl⟩, h⟩ := q9E (R := R) (F := fun k2 => J7 N k2) (fun n st => ∃ (l : List C) (m : C), st = [.slice l, m] ∧ q5g m ∧ l.length ≤ n) (fun d => ∃ m', q5g m' ∧ d = [m'])
  (fun n st hst => by
   obtain ⟨l, m, rfl, ⟨s, w, a, rfl, hw, ha⟩, hl⟩ := hst
   by_cases e : 0 < (l.length : Int)
   ·left
    have r := q1H a 64 ha.1 (by omega)
    generalize hq : Int.tmod a 64 = q at *
    have cw : (F5 w q.toNat (64 - q).toNat l).length = 64 := by rw [q6j (by omega)]; exact hw
    have c1 : 0 < (64 - q).toNat := by omega
    generalize hp : min l.length (64 - q).toNat = p at *
    have c2 : 0 ≤ (p : Int) ∧ (p : Int) ≤ (l.length : Int) ∧ (l.length : Int) ≤ (l.length : Int) := by omega
    have c3 : 0 ≤ q ∧ q ≤ 64 ∧ Int.ofNat 64 ≤ 64 := ⟨r.1, by omega, by decide⟩
    obtain ⟨s', hs'⟩ := y5x (R := R) (N := N) s (.int (IntKind.u64.wrap (a + IntKind.u64.wrap (p : Int)))) _ cw (by omega)
    have wn := q9R (a + IntKind.u64.wrap (p : Int))
    have cl : (cut l (p : Int) (l.length : Int)).length < l.length := by simp [cut]; omega
    by_cases z : Int.tmod (IntKind.u64.wrap (a + IntKind.u64.wrap (p : Int))) 64 = 0
    ·refine ⟨_, (cut l (p : Int) (l.length : Int)).length, by omega, ⟨cut l (p : Int) (l.length : Int), _, rfl, ⟨?s8, _, _, rfl, cw, wn⟩, Nat.le_refl _⟩, fun k rec => ?eq8⟩
     case eq8 =>
      unfold J7
      simp only [u9, w6, u0, w7, w5, q1T, q2A, q5F, q5E, q33, q7u, q7t, e, hq, hp, c1, c2, c3, z, decide_true, cond_true, and_self, if_true, hs']
      rfl
    ·refine ⟨_, (cut l (p : Int) (l.length : Int)).length, by omega, ⟨cut l (p : Int) (l.length : Int), _, rfl, ⟨?s9, _, _, rfl, cw, wn⟩, Nat.le_refl _⟩, fun k rec => ?eq9⟩
     case eq9 =>
      unfold J7
      simp only [u9, w6, u0, w7, w5, q1T, q2A, q5F, q5E, q33, q7u, q7t, e, hq, hp, c1, c2, c3, z, decide_true, decide_false, cond_true, cond_false, and_self, if_true]
      rfl
   ·right
    refine ⟨_, ⟨_, ⟨s, w, a, rfl, hw, ha⟩, rfl⟩, fun k rec => ?_⟩
    unfold J7
    simp only [w6, u0, w5, e, decide_false, cond_false])
  l.length l.length [.slice l, m] N (Nat.le_refl _) ⟨l, m, rfl, hm, Nat.le_refl _⟩ (by omega)
 refine ⟨m', h1, fun k => ?_⟩
 rw [q5k]
 unfold q17
 simp only [u9]
 exact (h _).trans rfl
theorem z8j (l : List C) (m : C) (hm : q5g m) (B : Nat) (hb : ∀ x ∈ l, ∃ y : List C, x = .slice y ∧ y.length ≤ B) (hl : l.length < N) (hN : B + 100 < N) (hN2 : N < 4611686018427387904) : ∃ m', q5g m' ∧ ∀ k : KD R, H3 N (.slice l) m k = k [m'] [] := by
 obtain ⟨d, ⟨m', h1, rfl⟩, h⟩ := q2z (R := R) (F := fun k2 => q0a N k2) l.length (fun i st => ∃ m : C, q5g m ∧ st = [.slice l, .int l.length, .int i, m]) (fun d => ∃ m', q5g m' ∧ d = [m'])
  (fun i st hi hst => by
   obtain ⟨m, hm, rfl⟩ := hst
   have e1 : (i : Int) < (l.length : Int) := by omega
   obtain ⟨y, hy, hyl⟩ := hb _ (q0U hi)
   obtain ⟨m2, h2, h3⟩ := z7C (R := R) (N := N) y m hm (by omega)
   refine ⟨_, ⟨m2, h2, rfl⟩, fun k rec => ?_⟩
   unfold q0a
   simp only [w6, u0, o8, j9, w7, w5, e1, decide_true, cond_true, Int.natCast_nonneg, and_self, if_true, Int.toNat_natCast, hy, h3, c9 (show i < 4611686018427387904 by omega)])
  (fun st hst => by
   obtain ⟨m, hm, rfl⟩ := hst
   refine ⟨_, ⟨m, hm, rfl⟩, fun k rec => ?_⟩
   unfold q0a
   simp only [w6, u0, o8, j9, w7, Int.lt_irrefl, decide_false, cond_false])
  (N := N) (by omega) (st := [.slice l, .int l.length, .int (0 : Nat), m]) ⟨m, hm, rfl⟩
 refine ⟨m', h1, fun k => ?_⟩
 rw [q4i]
 unfold q1k
 simp only [u9, w5]
 exact (h _).trans rfl
def Dig (c : C) : Prop := ∃ l : List C, c = .agg l ∧ l.length = 32
theorem z4d (n : C) : ∃ x : List C, x.length = 4 ∧ ∀ k : KD R, q0G N n k = k [.slice x] [] :=
 ⟨[C.int (IntKind.wrap IntKind.u8 (Int.fdiv (C.toInt n) (2 ^ min (Int.toNat 24) 32))), C.int (IntKind.wrap IntKind.u8 (Int.fdiv (C.toInt n) (2 ^ min (Int.toNat 16) 32))), C.int (IntKind.wrap IntKind.u8 (Int.fdiv (C.toInt n) (2 ^ min (Int.toNat 8) 32))), C.int (IntKind.wrap IntKind.u8 (C.toInt n))], rfl, fun k => by rw [q8U]; unfold q20; rfl⟩
theorem y8L (m : C) (hm : q5g m) (hN : 1000 < N) : ∃ c, Dig c ∧ ∀ k : KD R, q0M N m k = k [c, m] [] := by
 obtain ⟨s, w, a, rfl, hw, ha⟩ := hm
 have r := q1H (IntKind.u64.wrap (a + 8)) 64 (q9R _).1 (by omega)
 generalize hq : Int.tmod (IntKind.u64.wrap (a + 8)) 64 = q at r
 have e1 : IntKind.u64.wrap (64 - q) = 64 - q := wrap_u64 (by omega) (by omega)
 obtain ⟨m1, hm1, h1⟩ := z7C (R := R) (N := N) (List.take (64 - q).toNat (List.drop 0 (List.set (List.replicate (64 - q).toNat (u7 (Ty.int IntKind.u8))) 0 (C.int 128)))) (.agg [s, .agg w, .int a]) ⟨s, w, a, rfl, hw, ha⟩ (by simp; omega)
 obtain ⟨f1, hf1, g1⟩ := z4d (R := R) (N := N) (C.int (IntKind.wrap IntKind.u32 (Int.fdiv (IntKind.wrap IntKind.u64 (a * 8)) (2 ^ min (Int.toNat 32) 64))))
 obtain ⟨f2, hf2, g2⟩ := z4d (R := R) (N := N) (C.int (IntKind.wrap IntKind.u32 (IntKind.wrap IntKind.u64 (a * 8))))
 obtain ⟨m2, hm2, h2⟩ := z7C (R := R) (N := N) (f1 ++ f2) m1 hm1 (by simp; omega)
 obtain ⟨d, ⟨z, hz, rfl⟩, h3⟩ := q2z (R := R) (F := fun k2 => q0b N k2) 8 (fun i st => ∃ z : C, Dig z ∧ st = [m2.get 0, .int i, .agg [s, .agg w, .int a], u7 (.arr 32 (.int .u8)), z]) (fun d => ∃ z, Dig z ∧ d = [.agg [s, .agg w, .int a], u7 (.arr 32 (.int .u8)), z])
  (fun i st hi hst => by
   obtain ⟨z, ⟨zl, rfl, hzl⟩, rfl⟩ := hst
   have e1 : (i : Int) < 8 := by omega
   have e2 : IntKind.i64.wrap (4 * (i : Int)) = 4 * i := wrap_i64 (by omega) (by omega)
   obtain ⟨f, hf, g⟩ := z4d (R := R) (N := N) (C.get (m2.get 0) i)
   have c1 : 0 < (32 - 4 * (i : Int)).toNat := by omega
   refine ⟨_, ⟨_, ⟨_, rfl, by rw [q6j (cs := zl) (lo := (4 * (i : Int)).toNat) (n := (32 - 4 * (i : Int)).toNat) (ys := f) (by omega)]; exact hzl⟩, rfl⟩, fun k rec => ?_⟩
   unfold q0b
   have c2 : 0 ≤ 4 * (i : Int) ∧ 4 * (i : Int) ≤ 32 ∧ Int.ofNat 32 ≤ 32 := ⟨by omega, by omega, by decide⟩
   simp only [w6, u0, o8, j9, Y3, w7, w5, q1T, e1, e2, c1, c2, decide_true, cond_true, Int.natCast_nonneg, and_self, if_true, Int.toNat_natCast, g, c9 (show i < 4611686018427387904 by omega)])
  (fun st hst => by
   obtain ⟨z, hz, rfl⟩ := hst
   refine ⟨_, ⟨z, hz, rfl⟩, fun k rec => ?_⟩
   unfold q0b
   have h : ¬ ((8 : Nat) : Int) < 8 := by decide
   simp only [w6, u0, o8, j9, Y3, w7, h, decide_false, cond_false])
  (N := N) (by omega) (st := [m2.get 0, .int (0 : Nat), .agg [s, .agg w, .int a], u7 (.arr 32 (.int .u8)), u7 (.arr 32 (.int .u8))]) ⟨_, ⟨_, rfl, by decide⟩, rfl⟩
 refine ⟨z, hz, fun k => ?_⟩
 rw [q5m]
 unfold q18
 simp only [q5E, w7, hq, e1]
 rw [if_pos (by omega), if_pos (by constructor <;> simp <;> omega), h1]
 simp only [w6, g1, g2, w5, Nat.beq_refl, cond_true, hf1, hf2]
 rw [if_pos (by omega), h2]
 simp only [u9, w6]
 exact (h3 _).trans rfl
theorem y9H (a0 : C) (l : List C) (B : Nat) (hb : ∀ x ∈ l, ∃ y : List C, x = .slice y ∧ y.length ≤ B) (hl : l.length + 1000 < N) (hN : B + 1000 < N) (hN2 : N < 4611686018427387904) : ∃ c, Dig c ∧ ∀ k : KD R, q3i N a0 (.slice l) k = k [c] [] := by
 obtain ⟨m0, hm0, h0⟩ : ∃ m, q5g m ∧ ∀ k : KD R, q3h N k = k [m] [] := ⟨_, ⟨_, List.replicate 64 (.int 0), 0, by rfl, by simp, by unfold W64; omega⟩, fun k => by rw [q93]; unfold q42; rfl⟩
 obtain ⟨m1, hm1, h1⟩ := z8j (R := R) (N := N) [C.slice [a0, C.int (IntKind.wrap IntKind.u8 (l.length : Int))]] m0 hm0 10 (fun x hx => ⟨_, List.mem_singleton.1 hx, by simp⟩) (by simp; omega) (by omega) hN2
 obtain ⟨d, ⟨m2, hm2, rfl⟩, h2⟩ := q2z (R := R) (F := fun k2 => q2E N k2) l.length (fun i st => ∃ m : C, q5g m ∧ st = [.slice l, .int l.length, .int i, u7 (.arr 32 (.int .u8)), m]) (fun d => ∃ m', q5g m' ∧ d = [u7 (.arr 32 (.int .u8)), m'])
  (fun i st hi hst => by
   obtain ⟨m, hm, rfl⟩ := hst
   have e1 : (i : Int) < (l.length : Int) := by omega
   obtain ⟨y, hy, hyl⟩ := hb _ (q0U hi)
   obtain ⟨f, hf, g⟩ := z4d (R := R) (N := N) (C.int (IntKind.wrap IntKind.u32 (y.length : Int)))
   obtain ⟨m2, h2, h3⟩ := z8j (R := R) (N := N) [C.slice f, C.slice y] m hm (B + 4) (fun x hx => by
    simp only [List.mem_cons, List.not_mem_nil, or_false] at hx
    rcases hx with rfl | rfl
    ·exact ⟨_, rfl, by omega⟩
    ·exact ⟨_, rfl, by omega⟩) (by simp; omega) (by omega) hN2
   refine ⟨_, ⟨m2, h2, rfl⟩, fun k rec => ?_⟩
   unfold q2E
   simp only [w6, u0, o8, j9, Y3, w7, w5, e1, decide_true, cond_true, Int.natCast_nonneg, and_self, if_true, Int.toNat_natCast, hy, g, h3, c9 (show i < 4611686018427387904 by omega)])
  (fun st hst => by
   obtain ⟨m, hm, rfl⟩ := hst
   refine ⟨_, ⟨m, hm, rfl⟩, fun k rec => ?_⟩
   unfold q2E
   simp only [w6, u0, o8, j9, Y3, w7, Int.lt_irrefl, decide_false, cond_false])
  (N := N) (by omega) (st := [.slice l, .int l.length, .int (0 : Nat), u7 (.arr 32 (.int .u8)), m1]) ⟨m1, hm1, rfl⟩
 obtain ⟨c, hc, h3⟩ := y8L (R := R) (N := N) m2 hm2 (by omega)
 refine ⟨c, hc, fun k => ?_⟩
 rw [q94]
 unfold q43
 simp only [h0, w6, w5, h1, u9]
 refine (h2 _).trans ?_
 simp only [u0, h3, w6]
end Go.Proofs.Yteaddgnjddjllaa
namespace Go.Proofs.Yteaddgnjddjllaa
open Go Go.E
set_option maxRecDepth 100000
set_option maxHeartbeats 4000000
set_option linter.unusedVariables false
noncomputable def y0V : Hints := [([9], ⟨[], [(2, .as (.ptr (.l 2) [] (.arr 32 (.int .u8))))], [], [(.l 2, .box (.d (.arr 32 (.int .u8))))], [], []⟩)]
noncomputable def z3h (N : Nat) : OvS (X0 gl0) where
 g R := [(22, z1n N)]
 ok := fun R => List.forall_mem_cons.2 ⟨y2g N, fun _ h => nomatch h⟩
noncomputable def q4k {R : Type} (N : Nat) (a0 : C) (k1 : KD R) : Option R := (q3i N (C.int 6) (C.slice [C.slice (cut (C.elems a0) 0 32)]) (fun d1 m1 => (k1 [dk d1 0] [])))
noncomputable def q1b {R : Type} (N : Nat) : C → KD R → Option R := lid "" (q4k N)
theorem q80 {R : Type} (N : Nat) (a0 : C) (k : KD R) : q1b N a0 k = q4k N a0 k := by unfold q1b; rw [Z9]
theorem z9u {R : Type} (N : Nat) (a0 : C) (K : V → List (Key × O) → Option R) : exF (X0 gl0) ((z3h N).ov R) F0 (fun f r => bif Nat.beq f 6 then (bif Nat.beq r 0 then [(1, 5)] else []) else []) (fun f => bif Nat.beq f 6 then y0V else []) N 400 8 6 [.d (.arr 32 (.int .u8)) a0] A0 K =
  q1b N a0 (fun d1 m1 => K (V.d (Ty.arr 32 (Ty.int IntKind.u8)) (dk d1 0)) []) := by
 rw [q80]
 exact (show _ = jn (fun d1 m1 => (K (V.d (Ty.arr 32 (Ty.int IntKind.u8)) (dk d1 0)) [])) (q4k N a0) by kernel_rfl).trans (u9 _ _)
noncomputable def q7c (N : Nat) {R : Type} : OvG R := fun xs _ K => match xs with
 | [.d t0 a0] => if t0 = (.arr 32 (.int .u8)) then q1b N a0 (fun d1 m1 => K (V.d (Ty.arr 32 (Ty.int IntKind.u8)) (dk d1 0)) []) else none
 | _ => none
theorem z3i (N : Nat) {R : Type} : GOk (X0 gl0) 6 (q7c N (R := R)) := by
 intro xs A Kr r hr
 unfold q7c at hr
 split at hr
 ·simp only [Option.ite_none_right_eq_some] at hr
  obtain ⟨hty, hr⟩ := hr
  subst hty
  rw [← z9u] at hr
  exact okA (z3h N) hr
 ·cases hr
def q2Y : List Sh := [.as (.ptr (.g (.l 1)) [] Q0), .d (.arr 32 (.int .u8)), .d (.int .u64)]
def q5A : List (Key × OSh) := [(.l 1, .box (.agg Q0 [.as (.mp (.g (.l 2)))])), (.l 2, .map (.arr 32 (.int .u8)) z7)]
noncomputable def z0C : Hints := [([9], ⟨[], [(6, .d (.int .i64))], [.g (.l 1), .g (.l 2)], [], [], []⟩)]
noncomputable def q5z (N : Nat) : OvS (X0 gl0) where
 g R := [(6, q7c N)]
 ok := fun R => List.forall_mem_cons.2 ⟨z3i N, fun _ h => nomatch h⟩
noncomputable def q0z {R : Type} (N : Nat) (a0 a1 a2 b0 : C) (m0 : Es) (k1 : KD R) : Option R := (q1b N a0 (fun d1 m1 => (bif q0E z7 (dE z7 m0) then (bif q9a (dE z7 m0) (dk d1 0) then (if X4 z7 (dE z7 m0) = true then (k1 [C.int 7] [unE (dE z7 m0)]) else none) else (if X4 z7 (q9z (dE z7 (dm [m0] 0)) (dk d1 0) (V.d z7 (C.set (C.set (C.agg [C.agg (List.replicate 32 (C.int 0)), C.int 0]) 0 a0) 1 a1))) = true then (k1 [C.int 0] [unE (q9z (dE z7 (dm [m0] 0)) (dk d1 0) (V.d z7 (C.set (C.set (C.agg [C.agg (List.replicate 32 (C.int 0)), C.int 0]) 0 a0) 1 a1)))]) else none)) else none)))
noncomputable def X8 {R : Type} (N : Nat) : C → C → C → C → Es → KD R → Option R := lid "" (q0z N)
theorem q2X {R : Type} (N : Nat) (a0 a1 a2 b0 : C) (m0 : Es) (k : KD R) : X8 N a0 a1 a2 b0 m0 k = q0z N a0 a1 a2 b0 m0 k := by unfold X8; rw [Z9]
theorem q91 {R : Type} (N : Nat) (a0 a1 a2 b0 : C) (m0 : Es) (K : V → List (Key × O) → Option R) : exF (X0 gl0) ((q5z N).ov R) F0 (fun f r => bif Nat.beq f 8 then (bif Nat.beq r 0 then [(4, 5)] else bif Nat.beq r 4 then [(7, 6)] else bif Nat.beq r 7 then [(7, 6)] else []) else []) (fun f => bif Nat.beq f 8 then z0C else []) N 400 8 8 (Sh.U1 q2Y 0 [a0, a1, a2, b0]) (y7 (u5 q5A (Sh.q0n q2Y) 0 [a0, a1, a2, b0] [m0])) K =
  X8 N a0 a1 a2 b0 m0 (fun d1 m1 => K (V.d (Ty.int IntKind.i64) (dk d1 0)) [(Key.g (Key.l 1), O.box (V.agg Q0 [V.mp (Key.g (Key.l 2))])),
 (Key.g (Key.l 2), O.map (Ty.arr 32 (Ty.int IntKind.u8)) z7 (dE z7 (dm m1 0)))]) := by
 rw [q2X]
 exact (show _ = jn (fun d1 m1 => (K (V.d (Ty.int IntKind.i64) (dk d1 0)) [(Key.g (Key.l 1), O.box (V.agg Q0 [V.mp (Key.g (Key.l 2))])),
 (Key.g (Key.l 2), O.map (Ty.arr 32 (Ty.int IntKind.u8)) z7 (dE z7 (dm m1 0)))])) (q0z N a0 a1 a2 b0 m0) by kernel_rfl).trans (u9 _ _)
noncomputable def q1P (N : Nat) {R : Type} : OvG R := q4Q q2Y q5A fun ds ms K => X8 N (dk ds 0) (dk ds 1) (dk ds 2) (dk ds 3) (dm ms 0) (fun d1 m1 => K (V.d (Ty.int IntKind.i64) (dk d1 0)) [(Key.g (Key.l 1), O.box (V.agg Q0 [V.mp (Key.g (Key.l 2))])),
 (Key.g (Key.l 2), O.map (Ty.arr 32 (Ty.int IntKind.u8)) z7 (dE z7 (dm m1 0)))])
theorem q5B (N : Nat) {R : Type} : GOk (X0 gl0) 8 (q1P N (R := R)) := by
 unfold q1P
 refine q1r fun ds ms K r hr => ?_
 rw [← q91] at hr
 exact okB (q5z N) hr
def q2W : List Sh := [.as (.ptr (.g (.l 1)) [] Q0), .d (.arr 32 (.int .u8))]
def q5x : List (Key × OSh) := [(.l 1, .box (.agg Q0 [.as (.mp (.g (.l 2)))])), (.l 2, .map (.arr 32 (.int .u8)) z7)]
noncomputable def z0B : Hints := [([9], ⟨[], [(4, .d (.int .u64)), (5, .d .bool)], [], [], [.g (.l 1), .g (.l 2)], []⟩)]
noncomputable def q5w (N : Nat) : OvS (X0 gl0) where
 g R := []
 ok := fun R => fun _ h => nomatch h
noncomputable def q1s {R : Type} (N : Nat) (a0 a1 b0 : C) (m0 : Es) (k1 : KD R) : Option R := (bif q0E z7 (dE z7 m0) then (bif q9a (dE z7 m0) a0 then (k1 [C.get (z3u (dE z7 m0) a0) 1, C.bool true] []) else (k1 [C.int 0, C.bool false] [])) else none)
noncomputable def J6 {R : Type} (N : Nat) : C → C → C → Es → KD R → Option R := lid "" (q1s N)
theorem q5v {R : Type} (N : Nat) (a0 a1 b0 : C) (m0 : Es) (k : KD R) : J6 N a0 a1 b0 m0 k = q1s N a0 a1 b0 m0 k := by unfold J6; rw [Z9]
theorem q90 {R : Type} (N : Nat) (a0 a1 b0 : C) (m0 : Es) (K : V → List (Key × O) → Option R) : exF (X0 gl0) ((q5w N).ov R) F0 (fun f r => bif Nat.beq f 7 then (bif Nat.beq r 0 then [(3, 5)] else []) else []) (fun f => bif Nat.beq f 7 then z0B else []) N 400 8 7 (Sh.U1 q2W 0 [a0, a1, b0]) (y7 (u5 q5x (Sh.q0n q2W) 0 [a0, a1, b0] [m0])) K =
  J6 N a0 a1 b0 m0 (fun d1 m1 => K (V.tup [V.d (Ty.int IntKind.u64) (dk d1 0), V.d Ty.bool (C.bool (C.toBool (dk d1 1)))]) []) := by
 rw [q5v]
 exact (show _ = jn (fun d1 m1 => (K (V.tup [V.d (Ty.int IntKind.u64) (dk d1 0), V.d Ty.bool (C.bool (C.toBool (dk d1 1)))]) [])) (q1s N a0 a1 b0 m0) by kernel_rfl).trans (u9 _ _)
noncomputable def q1O (N : Nat) {R : Type} : OvG R := q4Q q2W q5x fun ds ms K => J6 N (dk ds 0) (dk ds 1) (dk ds 2) (dm ms 0) (fun d1 m1 => K (V.tup [V.d (Ty.int IntKind.u64) (dk d1 0), V.d Ty.bool (C.bool (C.toBool (dk d1 1)))]) [])
theorem q5y (N : Nat) {R : Type} : GOk (X0 gl0) 7 (q1O N (R := R)) := by
 unfold q1O
 refine q1r fun ds ms K r hr => ?_
 rw [← q90] at hr
 exact okB (q5w N) hr
def q3S : List Sh := [.as (.ptr (.g (.l 1)) [] Q0), .d (.arr 32 (.int .u8)), .d (.int .u64)]
def q6z : List (Key × OSh) := [(.l 1, .box (.agg Q0 [.as (.mp (.g (.l 2)))])), (.l 2, .map (.arr 32 (.int .u8)) z7)]
noncomputable def z2n : Hints := [([0, 1, 1], ⟨[0], [(6, .d .bool)], [], [], [.g (.l 1), .g (.l 2)], []⟩),
  ([9], ⟨[], [(6, .d .bool)], [], [], [.g (.l 1), .g (.l 2)], []⟩)]
noncomputable def q6y (N : Nat) : OvS (X0 gl0) where
 g R := [(7, q1O N)]
 ok := fun R => List.forall_mem_cons.2 ⟨q5y N, fun _ h => nomatch h⟩
noncomputable def q2h {R : Type} (N : Nat) (a0 a1 a2 b0 : C) (m0 : Es) (k1 : KD R) : Option R := (if X4 z7 (List.map (fun c => (Prod.fst c, V.ren (swU (Key.l 2) (x8 (if Key.l 1 = x8 [] (Key.g (Key.l 1)) then [] else [] ++ [(Key.l 1, x8 [] (Key.g (Key.l 1)))]) (Key.g (Key.l 2)))) id (Prod.snd c))) (List.map (fun c => (Prod.fst c, V.ren (swU (Key.l 1) (x8 [] (Key.g (Key.l 1)))) id (Prod.snd c))) (List.map (fun c => (Prod.fst c, V.ren Key.g id (Prod.snd c))) (dE z7 m0)))) = true then (J6 N a0 C.nil C.nil (unE (List.map (fun c => (Prod.fst c, V.ren (swU (Key.l 2) (x8 (if Key.l 1 = x8 [] (Key.g (Key.l 1)) then [] else [] ++ [(Key.l 1, x8 [] (Key.g (Key.l 1)))]) (Key.g (Key.l 2)))) id (Prod.snd c))) (List.map (fun c => (Prod.fst c, V.ren (swU (Key.l 1) (x8 [] (Key.g (Key.l 1)))) id (Prod.snd c))) (List.map (fun c => (Prod.fst c, V.ren Key.g id (Prod.snd c))) (dE z7 m0))))) (fun d1 m1 => (jn (fun d2 m2 => (k1 [C.bool (C.toBool (dk d2 0))] [])) (fun k2 => (bif C.toBool (dk d1 1) then (k2 [C.bool (decide (C.toInt (dk d1 0) ≤ C.toInt a1))] []) else (k2 [C.bool false] [])))))) else none)
noncomputable def F9 {R : Type} (N : Nat) : C → C → C → C → Es → KD R → Option R := lid "" (q2h N)
theorem q6x {R : Type} (N : Nat) (a0 a1 a2 b0 : C) (m0 : Es) (k : KD R) : F9 N a0 a1 a2 b0 m0 k = q2h N a0 a1 a2 b0 m0 k := by unfold F9; rw [Z9]
theorem z1j {R : Type} (N : Nat) (a0 a1 a2 b0 : C) (m0 : Es) (K : V → List (Key × O) → Option R) : exF (X0 gl0) ((q6y N).ov R) F0 (fun f r => bif Nat.beq f 13 then (bif Nat.beq r 0 then [(4, 5)] else []) else []) (fun f => bif Nat.beq f 13 then z2n else []) N 400 8 13 (Sh.U1 q3S 0 [a0, a1, a2, b0]) (y7 (u5 q6z (Sh.q0n q3S) 0 [a0, a1, a2, b0] [m0])) K =
  F9 N a0 a1 a2 b0 m0 (fun d1 m1 => K (V.d Ty.bool (C.bool (C.toBool (dk d1 0)))) []) := by
 rw [q6x]
 exact (show _ = jn (fun d1 m1 => (K (V.d Ty.bool (C.bool (C.toBool (dk d1 0)))) [])) (q2h N a0 a1 a2 b0 m0) by kernel_rfl).trans (u9 _ _)
noncomputable def q2y (N : Nat) {R : Type} : OvG R := q4Q q3S q6z fun ds ms K => F9 N (dk ds 0) (dk ds 1) (dk ds 2) (dk ds 3) (dm ms 0) (fun d1 m1 => K (V.d Ty.bool (C.bool (C.toBool (dk d1 0)))) [])
theorem q6A (N : Nat) {R : Type} : GOk (X0 gl0) 13 (q2y N (R := R)) := by
 unfold q2y
 refine q1r fun ds ms K r hr => ?_
 rw [← z1j] at hr
 exact okB (q6y N) hr
def q3R : List Sh := [.as (.ptr (.g (.l 1)) [] Q0), .d Y0, .d (.int .u64)]
def q6w : List (Key × OSh) := [(.l 1, .box (.agg Q0 [.as (.mp (.g (.l 2)))])), (.l 2, .map (.arr 32 (.int .u8)) z7)]
noncomputable def z2m : Hints := [([9], ⟨[], [(6, .d (.int .i64))], [], [], [.g (.l 1), .g (.l 2)], []⟩)]
noncomputable def q6v (N : Nat) : OvS (X0 gl0) where
 g R := [(13, q2y N)]
 ok := fun R => List.forall_mem_cons.2 ⟨q6A N, fun _ h => nomatch h⟩
noncomputable def q2g {R : Type} (N : Nat) (a0 a1 b0 : C) (m0 : Es) (k1 : KD R) : Option R := (if X4 z7 (List.map (fun c => (Prod.fst c, V.ren (swU (Key.l 2) (x8 (if Key.l 1 = x8 [] (Key.g (Key.l 1)) then [] else [] ++ [(Key.l 1, x8 [] (Key.g (Key.l 1)))]) (Key.g (Key.l 2)))) id (Prod.snd c))) (List.map (fun c => (Prod.fst c, V.ren (swU (Key.l 1) (x8 [] (Key.g (Key.l 1)))) id (Prod.snd c))) (List.map (fun c => (Prod.fst c, V.ren Key.g id (Prod.snd c))) (dE z7 m0)))) = true then (F9 N (C.get a0 3) (C.get a0 4) C.nil C.nil (unE (List.map (fun c => (Prod.fst c, V.ren (swU (Key.l 2) (x8 (if Key.l 1 = x8 [] (Key.g (Key.l 1)) then [] else [] ++ [(Key.l 1, x8 [] (Key.g (Key.l 1)))]) (Key.g (Key.l 2)))) id (Prod.snd c))) (List.map (fun c => (Prod.fst c, V.ren (swU (Key.l 1) (x8 [] (Key.g (Key.l 1)))) id (Prod.snd c))) (List.map (fun c => (Prod.fst c, V.ren Key.g id (Prod.snd c))) (dE z7 m0))))) (fun d1 m1 => (bif C.toBool (dk d1 0) then (k1 [C.int 1] []) else (bif decide (C.toInt (C.get a0 4) < C.toInt a1) then (k1 [C.int 2] []) else (k1 [C.int 0] []))))) else none)
noncomputable def X9 {R : Type} (N : Nat) : C → C → C → Es → KD R → Option R := lid "" (q2g N)
theorem q6u {R : Type} (N : Nat) (a0 a1 b0 : C) (m0 : Es) (k : KD R) : X9 N a0 a1 b0 m0 k = q2g N a0 a1 b0 m0 k := by unfold X9; rw [Z9]
theorem z1i {R : Type} (N : Nat) (a0 a1 b0 : C) (m0 : Es) (K : V → List (Key × O) → Option R) : exF (X0 gl0) ((q6v N).ov R) F0 (fun f r => bif Nat.beq f 21 then (bif Nat.beq r 0 then [(4, 5)] else []) else []) (fun f => bif Nat.beq f 21 then z2m else []) N 400 8 21 (Sh.U1 q3R 0 [a0, a1, b0]) (y7 (u5 q6w (Sh.q0n q3R) 0 [a0, a1, b0] [m0])) K =
  X9 N a0 a1 b0 m0 (fun d1 m1 => K (V.d (Ty.int IntKind.i64) (dk d1 0)) []) := by
 rw [q6u]
 exact (show _ = jn (fun d1 m1 => (K (V.d (Ty.int IntKind.i64) (dk d1 0)) [])) (q2g N a0 a1 b0 m0) by kernel_rfl).trans (u9 _ _)
noncomputable def q1i (N : Nat) {R : Type} : OvG R := q4Q q3R q6w fun ds ms K => X9 N (dk ds 0) (dk ds 1) (dk ds 2) (dm ms 0) (fun d1 m1 => K (V.d (Ty.int IntKind.i64) (dk d1 0)) [])
theorem q3Q (N : Nat) {R : Type} : GOk (X0 gl0) 21 (q1i N (R := R)) := by
 unfold q1i
 refine q1r fun ds ms K r hr => ?_
 rw [← z1i] at hr
 exact okB (q6v N) hr
noncomputable def z7N : Hints := [([0, 1, 1, 1, 1], ⟨[], [(0, .d .bool)], [], [], [], []⟩),
  ([9], ⟨[], [(0, .d .bool)], [], [], [], []⟩)]
noncomputable def z0H (N : Nat) : OvS (X0 gl0) where
 g R := [(6, q7c N), (8, q1P N), (21, q1i N)]
 ok := fun R => List.forall_mem_cons.2 ⟨z3i N, List.forall_mem_cons.2 ⟨q5B N, List.forall_mem_cons.2 ⟨q3Q N, fun _ h => nomatch h⟩⟩⟩
noncomputable def q4E {R : Type} (N : Nat) (k1 : KD R) : Option R := (X8 N (C.set (u7 (Ty.arr 32 (Ty.int IntKind.u8))) 0 (C.int 1)) (C.int 6) C.nil C.nil (unE []) (fun d1 m1 => (q1b N (C.set (u7 (Ty.arr 32 (Ty.int IntKind.u8))) 0 (C.int 1)) (fun d2 m2 => (jn (fun d3 m3 => (k1 [C.bool (C.toBool (dk d3 0))] [])) (fun k2 => (bif decide (C.toInt (dk d1 0) = 0) then (if X4 z7 (List.map (fun c => (Prod.fst c, V.ren (swU (Key.l 2) (x8 (if Key.l 1 = x8 [] (Key.l 5003) then [] else [] ++ [(Key.l 1, x8 [] (Key.l 5003))]) (Key.l 5001))) id (Prod.snd c))) (List.map (fun c => (Prod.fst c, V.ren (swU (Key.l 1) (x8 [] (Key.l 5003))) id (Prod.snd c))) (List.map (fun c => (Prod.fst c, V.ren Key.g id (Prod.snd c))) (List.map (fun c => (Prod.fst c, V.ren (dn (p8 { dst := some 7, op := Op.call { callee := Callee.value (Operand.func 8), args := #[Operand.tmp 5, Operand.tmp 6, Operand.const (Value.int IntKind.u64 6)], argTypes := #[24, 28, 23] }, type := 31, pos := "law.go:31", after := #[{ on := 0, ground := Ground.data }, { on := 1, ground := Ground.data }], guard := none })) id (Prod.snd c))) (List.map (fun c => (Prod.fst c, V.ren (swU (Key.l 1) (x8 [] (Key.l 5003))) id (Prod.snd c))) (List.map (fun c => (Prod.fst c, V.ren (swU (Key.l 2) (x8 (if Key.l 1 = x8 [] (Key.l 5003) then [] else [] ++ [(Key.l 1, x8 [] (Key.l 5003))]) (Key.l 5001))) id (Prod.snd c))) (dE z7 (dm m1 0)))))))) = true then (X9 N (C.set (C.set (C.agg [C.int 0, C.int 0, C.int 0, C.agg (List.replicate 32 (C.int 0)), C.int 0]) 3 (dk d2 0)) 4 (C.int 5)) (C.int 5) C.nil (unE (List.map (fun c => (Prod.fst c, V.ren (swU (Key.l 2) (x8 (if Key.l 1 = x8 [] (Key.l 5003) then [] else [] ++ [(Key.l 1, x8 [] (Key.l 5003))]) (Key.l 5001))) id (Prod.snd c))) (List.map (fun c => (Prod.fst c, V.ren (swU (Key.l 1) (x8 [] (Key.l 5003))) id (Prod.snd c))) (List.map (fun c => (Prod.fst c, V.ren Key.g id (Prod.snd c))) (List.map (fun c => (Prod.fst c, V.ren (dn (p8 { dst := some 7, op := Op.call { callee := Callee.value (Operand.func 8), args := #[Operand.tmp 5, Operand.tmp 6, Operand.const (Value.int IntKind.u64 6)], argTypes := #[24, 28, 23] }, type := 31, pos := "law.go:31", after := #[{ on := 0, ground := Ground.data }, { on := 1, ground := Ground.data }], guard := none })) id (Prod.snd c))) (List.map (fun c => (Prod.fst c, V.ren (swU (Key.l 1) (x8 [] (Key.l 5003))) id (Prod.snd c))) (List.map (fun c => (Prod.fst c, V.ren (swU (Key.l 2) (x8 (if Key.l 1 = x8 [] (Key.l 5003) then [] else [] ++ [(Key.l 1, x8 [] (Key.l 5003))]) (Key.l 5001))) id (Prod.snd c))) (dE z7 (dm m1 0))))))))) (fun d3 m3 => (bif decide (C.toInt (dk d3 0) = 0) then (if X4 z7 (List.map (fun c => (Prod.fst c, V.ren (swU (Key.l 2) (x8 (if Key.l 1 = x8 [] (Key.l 5003) then [] else [] ++ [(Key.l 1, x8 [] (Key.l 5003))]) (Key.l 5001))) id (Prod.snd c))) (List.map (fun c => (Prod.fst c, V.ren (swU (Key.l 1) (x8 [] (Key.l 5003))) id (Prod.snd c))) (List.map (fun c => (Prod.fst c, V.ren Key.g id (Prod.snd c))) (List.map (fun c => (Prod.fst c, V.ren (dn (p8 { dst := some 7, op := Op.call { callee := Callee.value (Operand.func 8), args := #[Operand.tmp 5, Operand.tmp 6, Operand.const (Value.int IntKind.u64 6)], argTypes := #[24, 28, 23] }, type := 31, pos := "law.go:31", after := #[{ on := 0, ground := Ground.data }, { on := 1, ground := Ground.data }], guard := none })) id (Prod.snd c))) (List.map (fun c => (Prod.fst c, V.ren (swU (Key.l 1) (x8 [] (Key.l 5003))) id (Prod.snd c))) (List.map (fun c => (Prod.fst c, V.ren (swU (Key.l 2) (x8 (if Key.l 1 = x8 [] (Key.l 5003) then [] else [] ++ [(Key.l 1, x8 [] (Key.l 5003))]) (Key.l 5001))) id (Prod.snd c))) (dE z7 (dm m1 0)))))))) = true then (X9 N (C.set (C.set (C.agg [C.int 0, C.int 0, C.int 0, C.agg (List.replicate 32 (C.int 0)), C.int 0]) 3 (dk d2 0)) 4 (C.int 5)) (C.int 6) C.nil (unE (List.map (fun c => (Prod.fst c, V.ren (swU (Key.l 2) (x8 (if Key.l 1 = x8 [] (Key.l 5003) then [] else [] ++ [(Key.l 1, x8 [] (Key.l 5003))]) (Key.l 5001))) id (Prod.snd c))) (List.map (fun c => (Prod.fst c, V.ren (swU (Key.l 1) (x8 [] (Key.l 5003))) id (Prod.snd c))) (List.map (fun c => (Prod.fst c, V.ren Key.g id (Prod.snd c))) (List.map (fun c => (Prod.fst c, V.ren (dn (p8 { dst := some 7, op := Op.call { callee := Callee.value (Operand.func 8), args := #[Operand.tmp 5, Operand.tmp 6, Operand.const (Value.int IntKind.u64 6)], argTypes := #[24, 28, 23] }, type := 31, pos := "law.go:31", after := #[{ on := 0, ground := Ground.data }, { on := 1, ground := Ground.data }], guard := none })) id (Prod.snd c))) (List.map (fun c => (Prod.fst c, V.ren (swU (Key.l 1) (x8 [] (Key.l 5003))) id (Prod.snd c))) (List.map (fun c => (Prod.fst c, V.ren (swU (Key.l 2) (x8 (if Key.l 1 = x8 [] (Key.l 5003) then [] else [] ++ [(Key.l 1, x8 [] (Key.l 5003))]) (Key.l 5001))) id (Prod.snd c))) (dE z7 (dm m1 0))))))))) (fun d4 m4 => (bif decide (C.toInt (dk d4 0) = 2) then (if List.length (List.map (fun c => (Prod.fst c, V.ren Key.g id (Prod.snd c))) (List.map (fun c => (Prod.fst c, V.ren (dn (p8 { dst := some 7, op := Op.call { callee := Callee.value (Operand.func 8), args := #[Operand.tmp 5, Operand.tmp 6, Operand.const (Value.int IntKind.u64 6)], argTypes := #[24, 28, 23] }, type := 31, pos := "law.go:31", after := #[{ on := 0, ground := Ground.data }, { on := 1, ground := Ground.data }], guard := none })) id (Prod.snd c))) (List.map (fun c => (Prod.fst c, V.ren (swU (Key.l 1) (x8 [] (Key.l 5003))) id (Prod.snd c))) (List.map (fun c => (Prod.fst c, V.ren (swU (Key.l 2) (x8 (if Key.l 1 = x8 [] (Key.l 5003) then [] else [] ++ [(Key.l 1, x8 [] (Key.l 5003))]) (Key.l 5001))) id (Prod.snd c))) (dE z7 (dm m1 0)))))) ≤ 9223372036854775807 then (k2 [C.bool (decide ((↑(List.length (List.map (fun c => (Prod.fst c, V.ren Key.g id (Prod.snd c))) (List.map (fun c => (Prod.fst c, V.ren (dn (p8 { dst := some 7, op := Op.call { callee := Callee.value (Operand.func 8), args := #[Operand.tmp 5, Operand.tmp 6, Operand.const (Value.int IntKind.u64 6)], argTypes := #[24, 28, 23] }, type := 31, pos := "law.go:31", after := #[{ on := 0, ground := Ground.data }, { on := 1, ground := Ground.data }], guard := none })) id (Prod.snd c))) (List.map (fun c => (Prod.fst c, V.ren (swU (Key.l 1) (x8 [] (Key.l 5003))) id (Prod.snd c))) (List.map (fun c => (Prod.fst c, V.ren (swU (Key.l 2) (x8 (if Key.l 1 = x8 [] (Key.l 5003) then [] else [] ++ [(Key.l 1, x8 [] (Key.l 5003))]) (Key.l 5001))) id (Prod.snd c))) (dE z7 (dm m1 0))))))) : Int) = 1))] []) else none) else (k2 [C.bool false] [])))) else none) else (k2 [C.bool false] [])))) else none) else (k2 [C.bool false] []))))))))
noncomputable def q1B {R : Type} (N : Nat) : KD R → Option R := lid "" (q4E N)
theorem z0G {R : Type} (N : Nat)  (k : KD R) : q1B N  k = q4E N  k := by unfold q1B; rw [Z9]
theorem z6x {R : Type} (N : Nat)  (K : V → List (Key × O) → Option R) : exF (X0 gl0) ((z0H N).ov R) F0 noX (fun f => bif Nat.beq f 10 then z7N else []) N 400 8 10 [] A0 K =
  q1B N  (fun d1 m1 => K (V.d Ty.bool (C.bool (C.toBool (dk d1 0)))) []) := by
 rw [z0G]
 exact (show _ = jn (fun d1 m1 => (K (V.d Ty.bool (C.bool (C.toBool (dk d1 0)))) [])) (q4E N ) by kernel_rfl).trans (u9 _ _)
noncomputable def q74 (N : Nat) {R : Type} : OvG R := fun xs _ K => match xs with
 | [] => q1B N  (fun d1 m1 => K (V.d Ty.bool (C.bool (C.toBool (dk d1 0)))) [])
 | _ => none
theorem z7M (N : Nat) {R : Type} : GOk (X0 gl0) 10 (q74 N (R := R)) := by
 intro xs A Kr r hr
 unfold q74 at hr
 split at hr
 ·skip
  rw [← z6x] at hr
  exact okA (z0H N) hr
 ·cases hr
end Go.Proofs.Yteaddgnjddjllaa
