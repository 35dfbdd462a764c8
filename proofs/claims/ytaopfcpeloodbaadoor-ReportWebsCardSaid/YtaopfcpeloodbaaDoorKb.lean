/-
 What the functions on the way compute, part 2.
 Conditions: none.
-/
import Derived.Test.YtaopfcpeloodbaaDoorKa
set_option linter.all false
namespace Go.Proofs.YtaopfcpeloodbaaDoor
open Go Go.E
open Go.IntKind (wrap u64 u32 u8 i64 i32)
set_option maxRecDepth 100000
set_option maxHeartbeats 4000000
set_option linter.unusedVariables false
noncomputable def z4G:Hints:=[([0,0,1,1],⟨[1,2],[(22,.d .bool)],[],[],[],[(.int .u8)]⟩),
  ([1,0,1,1,1,1],⟨[],[(7,.sl 16 .str 5007)],[],[],[],[(.int .u8)]⟩),
  ([4,1,0,1,1,1,1],⟨[1,2],[(7,.sl 16 .str 5007),(8,.d (.int .i64))],[],[],[],[(.int .u8)]⟩),
  ([1,0,1,4,0,1,5,4,1,0,1,1,1,1],⟨[1,2,8],[(7,.sl 16 .str 5007),(9,.vec (.l 1000000000075) 1 (.int .u8))],[],[],[],[(.int .u8)]⟩),
  ([4,1,0,1,4,0,1,5,4,1,0,1,1,1,1],⟨[1,2,8],[(7,.sl 16 .str 5007),(9,.vec (.l 1000000000075) 1 (.int .u8)),(10,.d (.int .i64))],[],[],[],[(.int .u8)]⟩),
  ([0,1,4,0,1,5,4,1,0,1,4,0,1,5,4,1,0,1,1,1,1],⟨[1,2,8,10,11],[(7,.sl 16 .str 5007),(9,.vec (.l 1000000000075) 1 (.int .u8)),(64,.d .bool)],[],[],[],[(.int .u8)]⟩),
  ([1,1,4,0,1,5,4,1,0,1,4,0,1,5,4,1,0,1,1,1,1],⟨[1,2,8,10],[(7,.sl 16 .str 5007),(9,.vec (.l 1000000000075) 1 (.int .u8))],[],[],[],[(.int .u8)]⟩),
  ([9],⟨[],[(4,.sl 16 .str 5004),(5,.d (.int .i64))],[],[],[],[(.int .u8)]⟩)]
noncomputable def q8q (N:Nat):OvS (X0 gl0) where
 g R:=[(16,q1P N),(17,q5R N)]
 ok:=fun R=>List.forall_mem_cons.2 ⟨q5z N,List.forall_mem_cons.2 ⟨z4Q N,fun _ h=>nomatch h⟩⟩
noncomputable def q1w {R:Type} (N:Nat) (k4:KD R):KD R→List C→List Es→Option R:=(fun k5 d4 m4=>(bif decide (0≤C.toInt (dk d4 5))then(if 0≤C.toInt (dk d4 5)∧C.toInt (dk d4 5)<(↑(List.length (C.elems (C.get (dk d4 1) 0))):Int)then(jn (fun d5 m5=>(jn (fun d6 m6=>(bif Nat.beq (List.length (C.elems (dk d6 4))) (List.length (C.elems (dk d6 4)))then(if List.length (C.elems (dk d6 6))=List.length (C.elems (dk d6 6))then(k5 [dk d6 0,dk d6 1,dk d6 2,C.slice (C.elems (dk d6 4)),C.int (↑(Int.toNat (C.toInt (dk d6 5))):Int),C.int (wrap i64 (C.toInt (dk d6 3)-1)),dk d6 6] [])else none)else none)) (fun k6=>(bif C.toBool (dk d5 6)then(if 0≤wrap i64 (C.toInt (C.get (dk d5 7) 0)+C.toInt (dk d5 0))∧wrap i64 (C.toInt (C.get (dk d5 7) 0)+C.toInt (dk d5 0))<(↑(Int.toNat (C.toInt (dk d5 5))):Int)then(bif Nat.beq (List.length (C.elems (dk d5 4))) (List.length (C.elems (dk d5 4)))then(if List.length (C.elems (dk d5 8))=List.length (C.elems (C.set (dk d5 8) (0+Int.toNat (wrap i64 (C.toInt (C.get (dk d5 7) 0)+C.toInt (dk d5 0)))) (C.int (wrap u8 (wrap i64 (48+C.toInt (dk d5 3)))))))then(k6 [dk d5 0,dk d5 1,dk d5 2,dk d5 3,C.slice (C.elems (dk d5 4)),C.int (↑(Int.toNat (C.toInt (dk d5 5))):Int),C.set (dk d5 8) (0+Int.toNat (wrap i64 (C.toInt (C.get (dk d5 7) 0)+C.toInt (dk d5 0)))) (C.int (wrap u8 (wrap i64 (48+C.toInt (dk d5 3)))))] [])else none)else none)else none)else(bif Nat.beq (List.length (C.elems (dk d5 4))) (List.length (C.elems (dk d5 4)))then(if List.length (C.elems (dk d5 8))=List.length (C.elems (dk d5 8))then(k6 [dk d5 0,dk d5 1,dk d5 2,dk d5 3,C.slice (C.elems (dk d5 4)),C.int (↑(Int.toNat (C.toInt (dk d5 5))):Int),dk d5 8] [])else none)else none))))) (fun k6=>(bif decide (C.toInt (C.get (List.getD (C.elems (C.get (dk d4 1) 0)) (Int.toNat (C.toInt (dk d4 5))) C.nil) 1)=C.toInt (dk d4 2))then(bif decide (wrap i64 (0-C.toInt (dk d4 0))≤C.toInt (C.get (List.getD (C.elems (C.get (dk d4 1) 0)) (Int.toNat (C.toInt (dk d4 5))) C.nil) 0))then(bif Nat.beq (List.length (C.elems (dk d4 3))) (List.length (C.elems (dk d4 3)))then(if List.length (C.elems (dk d4 6))=List.length (C.elems (dk d4 6))then(k6 [dk d4 0,dk d4 1,dk d4 2,dk d4 5,C.slice (C.elems (dk d4 3)),C.int (↑(Int.toNat (C.toInt (dk d4 4))):Int),C.bool (decide (C.toInt (C.get (List.getD (C.elems (C.get (dk d4 1) 0)) (Int.toNat (C.toInt (dk d4 5))) C.nil) 0)≤C.toInt (dk d4 0))),List.getD (C.elems (C.get (dk d4 1) 0)) (Int.toNat (C.toInt (dk d4 5))) C.nil,dk d4 6] [])else none)else none)else(bif Nat.beq (List.length (C.elems (dk d4 3))) (List.length (C.elems (dk d4 3)))then(if List.length (C.elems (dk d4 6))=List.length (C.elems (dk d4 6))then(k6 [dk d4 0,dk d4 1,dk d4 2,dk d4 5,C.slice (C.elems (dk d4 3)),C.int (↑(Int.toNat (C.toInt (dk d4 4))):Int),C.bool false,List.getD (C.elems (C.get (dk d4 1) 0)) (Int.toNat (C.toInt (dk d4 5))) C.nil,dk d4 6] [])else none)else none))else(bif Nat.beq (List.length (C.elems (dk d4 3))) (List.length (C.elems (dk d4 3)))then(if List.length (C.elems (dk d4 6))=List.length (C.elems (dk d4 6))then(k6 [dk d4 0,dk d4 1,dk d4 2,dk d4 5,C.slice (C.elems (dk d4 3)),C.int (↑(Int.toNat (C.toInt (dk d4 4))):Int),C.bool false,List.getD (C.elems (C.get (dk d4 1) 0)) (Int.toNat (C.toInt (dk d4 5))) C.nil,dk d4 6] [])else none)else none))))else none)else(bif Nat.beq (List.length (C.elems (dk d4 3))) (List.length (C.elems (dk d4 3)))then(if List.length (C.elems (dk d4 6))=List.length (C.elems (dk d4 6))then(k4 [dk d4 0,dk d4 1,dk d4 2,C.slice (C.elems (dk d4 3)),C.int (↑(Int.toNat (C.toInt (dk d4 4))):Int),dk d4 6] [])else none)else none)))
noncomputable def q2P {R:Type} (N:Nat) (k2:KD R):KD R→List C→List Es→Option R:=(fun k3 d3 m3=>(bif decide (wrap i64 (0-C.toInt (dk d3 0))≤C.toInt (dk d3 3))then(if 0≤wrap i64 (wrap i64 (2*C.toInt (dk d3 0))+1)∧1*Int.toNat (wrap i64 (wrap i64 (2*C.toInt (dk d3 0))+1))≤140737488355328 then(jn (fun d4 m4=>(bif Nat.beq (List.length (C.elems (dk d4 3))) (List.length (C.elems (dk d4 3)))then(if(List.length (C.elems (dk d4 3))+1)*16≤140737488355328∧List.length (C.elems (dk d4 3))+1≤9223372036854775807 then(bif Nat.beq (List.length (C.elems (dk d4 3))+1) (List.length (C.elems (dk d4 3)++[C.str (List.map (fun c=>UInt8.ofNat (Int.toNat (C.toInt c))) (List.take (Int.toNat (C.toInt (dk d4 4))) (List.drop 0 (C.elems (dk d4 5)))))]))then(k3 [dk d4 0,dk d4 1,C.slice (C.elems (dk d4 3)++[C.str (List.map (fun c=>UInt8.ofNat (Int.toNat (C.toInt c))) (List.take (Int.toNat (C.toInt (dk d4 4))) (List.drop 0 (C.elems (dk d4 5)))))]),C.int (wrap i64 (C.toInt (dk d4 2)-1))] [])else none)else none)else none)) (fun k4=>(bif Nat.beq (List.length (C.elems (dk d3 2))) (List.length (C.elems (dk d3 2)))then(if List.length (List.map (fun b=>C.int (↑(UInt8.toNat b):Int)) (q6D [UInt8.ofNat 46] (Int.toNat (wrap i64 (wrap i64 (2*C.toInt (dk d3 0))+1)))))=List.length (List.map (fun b=>C.int (↑(UInt8.toNat b):Int)) (q6D [UInt8.ofNat 46] (Int.toNat (wrap i64 (wrap i64 (2*C.toInt (dk d3 0))+1)))))then(Z2 N (q1w N k4) [dk d3 0,dk d3 1,dk d3 3,C.slice (C.elems (dk d3 2)),C.int (↑(List.length (List.map (fun b=>C.int (↑(UInt8.toNat b):Int)) (q6D [UInt8.ofNat 46] (Int.toNat (wrap i64 (wrap i64 (2*C.toInt (dk d3 0))+1)))))):Int),C.int (wrap i64 ((↑(List.length (C.elems (C.get (dk d3 1) 0))):Int)-1)),C.agg (List.map (fun b=>C.int (↑(UInt8.toNat b):Int)) (q6D [UInt8.ofNat 46] (Int.toNat (wrap i64 (wrap i64 (2*C.toInt (dk d3 0))+1)))))] [])else none)else none)))else none)else(bif Nat.beq (List.length (C.elems (dk d3 2))) (List.length (C.elems (dk d3 2)))then(k2 [C.slice (C.elems (dk d3 2))] [])else none)))
noncomputable def q1v {R:Type} (N:Nat) (a0 a1:C) (k1:KD R):Option R:=(U2 N a0 (fun d1 m1=>(bif !decide (C.toInt (dk d1 0)=0)then(k1 [C.slice [],dk d1 0] [])else(jn (fun d2 m2=>(bif C.toBool (dk d2 2)then(k1 [C.slice [],C.int 1] [])else(jn (fun d3 m3=>(bif Nat.beq (List.length (C.elems (dk d3 0))) (List.length (C.elems (dk d3 0)))then(k1 [C.slice (C.elems (dk d3 0)),C.int 0] [])else none)) (fun k2=>(Z2 N (q2P N k2) [dk d2 0,dk d2 1,C.slice [],dk d2 0] []))))) (fun k2=>(bif decide (C.toInt a1<1)then(k2 [a1,a0,C.bool true] [])else(k2 [a1,a0,C.bool (decide (40<C.toInt a1))] [])))))))
noncomputable def q01 {R:Type} (N:Nat):C→C→KD R→Option R:=lid "" (q1v N)
theorem q8p {R:Type} (N:Nat) (a0 a1:C) (k:KD R):q01 N a0 a1 k=q1v N a0 a1 k:=by unfold q01;rw[W1]
theorem z3a {R:Type} (N:Nat) (a0 a1:C) (K:V→List (Key × O)→Option R):exF (X0 gl0) ((q8q N).ov R) q0Q (fun f r=>bif Nat.beq f 7 then(bif Nat.beq r 0 then[(2,5)]else bif Nat.beq r 10 then[(34,9)]else[])else[]) (fun f=>bif Nat.beq f 7 then z4G else[]) N 400 8 7 [.d b7 a0,.d (.int .i64) a1] A0 K=
  q01 N a0 a1 (fun d1 m1=>K (V.tup [V.ts 16 Ty.str (C.elems (dk d1 0)),V.d (Ty.int i64) (dk d1 1)]) []):=by
 rw[q8p]
 exact(show _=jn (fun d1 m1=>(bif Nat.beq (List.length (C.elems (dk d1 0))) (List.length (C.elems (dk d1 0)))then
  (K (V.tup [V.ts 16 Ty.str (C.elems (dk d1 0)),V.d (Ty.int i64) (dk d1 1)]) [])
 else
  none)) (q1v N a0 a1) by kernel_rfl).trans ((r6 _ _).trans (congrArg (q1v N a0 a1) (funext fun _=>funext fun _=>by simp only[Nat.beq_refl,cond_true])))
noncomputable def q5I (N:Nat) {R:Type}:OvG R:=fun xs _ K=>match xs with
 | [.d t0 a0,.d t1 a1]=>if t0=b7∧t1=(.int .i64)then q01 N a0 a1 (fun d1 m1=>K (V.tup [V.ts 16 Ty.str (C.elems (dk d1 0)),V.d (Ty.int i64) (dk d1 1)]) [])else none
 |_=>none
theorem z4F (N:Nat) {R:Type}:GOk (X0 gl0) 7 (q5I N (R:=R)):=by
 intro xs A Kr r hr
 unfold q5I at hr
 split at hr
 ·simp only[Option.ite_none_right_eq_some]at hr
  obtain⟨hty,hr⟩:=hr
  obtain⟨rfl,rfl⟩:=hty
  rw[←z3a]at hr
  exact okA (q8q N) hr
 ·cases hr
noncomputable def z5O:Hints:=[([1,0,1,1],⟨[],[(5,.sl 16 .str 5005)],[],[],[],[]⟩),
  ([4,1,0,1,1],⟨[1,2],[(5,.sl 16 .str 5005),(6,.d (.int .i64))],[],[],[],[]⟩),
  ([1,0,1,4,0,1,5,4,1,0,1,1],⟨[1,2,6],[(5,.sl 16 .str 5005),(7,.d .str)],[],[],[],[]⟩),
  ([4,1,0,1,4,0,1,5,4,1,0,1,1],⟨[1,2,6],[(5,.sl 16 .str 5005),(7,.d .str),(8,.d (.int .i64))],[],[],[],[]⟩),
  ([1,0,1,4,0,1,5,4,1,0,1,4,0,1,5,4,1,0,1,1],⟨[1,2,6,7,8],[(5,.sl 16 .str 5005),(9,.d .str)],[],[],[],[]⟩),
  ([4,1,0,1,4,0,1,5,4,1,0,1,4,0,1,5,4,1,0,1,1],⟨[1,2,6,7,8],[(5,.sl 16 .str 5005),(9,.d .str),(10,.d (.int .i64))],[],[],[],[]⟩),
  ([0,4,0,1,5,4,1,0,1,4,0,1,5,4,1,0,1,4,0,1,5,4,1,0,1,1],⟨[1,2,6,7,8,9,10],[(5,.sl 16 .str 5005),(50,.d .bool)],[],[],[],[]⟩),
  ([1,4,0,1,5,4,1,0,1,4,0,1,5,4,1,0,1,4,0,1,5,4,1,0,1,1],⟨[1,2,6,7,8,10],[(5,.sl 16 .str 5005),(9,.d .str)],[],[],[],[]⟩),
  ([9],⟨[],[(4,.sl 16 .str 5004)],[],[],[],[]⟩)]
noncomputable def q85 (N:Nat):OvS (X0 gl0) where
 g R:=[(21,q4m N)]
 ok:=fun R=>List.forall_mem_cons.2 ⟨q88 N,fun _ h=>nomatch h⟩
noncomputable def q12 {R:Type} (N:Nat) (k6:KD R):KD R→List C→List Es→Option R:=(fun k7 d3 m3=>(bif decide (0≤C.toInt (dk d3 7))then(jn (fun d4 m4=>(jn (fun d5 m5=>(bif Nat.beq (List.length (C.elems (dk d5 6))) (List.length (C.elems (dk d5 6)))then(k7 [dk d5 0,dk d5 1,dk d5 2,dk d5 3,dk d5 4,C.slice (C.elems (dk d5 6)),dk d5 7,C.int (wrap i64 (C.toInt (dk d5 5)-1))] [])else none)) (fun k8=>(bif C.toBool (dk d4 8)then(U0 N (dk d4 6) (fun d5 m5=>(bif Nat.beq (List.length (C.elems (dk d4 7))) (List.length (C.elems (dk d4 7)))then(k8 [dk d4 0,dk d4 1,dk d4 2,dk d4 3,dk d4 4,dk d4 6,C.slice (C.elems (dk d4 7)),dk d5 0] [])else none)))else(bif Nat.beq (List.length (C.elems (dk d4 7))) (List.length (C.elems (dk d4 7)))then(k8 [dk d4 0,dk d4 1,dk d4 2,dk d4 3,dk d4 4,dk d4 6,C.slice (C.elems (dk d4 7)),dk d4 5] [])else none))))) (fun k8=>(if 0≤C.toInt (dk d3 7)∧C.toInt (dk d3 7)<(↑(List.length (C.elems (C.get (dk d3 1) 0))):Int)then(bif decide (C.toInt (C.get (List.getD (C.elems (C.get (dk d3 1) 0)) (Int.toNat (C.toInt (dk d3 7))) C.nil) 0)=C.toInt (dk d3 4))then(if 0≤C.toInt (dk d3 7)∧C.toInt (dk d3 7)<(↑(List.length (C.elems (C.get (dk d3 1) 0))):Int)then(bif Nat.beq (List.length (C.elems (dk d3 5))) (List.length (C.elems (dk d3 5)))then(k8 [dk d3 0,dk d3 1,dk d3 2,dk d3 3,dk d3 4,dk d3 6,dk d3 7,C.slice (C.elems (dk d3 5)),C.bool (decide (C.toInt (C.get (List.getD (C.elems (C.get (dk d3 1) 0)) (Int.toNat (C.toInt (dk d3 7))) C.nil) 1)=C.toInt (dk d3 2)))] [])else none)else none)else(bif Nat.beq (List.length (C.elems (dk d3 5))) (List.length (C.elems (dk d3 5)))then(k8 [dk d3 0,dk d3 1,dk d3 2,dk d3 3,dk d3 4,dk d3 6,dk d3 7,C.slice (C.elems (dk d3 5)),C.bool false] [])else none))else none)))else(bif Nat.beq (List.length (C.elems (dk d3 5))) (List.length (C.elems (dk d3 5)))then(k6 [dk d3 0,dk d3 1,dk d3 2,dk d3 3,dk d3 4,C.slice (C.elems (dk d3 5)),dk d3 6] [])else none)))
noncomputable def q11 {R:Type} (N:Nat) (k4:KD R):KD R→List C→List Es→Option R:=(fun k5 d2 m2=>(bif decide (C.toInt (dk d2 5)≤C.toInt (dk d2 0))then(jn (fun d3 m3=>(if List.length (C.toStr (dk d3 3))+List.length (C.toStr (dk d3 6))≤140737488355328 then(bif Nat.beq (List.length (C.elems (dk d3 5))) (List.length (C.elems (dk d3 5)))then(k5 [dk d3 0,dk d3 1,dk d3 2,C.slice (C.elems (dk d3 5)),C.str (C.toStr (dk d3 3)++C.toStr (dk d3 6)),C.int (wrap i64 (C.toInt (dk d3 4)+1))] [])else none)else none)) (fun k6=>(bif Nat.beq (List.length (C.elems (dk d2 3))) (List.length (C.elems (dk d2 3)))then(Z2 N (q12 N k6) [dk d2 0,dk d2 1,dk d2 2,dk d2 4,dk d2 5,C.slice (C.elems (dk d2 3)),C.str [46],C.int (wrap i64 ((↑(List.length (C.elems (C.get (dk d2 1) 0))):Int)-1))] [])else none)))else(bif Nat.beq (List.length (C.elems (dk d2 3))) (List.length (C.elems (dk d2 3)))then(k4 [dk d2 0,dk d2 1,dk d2 2,C.slice (C.elems (dk d2 3)),dk d2 4] [])else none)))
noncomputable def q3i {R:Type} (N:Nat) (k2:KD R):KD R→List C→List Es→Option R:=(fun k3 d1 m1=>(bif decide (wrap i64 (0-C.toInt (dk d1 0))≤C.toInt (dk d1 3))then(jn (fun d2 m2=>(bif Nat.beq (List.length (C.elems (dk d2 3))) (List.length (C.elems (dk d2 3)))then(if(List.length (C.elems (dk d2 3))+1)*16≤140737488355328∧List.length (C.elems (dk d2 3))+1≤9223372036854775807 then(bif Nat.beq (List.length (C.elems (dk d2 3))+1) (List.length (C.elems (dk d2 3)++[dk d2 4]))then(k3 [dk d2 0,dk d2 1,C.slice (C.elems (dk d2 3)++[dk d2 4]),C.int (wrap i64 (C.toInt (dk d2 2)-1))] [])else none)else none)else none)) (fun k4=>(bif Nat.beq (List.length (C.elems (dk d1 2))) (List.length (C.elems (dk d1 2)))then(Z2 N (q11 N k4) [dk d1 0,dk d1 1,dk d1 3,C.slice (C.elems (dk d1 2)),C.str [],C.int (wrap i64 (0-C.toInt (dk d1 0)))] [])else none)))else(bif Nat.beq (List.length (C.elems (dk d1 2))) (List.length (C.elems (dk d1 2)))then(k2 [C.slice (C.elems (dk d1 2))] [])else none)))
noncomputable def q10 {R:Type} (N:Nat) (a0 a1:C) (k1:KD R):Option R:=(jn (fun d1 m1=>(bif Nat.beq (List.length (C.elems (dk d1 0))) (List.length (C.elems (dk d1 0)))then(k1 [C.slice (C.elems (dk d1 0))] [])else none)) (fun k2=>(Z2 N (q3i N k2) [a1,a0,C.slice [],a1] [])))
noncomputable def q1B {R:Type} (N:Nat):C→C→KD R→Option R:=lid "" (q10 N)
theorem q84 {R:Type} (N:Nat) (a0 a1:C) (k:KD R):q1B N a0 a1 k=q10 N a0 a1 k:=by unfold q1B;rw[W1]
theorem z4I {R:Type} (N:Nat) (a0 a1:C) (K:V→List (Key × O)→Option R):exF (X0 gl0) ((q85 N).ov R) q0Q (fun f r=>bif Nat.beq f 12 then(bif Nat.beq r 0 then[(2,5)]else[])else[]) (fun f=>bif Nat.beq f 12 then z5O else[]) N 400 8 12 [.d b7 a0,.d (.int .i64) a1] A0 K=
  q1B N a0 a1 (fun d1 m1=>K (V.ts 16 Ty.str (C.elems (dk d1 0))) []):=by
 rw[q84]
 exact(show _=jn (fun d1 m1=>(bif Nat.beq (List.length (C.elems (dk d1 0))) (List.length (C.elems (dk d1 0)))then
  (K (V.ts 16 Ty.str (C.elems (dk d1 0))) [])
 else
  none)) (q10 N a0 a1) by kernel_rfl).trans ((r6 _ _).trans (congrArg (q10 N a0 a1) (funext fun _=>funext fun _=>by simp only[Nat.beq_refl,cond_true])))
noncomputable def q6F (N:Nat) {R:Type}:OvG R:=fun xs _ K=>match xs with
 | [.d t0 a0,.d t1 a1]=>if t0=b7∧t1=(.int .i64)then q1B N a0 a1 (fun d1 m1=>K (V.ts 16 Ty.str (C.elems (dk d1 0))) [])else none
 |_=>none
theorem z5N (N:Nat) {R:Type}:GOk (X0 gl0) 12 (q6F N (R:=R)):=by
 intro xs A Kr r hr
 unfold q6F at hr
 split at hr
 ·simp only[Option.ite_none_right_eq_some]at hr
  obtain⟨hty,hr⟩:=hr
  obtain⟨rfl,rfl⟩:=hty
  rw[←z4I]at hr
  exact okA (q85 N) hr
 ·cases hr
end Go.Proofs.YtaopfcpeloodbaaDoor
namespace Go.Proofs.YtaopfcpeloodbaaDoor
open Go Go.E
open Go.IntKind (wrap u64 u32 u8 i64 i32)
set_option maxRecDepth 100000
set_option maxHeartbeats 4000000
set_option linter.unusedSimpArgs false
variable {R:Type} {N:Nat}
def cel (sp:List C) (y x:Int):Nat→UInt8
 |0=>UInt8.ofNat 46
 |j+1=>if((sp.getD (sp.length-1-j) .nil).get 0).toInt=x∧((sp.getD (sp.length-1-j) .nil).get 1).toInt=y then UInt8.ofNat (48+(sp.length-1-j))else cel sp y x j
def X8 (sp:List C) (wd:Nat) (y:Int) (j:Nat):List UInt8:=(List.range (2*wd+1)).map fun(i:Nat)=>cel sp y ((i:Int)-wd) j
def q0K (sp:List C) (wd:Nat):List C:=(List.range (2*wd+1)).map fun(i:Nat)=>.str (X8 sp wd ((wd:Int)-(i:Int)) sp.length)
theorem q22 (sp:List C) (wd:Nat) (y:Int) (j:Nat):(X8 sp wd y j).length=2*wd+1:=by simp[X8]
def byL (l:List UInt8):List C:=l.map fun b=>.int (b.toNat:Int)
theorem y2M (l:List UInt8):(byL l).map (fun c=>UInt8.ofNat (Int.toNat (C.toInt c)))=l:=by
 unfold byL
 rw[List.map_map]
 have:∀b:UInt8,UInt8.ofNat b.toNat=b:=fun b=>by simp
 conv=>rhs;rw[←List.map_id l]
 exact List.map_congr_left fun b _=>this b
theorem z3I (l:List UInt8):(byL l).length=l.length:=by simp[byL]
theorem y1V (n:Nat):q6D [UInt8.ofNat 46] n=List.replicate n (UInt8.ofNat 46):=by
 unfold q6D
 induction n with
 |zero=>rfl
 |succ n ih=>rw[List.replicate_succ,←ih];rfl
theorem y27 (sp:List C) (wd:Nat) (y:Int):X8 sp wd y 0=q6D [UInt8.ofNat 46] (2*wd+1):=by
 rw[y1V]
 unfold X8
 apply List.ext_getElem
 ·simp
 ·intro i h1 h2
  simp[cel]
theorem y0H (sp:List C) (wd:Nat) (y:Int) (j:Nat) (h:¬(((sp.getD (sp.length-1-j) .nil).get 1).toInt=y∧-(wd:Int)≤((sp.getD (sp.length-1-j) .nil).get 0).toInt∧((sp.getD (sp.length-1-j) .nil).get 0).toInt≤wd)):X8 sp wd y (j+1)=X8 sp wd y j:=by
 unfold X8
 apply List.map_congr_left
 intro i hi
 have hi:=List.mem_range.1 hi
 unfold cel
 rw[if_neg (fun e=>h ⟨e.2,by rw[e.1];omega,by rw[e.1];omega⟩)]
 cases j <;> rfl
theorem y2a (sp:List C) (wd:Nat) (y:Int) (j:Nat) (h0:((sp.getD (sp.length-1-j) .nil).get 1).toInt=y) (h1: -(wd:Int)≤((sp.getD (sp.length-1-j) .nil).get 0).toInt) (h2:((sp.getD (sp.length-1-j) .nil).get 0).toInt≤wd) (h8:sp.length≤8):
  (byL (X8 sp wd y j)).set (((sp.getD (sp.length-1-j) .nil).get 0).toInt+wd).toNat (.int ((48+(sp.length-1-j):Nat):Int))=byL (X8 sp wd y (j+1)):=by
 generalize hX:((sp.getD (sp.length-1-j) .nil).get 0).toInt=X at*
 have hu:(UInt8.ofNat (48+(sp.length-1-j))).toNat=48+(sp.length-1-j):=by
  show(48+(sp.length-1-j))%256=_
  omega
 apply List.ext_getElem
 ·simp[byL,X8]
 ·intro i h3 h4
  have hi:i<2*wd+1:=by simpa[byL,X8]using h4
  rw[List.getElem_set]
  simp only[byL,X8,List.getElem_map,List.getElem_range]
  by_cases e:(X+wd).toNat=i
  ·rw[if_pos e]
   have:cel sp y ((i:Int)-wd) (j+1)=UInt8.ofNat (48+(sp.length-1-j)):=by
    unfold cel
    rw[if_pos ⟨by rw[hX];omega,h0⟩]
   rw[this,hu]
  ·rw[if_neg e]
   have:cel sp y ((i:Int)-wd) (j+1)=cel sp y ((i:Int)-wd) j:=by
    conv=>lhs;unfold cel
    rw[if_neg (fun h=>e (by rw[hX]at h;omega))]
   rw[this]
theorem y0I (w:C) (hw:q57 w) (h8:(w.get 0).elems.length≤8) (wd:Nat) (hwd:wd≤40) (y:Int) (hy:W63 y) (out:List C) (hN:2000<N) (k:KD R):
  Z2 N (q1w N k) [.int wd,w,.int y,.slice out,.int ((2*wd+1:Nat):Int),.int (i64.wrap (((w.get 0).elems.length:Int)-1)),.agg (byL (X8 (w.get 0).elems wd y 0))] []=
   k [.int wd,w,.int y,.slice out,.int ((2*wd+1:Nat):Int),.agg (byL (X8 (w.get 0).elems wd y (w.get 0).elems.length))] []:=by
 have hsp:=hw.sp
 generalize hS:(w.get 0).elems=sp at*
 rw[wrap_i64 (by omega) (by omega),show(sp.length:Int)-1=(sp.length:Int)-1-((0:Nat):Int) by omega]
 refine U1 (F:=q1w N k) (fun j=>[.int wd,w,.int y,.slice out,.int ((2*wd+1:Nat):Int),.int ((sp.length:Int)-1-j),.agg (byL (X8 sp wd y j))]) (fun _=>[]) sp.length _ ?_ ?_ (N:=N) (by omega)
 ·intro j hj rec
  have hn:((sp.length:Int)-1-j).toNat=sp.length-1-j:=by omega
  have g0:(0:Int)≤(sp.length:Int)-1-j:=by omega
  have g1:(sp.length:Int)-1-j<(sp.length:Int):=by omega
  have hm:q8g (sp.getD (sp.length-1-j) .nil):=hsp _ (F9 (by omega))
  have hd:(sp.length:Int)-1-((j+1:Nat):Int)=(sp.length:Int)-1-j-1:=by omega
  have hsame:=y0H sp wd y j
  have hset:=y2a sp wd y j
  have hx:=hm.x
  unfold q1w
  simp only[x3,u0,u7,j4,Q1,Z0,Z8,x7,x6,hS,g0,g1,hn,decide_true,cond_true,and_self,if_true,r6,Nat.beq_refl,hd]
  generalize sp.getD (sp.length-1-j) .nil=s at*
  generalize hX:(s.get 0).toInt=X at*
  generalize hY:(s.get 1).toInt=Y at*
  have hwr:i64.wrap (0-(wd:Int))= -(wd:Int):=by rw[wrap_i64 (by omega) (by omega)];omega
  have hwn:i64.wrap ((sp.length:Int)-1-j-1)=(sp.length:Int)-1-j-1:=wrap_i64 (by omega) (by omega)
  rw[hwr]
  by_cases h1:Y=y
  ·by_cases h2: -(wd:Int)≤X
   ·by_cases h3:X≤(wd:Int)
    ·have hwx:i64.wrap (X+(wd:Int))=X+wd:=wrap_i64 (by omega) (by omega)
     have hw8:u8.wrap (i64.wrap (48+((sp.length:Int)-1-j)))=((48+(sp.length-1-j):Nat):Int):=by
      rw[wrap_i64 (by omega) (by omega),wrap_u8];omega
     have g2:0≤X+(wd:Int)∧X+(wd:Int)<((Int.toNat ((2*wd+1:Nat):Int):Nat):Int):=by omega
     simp only[h1,h2,h3,decide_true,cond_true,x3,u0,u7,j4,Q1,Z0,Z8,q2C,q9C,x7,x6,w9,if_true,Nat.beq_refl,hX,hwx,hw8,g2,and_self,Nat.zero_add,hwn,Int.toNat_natCast]
     rw[if_pos ⟨trivial,by omega⟩]
     have e:(C.agg (byL (X8 sp wd y j))).set (X+wd).toNat (.int ((48+(sp.length-1-j):Nat):Int))= .agg (byL (X8 sp wd y (j+1))):=by
      rw[←hset h1 h2 h3 h8];rfl
     rw[e]
     exact if_pos (by simp only[z90,z3I,q22])
    ·simp only[h1,h2,h3,decide_true,decide_false,cond_true,cond_false,x3,u0,u7,j4,Q1,Z0,Z8,q2C,q9C,x7,x6,w9,if_true,Nat.beq_refl,hwn,Int.toNat_natCast,hsame (fun h=>h3 h.2.2)]
   ·simp only[h1,h2,decide_true,decide_false,cond_true,cond_false,x3,u0,u7,j4,Q1,Z0,Z8,q2C,q9C,x7,x6,w9,if_true,Nat.beq_refl,hwn,Int.toNat_natCast,hsame (fun h=>h2 h.2.1)]
  ·simp only[h1,decide_true,decide_false,cond_true,cond_false,x3,u0,u7,j4,Q1,Z0,Z8,q2C,q9C,x7,x6,w9,if_true,Nat.beq_refl,hwn,Int.toNat_natCast,hsame (fun h=>h1 h.1)]
 ·intro rec
  have g0:¬(0:Int)≤(sp.length:Int)-1-(sp.length:Int):=by omega
  unfold q1w
  simp only[x3,u0,u7,j4,Q1,Z0,Z8,x7,x6,g0,decide_false,cond_false,Nat.beq_refl,cond_true,if_true,Int.toNat_natCast]
theorem z5y (l:List UInt8) (n:Nat) (h:l.length=n):List.map (fun c=>UInt8.ofNat (Int.toNat (C.toInt c))) (List.take n (List.drop 0 (byL l)))=l:=by
 rw[List.drop_zero,List.take_of_length_le (by rw[z3I];omega),y2M]
theorem z0A (sp:List C) (wd:Nat) {i:Nat} (hi:i<2*wd+1):(q0K sp wd).take (i+1)=(q0K sp wd).take i++[.str (X8 sp wd ((wd:Int)-(i:Int)) sp.length)]:=by
 rw[z45 (by simp[q0K];omega)]
 congr 2
 unfold q0K
 rw[List.getD_eq_getElem?_getD,List.getElem?_map,List.getElem?_range (by omega)]
 rfl
theorem q2r (sp:List C) (wd:Nat):(q0K sp wd).length=2*wd+1:=by simp[q0K]
theorem y41 (w a:C) (hw:q57 w) (ha:W63 a.toInt) (ha':z1v a) (hN:5000<N) (k:KD R):q01 N w a k=
  if chk w≠0 then k [.slice [],.int (chk w)] []else if a.toInt<1∨40<a.toInt then k [.slice [],.int 1] []else k [.slice (q0K (w.get 0).elems a.toInt.toNat),.int 0] []:=by
 rw[q8p]
 unfold q1v
 rw[z7w w hw (show 2000<N by omega)]
 by_cases hc:chk w=0
 ·have h8:(w.get 0).elems.length≤8:=by
   unfold chk at hc
   split at hc
   ·cases hc
   ·omega
  simp only[x3,x7,hc,decide_true,Bool.not_true,cond_false,ne_eq,not_true_eq_false,if_false]
  rw[r6]
  by_cases h1:a.toInt<1
  ·simp only[h1,decide_true,cond_true,x3,u0,u7,w9,true_or,if_true]
  by_cases h2:40<a.toInt
  ·simp only[h1,h2,decide_true,decide_false,cond_true,cond_false,x3,u0,u7,w9,or_true,if_true]
  simp only[h1,h2,decide_false,cond_false,x3,u0,u7,w9,or_self,if_false]
  rw[r6]
  obtain⟨wd,rfl⟩:∃wd:Nat,a= .int wd:=⟨a.toInt.toNat,by rw[Int.toNat_of_nonneg (by omega)];exact ha'⟩
  simp only[x7]at h1 h2
  simp only[x7,Int.toNat_natCast]
  have hwr:i64.wrap (0-(wd:Int))= -(wd:Int):=by rw[wrap_i64 (by omega) (by omega)];omega
  have hw2:i64.wrap (i64.wrap (2*(wd:Int))+1)=((2*wd+1:Nat):Int):=by rw[wrap_i64 (n:=2*(wd:Int)) (by omega) (by omega),wrap_i64 (by omega) (by omega)];omega
  refine Eq.trans ?_ (U1 (F:=q2P N fun d3 m3=>bif Nat.beq (List.length (C.elems (dk d3 0))) (List.length (C.elems (dk d3 0)))then k [C.slice (C.elems (dk d3 0)),C.int 0] []else none)
   (fun i=>[.int wd,w,.slice ((q0K (w.get 0).elems wd).take i),.int ((wd:Int)-i)]) (fun _=>[]) (2*wd+1) (k [.slice (q0K (w.get 0).elems wd),.int 0] []) ?_ ?_ (N:=N) (by omega))
  ·simp only[List.take_zero,Int.natCast_zero,Int.sub_zero]
  ·intro i hi rec
   have g0: -(wd:Int)≤(wd:Int)-i:=by omega
   have g1:0≤((2*wd+1:Nat):Int)∧1*(2*wd+1)≤140737488355328:=by omega
   have hln:((q0K (w.get 0).elems wd).take i).length=i:=by rw[List.length_take,q2r];omega
   have g2:(i+1)*16≤140737488355328∧i+1≤9223372036854775807:=by omega
   have hb:∀l:List UInt8,List.map (fun b=>C.int (↑(UInt8.toNat b):Int)) l=byL l:=fun _=>rfl
   have hd:(wd:Int)-((i+1:Nat):Int)=(wd:Int)-i-1:=by omega
   have hwd:i64.wrap ((wd:Int)-i-1)=(wd:Int)-i-1:=wrap_i64 (by omega) (by omega)
   unfold q2P
   simp only[x3,u0,u7,j4,x7,x6,hwr,hw2,g0,g1,decide_true,cond_true,and_self,if_true,Nat.beq_refl,Int.toNat_natCast,hb,z3I,r6]
   have hl0:=q22 (w.get 0).elems wd ((wd:Int)-i) 0
   rw[y27]at hl0
   rw[hl0,←y27 (w.get 0).elems wd ((wd:Int)-i),y0I w hw h8 wd (by omega) ((wd:Int)-i) (by unfold W63;omega) _ (show 2000<N by omega)]
   simp only[x3,u0,u7,j4,Q1,Z0,x7,x6,z90,Int.toNat_natCast,hln,Nat.beq_refl,cond_true,g2,and_self,if_true,List.length_append,List.length_cons,List.length_nil,Nat.zero_add,hd,hwd,z5y _ _ (q22 _ _ _ _),z0A _ _ hi]
  ·intro rec
   have g0:¬ -(wd:Int)≤(wd:Int)-((2*wd+1:Nat):Int):=by omega
   unfold q2P
   simp only[x3,u0,u7,j4,x7,x6,hwr,g0,decide_false,cond_false,Nat.beq_refl,cond_true,List.take_of_length_le (Nat.le_of_eq (q2r _ _))]
 ·simp only[x3,x7,hc,decide_false,Bool.not_false,cond_true,ne_eq,not_false_eq_true,if_true]
end Go.Proofs.YtaopfcpeloodbaaDoor
namespace Go.Proofs.YtaopfcpeloodbaaDoor
open Go Go.E
open Go.IntKind (wrap u64 u32 u8 i64 i32)
set_option maxRecDepth 100000
set_option maxHeartbeats 4000000
set_option linter.unusedSimpArgs false
variable {R:Type} {N:Nat}
theorem y6w (n:Nat) (h:n<8):j7 (n:Int)=[UInt8.ofNat (48+n)]:=by
 match n,h with
 |0,_|1,_|2,_|3,_|4,_|5,_|6,_|7,_=>decide
theorem y0y (w:C) (hw:q57 w) (h8:(w.get 0).elems.length≤8) (a0 y l x:C) (out:List C) (hN:2000<N) (k:KD R):
  Z2 N (q12 N k) [a0,w,y,l,x,.slice out,C.str [46],.int (i64.wrap (((w.get 0).elems.length:Int)-1))] []=
   k [a0,w,y,l,x,.slice out,.str [cel (w.get 0).elems y.toInt x.toInt (w.get 0).elems.length]] []:=by
 have hsp:=hw.sp
 generalize hS:(w.get 0).elems=sp at*
 rw[wrap_i64 (by omega) (by omega),show(sp.length:Int)-1=(sp.length:Int)-1-((0:Nat):Int) by omega]
 refine U1 (F:=q12 N k) (fun j=>[a0,w,y,l,x,.slice out,.str [cel sp y.toInt x.toInt j],.int ((sp.length:Int)-1-j)]) (fun _=>[]) sp.length _ ?_ ?_ (N:=N) (by omega)
 ·intro j hj rec
  have hn:((sp.length:Int)-1-j).toNat=sp.length-1-j:=by omega
  have g0:(0:Int)≤(sp.length:Int)-1-j:=by omega
  have g1:(sp.length:Int)-1-j<(sp.length:Int):=by omega
  have hm:q8g (sp.getD (sp.length-1-j) .nil):=hsp _ (F9 (by omega))
  have hd:(sp.length:Int)-1-((j+1:Nat):Int)=(sp.length:Int)-1-j-1:=by omega
  have hwn:i64.wrap ((sp.length:Int)-1-j-1)=(sp.length:Int)-1-j-1:=wrap_i64 (by omega) (by omega)
  have hdig:j7 ((sp.length:Int)-1-j)=[UInt8.ofNat (48+(sp.length-1-j))]:=by
   rw[←y6w _ (by omega)];congr 1;omega
  have hcel:cel sp y.toInt x.toInt (j+1)=if((sp.getD (sp.length-1-j) .nil).get 0).toInt=x.toInt∧((sp.getD (sp.length-1-j) .nil).get 1).toInt=y.toInt then UInt8.ofNat (48+(sp.length-1-j))else cel sp y.toInt x.toInt j:=rfl
  unfold q12
  simp only[x3,u0,u7,j4,Q1,Z0,Z8,q2C,x7,x6,hS,g0,g1,hn,decide_true,cond_true,and_self,if_true,r6,Nat.beq_refl,hd,hwn]
  rw[hcel]
  generalize sp.getD (sp.length-1-j) .nil=s at*
  by_cases h1:(s.get 0).toInt=x.toInt
  ·by_cases h2:(s.get 1).toInt=y.toInt
   ·simp only[h1,h2,and_self,if_true,decide_true,cond_true,x3,u0,u7,j4,Q1,Z0,Z8,q2C,q9C,w9,x6,x7,Nat.beq_refl]
    rw[q4J _ (by unfold W63;simp only[x7];omega) (show 100<N by omega)]
    simp only[x3,u0,u7,j4,Q1,Z0,Z8,q2C,q9C,w9,x6,x7,Nat.beq_refl,cond_true,hdig,hwn]
   ·simp only[h1,h2,and_false,if_false,decide_true,decide_false,cond_true,cond_false,x3,u0,u7,j4,Q1,Z0,Z8,q2C,q9C,w9,x6,x7,Nat.beq_refl,hwn]
  ·simp only[h1,false_and,if_false,decide_false,cond_true,cond_false,x3,u0,u7,j4,Q1,Z0,Z8,q2C,q9C,w9,x6,x7,Nat.beq_refl,hwn]
 ·intro rec
  have g0:¬(0:Int)≤(sp.length:Int)-1-(sp.length:Int):=by omega
  unfold q12
  simp only[x3,u0,u7,j4,Q1,Z0,Z8,q2C,x7,x6,g0,decide_false,cond_false,Nat.beq_refl,cond_true]
theorem z9m (sp:List C) (wd:Nat) (y:Int) (j:Nat) {i:Nat} (hi:i<2*wd+1):(X8 sp wd y j).take (i+1)=(X8 sp wd y j).take i++[cel sp y ((i:Int)-wd) j]:=by
 have h:i<(X8 sp wd y j).length:=by rw[q22];exact hi
 rw[List.take_add_one,List.getElem?_eq_getElem h]
 congr 1
 simp[X8]
theorem z8X (w:C) (hw:q57 w) (h8:(w.get 0).elems.length≤8) (wd:Nat) (hwd:wd≤40) (y:C) (out:List C) (hN:5000<N) (k:KD R):
  Z2 N (q11 N k) [.int wd,w,y,.slice out,.str [],.int (-(wd:Int))] []=
   k [.int wd,w,y,.slice out,.str (X8 (w.get 0).elems wd y.toInt (w.get 0).elems.length)] []:=by
 refine Eq.trans ?_ (U1 (F:=q11 N k) (fun i=>[.int wd,w,y,.slice out,.str ((X8 (w.get 0).elems wd y.toInt (w.get 0).elems.length).take i),.int ((i:Int)-wd)]) (fun _=>[]) (2*wd+1) _ ?_ ?_ (N:=N) (by omega))
 ·simp only[List.take_zero,Int.natCast_zero,Int.zero_sub]
 ·intro i hi rec
  have g0:(i:Int)-wd≤(wd:Int):=by omega
  have hlt:((X8 (w.get 0).elems wd y.toInt (w.get 0).elems.length).take i).length=i:=by rw[List.length_take,q22];omega
  have hwx:i64.wrap ((i:Int)-wd+1)=((i+1:Nat):Int)-wd:=by rw[wrap_i64 (by omega) (by omega)];omega
  unfold q11
  simp only[x3,u0,u7,j4,Q1,Z0,x7,x6,g0,decide_true,cond_true,Nat.beq_refl,r6]
  rw[y0y w hw h8 _ _ _ _ _ (show 2000<N by omega)]
  simp only[x3,u0,u7,j4,Q1,Z0,Z8,x7,x6,Y8,hlt,List.length_cons,List.length_nil,Nat.beq_refl,cond_true,hwx,z9m _ _ _ _ hi]
  exact if_pos (by omega)
 ·intro rec
  have g0:¬((2*wd+1:Nat):Int)-wd≤(wd:Int):=by omega
  unfold q11
  simp only[x3,u0,u7,j4,Q1,Z0,x7,x6,g0,decide_false,cond_false,Nat.beq_refl,cond_true,List.take_of_length_le (Nat.le_of_eq (q22 _ _ _ _))]
theorem y3z (w:C) (hw:q57 w) (h8:(w.get 0).elems.length≤8) (wd:Nat) (hwd:wd≤40) (hN:5000<N) (k:KD R):q1B N w (.int wd) k=k [.slice (q0K (w.get 0).elems wd)] []:=by
 rw[q84]
 unfold q10
 rw[r6]
 have hwr:i64.wrap (0-(wd:Int))= -(wd:Int):=by rw[wrap_i64 (by omega) (by omega)];omega
 refine Eq.trans ?_ (U1 (F:=q3i N fun d1 m1=>bif Nat.beq (List.length (C.elems (dk d1 0))) (List.length (C.elems (dk d1 0)))then k [C.slice (C.elems (dk d1 0))] []else none)
  (fun i=>[.int wd,w,.slice ((q0K (w.get 0).elems wd).take i),.int ((wd:Int)-i)]) (fun _=>[]) (2*wd+1) (k [.slice (q0K (w.get 0).elems wd)] []) ?_ ?_ (N:=N) (by omega))
 ·simp only[List.take_zero,Int.natCast_zero,Int.sub_zero]
 ·intro i hi rec
  have g0: -(wd:Int)≤(wd:Int)-i:=by omega
  have hln:((q0K (w.get 0).elems wd).take i).length=i:=by rw[List.length_take,q2r];omega
  have g2:(i+1)*16≤140737488355328∧i+1≤9223372036854775807:=by omega
  have hd:(wd:Int)-((i+1:Nat):Int)=(wd:Int)-i-1:=by omega
  have hwd':i64.wrap ((wd:Int)-i-1)=(wd:Int)-i-1:=wrap_i64 (by omega) (by omega)
  unfold q3i
  simp only[x3,u0,u7,j4,x7,x6,hwr,g0,decide_true,cond_true,Nat.beq_refl,r6]
  rw[z8X w hw h8 wd hwd _ _ hN]
  simp only[x3,u0,u7,j4,Q1,x7,x6,hln,Nat.beq_refl,cond_true,g2,and_self,if_true,List.length_append,List.length_cons,List.length_nil,Nat.zero_add,hd,hwd',z0A _ _ hi]
 ·intro rec
  have g0:¬ -(wd:Int)≤(wd:Int)-((2*wd+1:Nat):Int):=by omega
  unfold q3i
  simp only[x3,u0,u7,j4,x7,x6,hwr,g0,decide_false,cond_false,Nat.beq_refl,cond_true,List.take_of_length_le (Nat.le_of_eq (q2r _ _))]
end Go.Proofs.YtaopfcpeloodbaaDoor
namespace Go.Proofs.YtaopfcpeloodbaaDoor
open Go Go.E
open Go.IntKind (wrap u64 u32 u8 i64 i32)
set_option maxRecDepth 100000
set_option maxHeartbeats 4000000
set_option linter.unusedVariables false
noncomputable def z7F:Hints:=[([0,1],⟨[],[(2,.d .bool)],[],[],[],[]⟩),
  ([9],⟨[],[(2,.d .bool)],[],[],[],[]⟩)]
noncomputable def z0y (N:Nat):OvS (X0 gl0) where
 g R:=[]
 ok:=fun R=>fun _ h=>nomatch h
noncomputable def q4n {R:Type} (N:Nat) (a0:C) (k1:KD R):Option R:=(jn (fun d1 m1=>(k1 [C.bool (C.toBool (dk d1 0))] [])) (fun k2=>(bif decide (-1000≤C.toInt (C.get a0 0))then(bif decide (C.toInt (C.get a0 0)≤1000)then(bif decide (-1000≤C.toInt (C.get a0 1))then(k2 [C.bool (decide (C.toInt (C.get a0 1)≤1000))] [])else(k2 [C.bool false] []))else(k2 [C.bool false] []))else(k2 [C.bool false] []))))
noncomputable def q1j {R:Type} (N:Nat):C→KD R→Option R:=lid "" (q4n N)
theorem z0x {R:Type} (N:Nat) (a0:C) (k:KD R):q1j N a0 k=q4n N a0 k:=by unfold q1j;rw[W1]
theorem z5Q {R:Type} (N:Nat) (a0:C) (K:V→List (Key × O)→Option R):exF (X0 gl0) ((z0y N).ov R) q0Q (fun f r=>bif Nat.beq f 37 then(bif Nat.beq r 0 then[(1,5)]else[])else[]) (fun f=>bif Nat.beq f 37 then z7F else[]) N 400 8 37 [.d j6 a0] A0 K=
  q1j N a0 (fun d1 m1=>K (V.d Ty.bool (C.bool (C.toBool (dk d1 0)))) []):=by
 rw[z0x]
 exact(show _=jn (fun d1 m1=>(K (V.d Ty.bool (C.bool (C.toBool (dk d1 0)))) [])) (q4n N a0) by kernel_rfl).trans (r6 _ _)
noncomputable def q7I (N:Nat) {R:Type}:OvG R:=fun xs _ K=>match xs with
 | [.d t0 a0]=>if t0=j6 then q1j N a0 (fun d1 m1=>K (V.d Ty.bool (C.bool (C.toBool (dk d1 0)))) [])else none
 |_=>none
theorem z7E (N:Nat) {R:Type}:GOk (X0 gl0) 37 (q7I N (R:=R)):=by
 intro xs A Kr r hr
 unfold q7I at hr
 split at hr
 ·simp only[Option.ite_none_right_eq_some]at hr
  obtain⟨hty,hr⟩:=hr
  subst hty
  rw[←z5Q]at hr
  exact okA (z0y N) hr
 ·cases hr
noncomputable def z5S:Hints:=[([0,0,1],⟨[2,3],[(12,.d .bool)],[],[],[],[]⟩),
  ([9],⟨[],[(4,.d (.int .i64))],[],[],[],[]⟩)]
noncomputable def q9a (N:Nat):OvS (X0 gl0) where
 g R:=[(37,q7I N)]
 ok:=fun R=>List.forall_mem_cons.2 ⟨z7E N,fun _ h=>nomatch h⟩
noncomputable def q3l {R:Type} (N:Nat) (a0 a1:C) (k1:KD R):Option R:=(jn (fun d1 m1=>(bif C.toBool (dk d1 2)then(k1 [C.int (-1)] [])else(k1 [C.int (wrap i64 (wrap i64 (wrap i64 (C.toInt (C.get (dk d1 0) 0)-C.toInt (C.get (dk d1 1) 0))*wrap i64 (C.toInt (C.get (dk d1 0) 0)-C.toInt (C.get (dk d1 1) 0)))+wrap i64 (wrap i64 (C.toInt (C.get (dk d1 0) 1)-C.toInt (C.get (dk d1 1) 1))*wrap i64 (C.toInt (C.get (dk d1 0) 1)-C.toInt (C.get (dk d1 1) 1)))))] []))) (fun k2=>(q1j N a0 (fun d1 m1=>(bif !C.toBool (dk d1 0)then(k2 [a0,a1,C.bool true] [])else(q1j N a1 (fun d2 m2=>(k2 [a0,a1,C.bool !C.toBool (dk d2 0)] []))))))))
noncomputable def q1C {R:Type} (N:Nat):C→C→KD R→Option R:=lid "" (q3l N)
theorem q89 {R:Type} (N:Nat) (a0 a1:C) (k:KD R):q1C N a0 a1 k=q3l N a0 a1 k:=by unfold q1C;rw[W1]
theorem z4K {R:Type} (N:Nat) (a0 a1:C) (K:V→List (Key × O)→Option R):exF (X0 gl0) ((q9a N).ov R) q0Q (fun f r=>bif Nat.beq f 23 then(bif Nat.beq r 0 then[(2,5),(3,5)]else[])else[]) (fun f=>bif Nat.beq f 23 then z5S else[]) N 400 8 23 [.d j6 a0,.d j6 a1] A0 K=
  q1C N a0 a1 (fun d1 m1=>K (V.d (Ty.int i64) (dk d1 0)) []):=by
 rw[q89]
 exact(show _=jn (fun d1 m1=>(K (V.d (Ty.int i64) (dk d1 0)) [])) (q3l N a0 a1) by kernel_rfl).trans (r6 _ _)
noncomputable def q6G (N:Nat) {R:Type}:OvG R:=fun xs _ K=>match xs with
 | [.d t0 a0,.d t1 a1]=>if t0=j6∧t1=j6 then q1C N a0 a1 (fun d1 m1=>K (V.d (Ty.int i64) (dk d1 0)) [])else none
 |_=>none
theorem z5R (N:Nat) {R:Type}:GOk (X0 gl0) 23 (q6G N (R:=R)):=by
 intro xs A Kr r hr
 unfold q6G at hr
 split at hr
 ·simp only[Option.ite_none_right_eq_some]at hr
  obtain⟨hty,hr⟩:=hr
  obtain⟨rfl,rfl⟩:=hty
  rw[←z4K]at hr
  exact okA (q9a N) hr
 ·cases hr
noncomputable def z1N:Hints:=[([1,0,1,1,1],⟨[],[(5,.sl 16 .str 5005)],[],[],[],[]⟩),
  ([4,1,0,1,1,1],⟨[1,15,16],[(5,.sl 16 .str 5005),(17,.d (.int .i64))],[],[],[],[]⟩),
  ([9],⟨[],[(2,.sl 16 .str 5002),(3,.d (.int .i64))],[],[],[],[]⟩)]
noncomputable def q6i (N:Nat):OvS (X0 gl0) where
 g R:=[(16,q1P N),(18,q6P N),(45,z2p N),(20,q5H N)]
 ok:=fun R=>List.forall_mem_cons.2 ⟨q5z N,List.forall_mem_cons.2 ⟨z7k N,List.forall_mem_cons.2 ⟨z8w N,List.forall_mem_cons.2 ⟨z4D N,fun _ h=>nomatch h⟩⟩⟩⟩
noncomputable def q1R {R:Type} (N:Nat) (k2:KD R):KD R→List C→List Es→Option R:=(fun k3 d2 m2=>(bif decide (C.toInt (dk d2 4)<C.toInt (dk d2 2))then(if 0≤C.toInt (dk d2 4)∧C.toInt (dk d2 4)<(↑(List.length (C.elems (dk d2 1))):Int)then(if 0≤C.toInt (C.get (C.get (List.getD (C.elems (dk d2 1)) (Int.toNat (C.toInt (dk d2 4))) C.nil) 0) (Int.toNat 0))∧C.toInt (C.get (C.get (List.getD (C.elems (dk d2 1)) (Int.toNat (C.toInt (dk d2 4))) C.nil) 0) (Int.toNat 0))<(↑(List.length (C.elems (C.get (dk d2 0) 0))):Int)then(if 0≤C.toInt (C.get (C.get (List.getD (C.elems (dk d2 1)) (Int.toNat (C.toInt (dk d2 4))) C.nil) 0) (Int.toNat 1))∧C.toInt (C.get (C.get (List.getD (C.elems (dk d2 1)) (Int.toNat (C.toInt (dk d2 4))) C.nil) 0) (Int.toNat 1))<(↑(List.length (C.elems (C.get (dk d2 0) 0))):Int)then(if List.length (j7 (C.toInt (dk d2 4)))+2≤140737488355328 then(if List.length (j7 (C.toInt (dk d2 4))++[UInt8.ofNat 58,UInt8.ofNat 32])+List.length (j7 (C.toInt (C.get (C.get (List.getD (C.elems (dk d2 1)) (Int.toNat (C.toInt (dk d2 4))) C.nil) 0) (Int.toNat 0))))≤140737488355328 then(if List.length (j7 (C.toInt (dk d2 4))++[UInt8.ofNat 58,UInt8.ofNat 32]++j7 (C.toInt (C.get (C.get (List.getD (C.elems (dk d2 1)) (Int.toNat (C.toInt (dk d2 4))) C.nil) 0) (Int.toNat 0))))+1≤140737488355328 then(H0 N (C.slice [C.get (C.get (List.getD (C.elems (dk d2 1)) (Int.toNat (C.toInt (dk d2 4))) C.nil) 1) (Int.toNat 0)]) (fun d3 m3=>(if List.length (j7 (C.toInt (dk d2 4))++[UInt8.ofNat 58,UInt8.ofNat 32]++j7 (C.toInt (C.get (C.get (List.getD (C.elems (dk d2 1)) (Int.toNat (C.toInt (dk d2 4))) C.nil) 0) (Int.toNat 0)))++[UInt8.ofNat 32])+List.length (C.toStr (dk d3 0))≤140737488355328 then(if List.length (j7 (C.toInt (dk d2 4))++[UInt8.ofNat 58,UInt8.ofNat 32]++j7 (C.toInt (C.get (C.get (List.getD (C.elems (dk d2 1)) (Int.toNat (C.toInt (dk d2 4))) C.nil) 0) (Int.toNat 0)))++[UInt8.ofNat 32]++C.toStr (dk d3 0))+3≤140737488355328 then(H0 N (C.slice [C.get (C.get (List.getD (C.elems (dk d2 1)) (Int.toNat (C.toInt (dk d2 4))) C.nil) 1) (Int.toNat 1)]) (fun d4 m4=>(if List.length (j7 (C.toInt (dk d2 4))++[UInt8.ofNat 58,UInt8.ofNat 32]++j7 (C.toInt (C.get (C.get (List.getD (C.elems (dk d2 1)) (Int.toNat (C.toInt (dk d2 4))) C.nil) 0) (Int.toNat 0)))++[UInt8.ofNat 32]++C.toStr (dk d3 0)++[UInt8.ofNat 32,UInt8.ofNat 45,UInt8.ofNat 32])+List.length (C.toStr (dk d4 0))≤140737488355328 then(if List.length (j7 (C.toInt (dk d2 4))++[UInt8.ofNat 58,UInt8.ofNat 32]++j7 (C.toInt (C.get (C.get (List.getD (C.elems (dk d2 1)) (Int.toNat (C.toInt (dk d2 4))) C.nil) 0) (Int.toNat 0)))++[UInt8.ofNat 32]++C.toStr (dk d3 0)++[UInt8.ofNat 32,UInt8.ofNat 45,UInt8.ofNat 32]++C.toStr (dk d4 0))+1≤140737488355328 then(if List.length (j7 (C.toInt (dk d2 4))++[UInt8.ofNat 58,UInt8.ofNat 32]++j7 (C.toInt (C.get (C.get (List.getD (C.elems (dk d2 1)) (Int.toNat (C.toInt (dk d2 4))) C.nil) 0) (Int.toNat 0)))++[UInt8.ofNat 32]++C.toStr (dk d3 0)++[UInt8.ofNat 32,UInt8.ofNat 45,UInt8.ofNat 32]++C.toStr (dk d4 0)++[UInt8.ofNat 32])+List.length (j7 (C.toInt (C.get (C.get (List.getD (C.elems (dk d2 1)) (Int.toNat (C.toInt (dk d2 4))) C.nil) 0) (Int.toNat 1))))≤140737488355328 then(if List.length (j7 (C.toInt (dk d2 4))++[UInt8.ofNat 58,UInt8.ofNat 32]++j7 (C.toInt (C.get (C.get (List.getD (C.elems (dk d2 1)) (Int.toNat (C.toInt (dk d2 4))) C.nil) 0) (Int.toNat 0)))++[UInt8.ofNat 32]++C.toStr (dk d3 0)++[UInt8.ofNat 32,UInt8.ofNat 45,UInt8.ofNat 32]++C.toStr (dk d4 0)++[UInt8.ofNat 32]++j7 (C.toInt (C.get (C.get (List.getD (C.elems (dk d2 1)) (Int.toNat (C.toInt (dk d2 4))) C.nil) 0) (Int.toNat 1))))+5≤140737488355328 then(if List.length (j7 (C.toInt (dk d2 4))++[UInt8.ofNat 58,UInt8.ofNat 32]++j7 (C.toInt (C.get (C.get (List.getD (C.elems (dk d2 1)) (Int.toNat (C.toInt (dk d2 4))) C.nil) 0) (Int.toNat 0)))++[UInt8.ofNat 32]++C.toStr (dk d3 0)++[UInt8.ofNat 32,UInt8.ofNat 45,UInt8.ofNat 32]++C.toStr (dk d4 0)++[UInt8.ofNat 32]++j7 (C.toInt (C.get (C.get (List.getD (C.elems (dk d2 1)) (Int.toNat (C.toInt (dk d2 4))) C.nil) 0) (Int.toNat 1)))++[UInt8.ofNat 32,UInt8.ofNat 102,UInt8.ofNat 97,UInt8.ofNat 114,UInt8.ofNat 32])+List.length (j7 (q35 (C.toInt (C.get (List.getD (C.elems (C.get (dk d2 0) 0)) (Int.toNat (C.toInt (C.get (C.get (List.getD (C.elems (dk d2 1)) (Int.toNat (C.toInt (dk d2 4))) C.nil) 0) (Int.toNat 0)))) C.nil) 0)) (C.toInt (C.get (List.getD (C.elems (C.get (dk d2 0) 0)) (Int.toNat (C.toInt (C.get (C.get (List.getD (C.elems (dk d2 1)) (Int.toNat (C.toInt (dk d2 4))) C.nil) 0) (Int.toNat 0)))) C.nil) 1)) (C.toInt (C.get (List.getD (C.elems (C.get (dk d2 0) 0)) (Int.toNat (C.toInt (C.get (C.get (List.getD (C.elems (dk d2 1)) (Int.toNat (C.toInt (dk d2 4))) C.nil) 0) (Int.toNat 1)))) C.nil) 0)) (C.toInt (C.get (List.getD (C.elems (C.get (dk d2 0) 0)) (Int.toNat (C.toInt (C.get (C.get (List.getD (C.elems (dk d2 1)) (Int.toNat (C.toInt (dk d2 4))) C.nil) 0) (Int.toNat 1)))) C.nil) 1))))≤140737488355328 then(bif Nat.beq (List.length (C.elems (dk d2 3))) (List.length (C.elems (dk d2 3)))then(if(List.length (C.elems (dk d2 3))+1)*16≤140737488355328∧List.length (C.elems (dk d2 3))+1≤9223372036854775807 then(bif Nat.beq (List.length (C.elems (dk d2 3))+1) (List.length (C.elems (dk d2 3)++[C.str (j7 (C.toInt (dk d2 4))++[UInt8.ofNat 58,UInt8.ofNat 32]++j7 (C.toInt (C.get (C.get (List.getD (C.elems (dk d2 1)) (Int.toNat (C.toInt (dk d2 4))) C.nil) 0) (Int.toNat 0)))++[UInt8.ofNat 32]++C.toStr (dk d3 0)++[UInt8.ofNat 32,UInt8.ofNat 45,UInt8.ofNat 32]++C.toStr (dk d4 0)++[UInt8.ofNat 32]++j7 (C.toInt (C.get (C.get (List.getD (C.elems (dk d2 1)) (Int.toNat (C.toInt (dk d2 4))) C.nil) 0) (Int.toNat 1)))++[UInt8.ofNat 32,UInt8.ofNat 102,UInt8.ofNat 97,UInt8.ofNat 114,UInt8.ofNat 32]++j7 (q35 (C.toInt (C.get (List.getD (C.elems (C.get (dk d2 0) 0)) (Int.toNat (C.toInt (C.get (C.get (List.getD (C.elems (dk d2 1)) (Int.toNat (C.toInt (dk d2 4))) C.nil) 0) (Int.toNat 0)))) C.nil) 0)) (C.toInt (C.get (List.getD (C.elems (C.get (dk d2 0) 0)) (Int.toNat (C.toInt (C.get (C.get (List.getD (C.elems (dk d2 1)) (Int.toNat (C.toInt (dk d2 4))) C.nil) 0) (Int.toNat 0)))) C.nil) 1)) (C.toInt (C.get (List.getD (C.elems (C.get (dk d2 0) 0)) (Int.toNat (C.toInt (C.get (C.get (List.getD (C.elems (dk d2 1)) (Int.toNat (C.toInt (dk d2 4))) C.nil) 0) (Int.toNat 1)))) C.nil) 0)) (C.toInt (C.get (List.getD (C.elems (C.get (dk d2 0) 0)) (Int.toNat (C.toInt (C.get (C.get (List.getD (C.elems (dk d2 1)) (Int.toNat (C.toInt (dk d2 4))) C.nil) 0) (Int.toNat 1)))) C.nil) 1))))]))then(k3 [dk d2 0,dk d2 1,dk d2 2,C.slice (C.elems (dk d2 3)++[C.str (j7 (C.toInt (dk d2 4))++[UInt8.ofNat 58,UInt8.ofNat 32]++j7 (C.toInt (C.get (C.get (List.getD (C.elems (dk d2 1)) (Int.toNat (C.toInt (dk d2 4))) C.nil) 0) (Int.toNat 0)))++[UInt8.ofNat 32]++C.toStr (dk d3 0)++[UInt8.ofNat 32,UInt8.ofNat 45,UInt8.ofNat 32]++C.toStr (dk d4 0)++[UInt8.ofNat 32]++j7 (C.toInt (C.get (C.get (List.getD (C.elems (dk d2 1)) (Int.toNat (C.toInt (dk d2 4))) C.nil) 0) (Int.toNat 1)))++[UInt8.ofNat 32,UInt8.ofNat 102,UInt8.ofNat 97,UInt8.ofNat 114,UInt8.ofNat 32]++j7 (q35 (C.toInt (C.get (List.getD (C.elems (C.get (dk d2 0) 0)) (Int.toNat (C.toInt (C.get (C.get (List.getD (C.elems (dk d2 1)) (Int.toNat (C.toInt (dk d2 4))) C.nil) 0) (Int.toNat 0)))) C.nil) 0)) (C.toInt (C.get (List.getD (C.elems (C.get (dk d2 0) 0)) (Int.toNat (C.toInt (C.get (C.get (List.getD (C.elems (dk d2 1)) (Int.toNat (C.toInt (dk d2 4))) C.nil) 0) (Int.toNat 0)))) C.nil) 1)) (C.toInt (C.get (List.getD (C.elems (C.get (dk d2 0) 0)) (Int.toNat (C.toInt (C.get (C.get (List.getD (C.elems (dk d2 1)) (Int.toNat (C.toInt (dk d2 4))) C.nil) 0) (Int.toNat 1)))) C.nil) 0)) (C.toInt (C.get (List.getD (C.elems (C.get (dk d2 0) 0)) (Int.toNat (C.toInt (C.get (C.get (List.getD (C.elems (dk d2 1)) (Int.toNat (C.toInt (dk d2 4))) C.nil) 0) (Int.toNat 1)))) C.nil) 1))))]),C.int (wrap i64 (C.toInt (dk d2 4)+1))] [])else none)else none)else none)else none)else none)else none)else none)else none)))else none)else none)))else none)else none)else none)else none)else none)else none)else(bif Nat.beq (List.length (C.elems (dk d2 3))) (List.length (C.elems (dk d2 3)))then(k2 [C.slice (C.elems (dk d2 3))] [])else none)))
noncomputable def q0I {R:Type} (N:Nat) (a0:C) (k1:KD R):Option R:=(U2 N a0 (fun d1 m1=>(bif !decide (C.toInt (dk d1 0)=0)then(k1 [C.slice [],dk d1 0] [])else(jn (fun d2 m2=>(bif Nat.beq (List.length (C.elems (dk d2 0))) (List.length (C.elems (dk d2 0)))then(k1 [C.slice (C.elems (dk d2 0)),C.int 0] [])else none)) (fun k2=>(Z2 N (q1R N k2) [a0,C.get a0 1,C.int (↑(List.length (C.elems (C.get a0 1))):Int),C.slice [],C.int 0] []))))))
noncomputable def q0i {R:Type} (N:Nat):C→KD R→Option R:=lid "" (q0I N)
theorem q6h {R:Type} (N:Nat) (a0:C) (k:KD R):q0i N a0 k=q0I N a0 k:=by unfold q0i;rw[W1]
theorem z02 {R:Type} (N:Nat) (a0:C) (K:V→List (Key × O)→Option R):exF (X0 gl0) ((q6i N).ov R) q0Q (fun f r=>bif Nat.beq f 8 then(bif Nat.beq r 0 then[(1,5)]else bif Nat.beq r 8 then[(36,7),(7,6)]else bif Nat.beq r 9 then[(51,7),(58,7),(7,6)]else[])else[]) (fun f=>bif Nat.beq f 8 then z1N else[]) N 400 8 8 [.d b7 a0] A0 K=
  q0i N a0 (fun d1 m1=>K (V.tup [V.ts 16 Ty.str (C.elems (dk d1 0)),V.d (Ty.int i64) (dk d1 1)]) []):=by
 rw[q6h]
 exact(show _=jn (fun d1 m1=>(bif Nat.beq (List.length (C.elems (dk d1 0))) (List.length (C.elems (dk d1 0)))then
  (K (V.tup [V.ts 16 Ty.str (C.elems (dk d1 0)),V.d (Ty.int i64) (dk d1 1)]) [])
 else
  none)) (q0I N a0) by kernel_rfl).trans ((r6 _ _).trans (congrArg (q0I N a0) (funext fun _=>funext fun _=>by simp only[Nat.beq_refl,cond_true])))
noncomputable def q3T (N:Nat) {R:Type}:OvG R:=fun xs _ K=>match xs with
 | [.d t0 a0]=>if t0=b7 then q0i N a0 (fun d1 m1=>K (V.tup [V.ts 16 Ty.str (C.elems (dk d1 0)),V.d (Ty.int i64) (dk d1 1)]) [])else none
 |_=>none
theorem z1M (N:Nat) {R:Type}:GOk (X0 gl0) 8 (q3T N (R:=R)):=by
 intro xs A Kr r hr
 unfold q3T at hr
 split at hr
 ·simp only[Option.ite_none_right_eq_some]at hr
  obtain⟨hty,hr⟩:=hr
  subst hty
  rw[←z02]at hr
  exact okA (q6i N) hr
 ·cases hr
noncomputable def z3c:Hints:=[([1,0,1,1],⟨[],[(3,.sl 16 .str 5003)],[],[],[],[]⟩),
  ([4,1,0,1,1],⟨[1],[(3,.sl 16 .str 5003),(4,.d (.int .i64))],[],[],[],[]⟩),
  ([9],⟨[],[(2,.sl 16 .str 5002)],[],[],[],[]⟩)]
noncomputable def q63 (N:Nat):OvS (X0 gl0) where
 g R:=[(21,q4m N),(22,q4l N),(23,q6G N)]
 ok:=fun R=>List.forall_mem_cons.2 ⟨q88 N,List.forall_mem_cons.2 ⟨q83 N,List.forall_mem_cons.2 ⟨z5R N,fun _ h=>nomatch h⟩⟩⟩
noncomputable def q2l {R:Type} (N:Nat) (k2:KD R):KD R→List C→List Es→Option R:=(fun k3 d1 m1=>(bif decide (C.toInt (dk d1 2)<(↑(List.length (C.elems (C.get (dk d1 0) 1))):Int))then(if 0≤C.toInt (dk d1 2)∧C.toInt (dk d1 2)<(↑(List.length (C.elems (C.get (dk d1 0) 1))):Int)then(U0 N (dk d1 2) (fun d2 m2=>(if List.length (C.toStr (dk d2 0))+2≤140737488355328 then(U0 N (C.get (C.get (List.getD (C.elems (C.get (dk d1 0) 1)) (Int.toNat (C.toInt (dk d1 2))) C.nil) 0) (Int.toNat 0)) (fun d3 m3=>(if List.length (C.toStr (dk d2 0)++[UInt8.ofNat 58,UInt8.ofNat 32])+List.length (C.toStr (dk d3 0))≤140737488355328 then(if List.length (C.toStr (dk d2 0)++[UInt8.ofNat 58,UInt8.ofNat 32]++C.toStr (dk d3 0))+1≤140737488355328 then(W9 N (C.get (C.get (List.getD (C.elems (C.get (dk d1 0) 1)) (Int.toNat (C.toInt (dk d1 2))) C.nil) 1) (Int.toNat 0)) (fun d4 m4=>(if List.length (C.toStr (dk d2 0)++[UInt8.ofNat 58,UInt8.ofNat 32]++C.toStr (dk d3 0)++[UInt8.ofNat 32])+List.length (C.toStr (dk d4 0))≤140737488355328 then(if List.length (C.toStr (dk d2 0)++[UInt8.ofNat 58,UInt8.ofNat 32]++C.toStr (dk d3 0)++[UInt8.ofNat 32]++C.toStr (dk d4 0))+3≤140737488355328 then(W9 N (C.get (C.get (List.getD (C.elems (C.get (dk d1 0) 1)) (Int.toNat (C.toInt (dk d1 2))) C.nil) 1) (Int.toNat 1)) (fun d5 m5=>(if List.length (C.toStr (dk d2 0)++[UInt8.ofNat 58,UInt8.ofNat 32]++C.toStr (dk d3 0)++[UInt8.ofNat 32]++C.toStr (dk d4 0)++[UInt8.ofNat 32,UInt8.ofNat 45,UInt8.ofNat 32])+List.length (C.toStr (dk d5 0))≤140737488355328 then(if List.length (C.toStr (dk d2 0)++[UInt8.ofNat 58,UInt8.ofNat 32]++C.toStr (dk d3 0)++[UInt8.ofNat 32]++C.toStr (dk d4 0)++[UInt8.ofNat 32,UInt8.ofNat 45,UInt8.ofNat 32]++C.toStr (dk d5 0))+1≤140737488355328 then(U0 N (C.get (C.get (List.getD (C.elems (C.get (dk d1 0) 1)) (Int.toNat (C.toInt (dk d1 2))) C.nil) 0) (Int.toNat 1)) (fun d6 m6=>(if List.length (C.toStr (dk d2 0)++[UInt8.ofNat 58,UInt8.ofNat 32]++C.toStr (dk d3 0)++[UInt8.ofNat 32]++C.toStr (dk d4 0)++[UInt8.ofNat 32,UInt8.ofNat 45,UInt8.ofNat 32]++C.toStr (dk d5 0)++[UInt8.ofNat 32])+List.length (C.toStr (dk d6 0))≤140737488355328 then(if List.length (C.toStr (dk d2 0)++[UInt8.ofNat 58,UInt8.ofNat 32]++C.toStr (dk d3 0)++[UInt8.ofNat 32]++C.toStr (dk d4 0)++[UInt8.ofNat 32,UInt8.ofNat 45,UInt8.ofNat 32]++C.toStr (dk d5 0)++[UInt8.ofNat 32]++C.toStr (dk d6 0))+5≤140737488355328 then(if 0≤C.toInt (C.get (C.get (List.getD (C.elems (C.get (dk d1 0) 1)) (Int.toNat (C.toInt (dk d1 2))) C.nil) 0) (Int.toNat 0))∧C.toInt (C.get (C.get (List.getD (C.elems (C.get (dk d1 0) 1)) (Int.toNat (C.toInt (dk d1 2))) C.nil) 0) (Int.toNat 0))<(↑(List.length (C.elems (C.get (dk d1 0) 0))):Int)then(if 0≤C.toInt (C.get (C.get (List.getD (C.elems (C.get (dk d1 0) 1)) (Int.toNat (C.toInt (dk d1 2))) C.nil) 0) (Int.toNat 1))∧C.toInt (C.get (C.get (List.getD (C.elems (C.get (dk d1 0) 1)) (Int.toNat (C.toInt (dk d1 2))) C.nil) 0) (Int.toNat 1))<(↑(List.length (C.elems (C.get (dk d1 0) 0))):Int)then(q1C N (List.getD (C.elems (C.get (dk d1 0) 0)) (Int.toNat (C.toInt (C.get (C.get (List.getD (C.elems (C.get (dk d1 0) 1)) (Int.toNat (C.toInt (dk d1 2))) C.nil) 0) (Int.toNat 0)))) C.nil) (List.getD (C.elems (C.get (dk d1 0) 0)) (Int.toNat (C.toInt (C.get (C.get (List.getD (C.elems (C.get (dk d1 0) 1)) (Int.toNat (C.toInt (dk d1 2))) C.nil) 0) (Int.toNat 1)))) C.nil) (fun d7 m7=>(U0 N (dk d7 0) (fun d8 m8=>(if List.length (C.toStr (dk d2 0)++[UInt8.ofNat 58,UInt8.ofNat 32]++C.toStr (dk d3 0)++[UInt8.ofNat 32]++C.toStr (dk d4 0)++[UInt8.ofNat 32,UInt8.ofNat 45,UInt8.ofNat 32]++C.toStr (dk d5 0)++[UInt8.ofNat 32]++C.toStr (dk d6 0)++[UInt8.ofNat 32,UInt8.ofNat 102,UInt8.ofNat 97,UInt8.ofNat 114,UInt8.ofNat 32])+List.length (C.toStr (dk d8 0))≤140737488355328 then(bif Nat.beq (List.length (C.elems (dk d1 1))) (List.length (C.elems (dk d1 1)))then(if(List.length (C.elems (dk d1 1))+1)*16≤140737488355328∧List.length (C.elems (dk d1 1))+1≤9223372036854775807 then(bif Nat.beq (List.length (C.elems (dk d1 1))+1) (List.length (C.elems (dk d1 1)++[C.str (C.toStr (dk d2 0)++[UInt8.ofNat 58,UInt8.ofNat 32]++C.toStr (dk d3 0)++[UInt8.ofNat 32]++C.toStr (dk d4 0)++[UInt8.ofNat 32,UInt8.ofNat 45,UInt8.ofNat 32]++C.toStr (dk d5 0)++[UInt8.ofNat 32]++C.toStr (dk d6 0)++[UInt8.ofNat 32,UInt8.ofNat 102,UInt8.ofNat 97,UInt8.ofNat 114,UInt8.ofNat 32]++C.toStr (dk d8 0))]))then(k3 [dk d1 0,C.slice (C.elems (dk d1 1)++[C.str (C.toStr (dk d2 0)++[UInt8.ofNat 58,UInt8.ofNat 32]++C.toStr (dk d3 0)++[UInt8.ofNat 32]++C.toStr (dk d4 0)++[UInt8.ofNat 32,UInt8.ofNat 45,UInt8.ofNat 32]++C.toStr (dk d5 0)++[UInt8.ofNat 32]++C.toStr (dk d6 0)++[UInt8.ofNat 32,UInt8.ofNat 102,UInt8.ofNat 97,UInt8.ofNat 114,UInt8.ofNat 32]++C.toStr (dk d8 0))]),C.int (wrap i64 (C.toInt (dk d1 2)+1))] [])else none)else none)else none)else none)))))else none)else none)else none)else none)))else none)else none)))else none)else none)))else none)else none)))else none)))else none)else(bif Nat.beq (List.length (C.elems (dk d1 1))) (List.length (C.elems (dk d1 1)))then(k2 [C.slice (C.elems (dk d1 1))] [])else none)))
noncomputable def q02 {R:Type} (N:Nat) (a0:C) (k1:KD R):Option R:=(jn (fun d1 m1=>(bif Nat.beq (List.length (C.elems (dk d1 0))) (List.length (C.elems (dk d1 0)))then(k1 [C.slice (C.elems (dk d1 0))] [])else none)) (fun k2=>(Z2 N (q2l N k2) [a0,C.slice [],C.int 0] [])))
noncomputable def F7 {R:Type} (N:Nat):C→KD R→Option R:=lid "" (q02 N)
theorem q62 {R:Type} (N:Nat) (a0:C) (k:KD R):F7 N a0 k=q02 N a0 k:=by unfold F7;rw[W1]
theorem z1S {R:Type} (N:Nat) (a0:C) (K:V→List (Key × O)→Option R):exF (X0 gl0) ((q63 N).ov R) q0Q (fun f r=>bif Nat.beq f 11 then(bif Nat.beq r 0 then[(1,5)]else bif Nat.beq r 6 then[(20,7),(25,7),(31,7),(37,7),(43,7),(60,7),(61,7),(5,6)]else[])else[]) (fun f=>bif Nat.beq f 11 then z3c else[]) N 400 8 11 [.d b7 a0] A0 K=
  F7 N a0 (fun d1 m1=>K (V.ts 16 Ty.str (C.elems (dk d1 0))) []):=by
 rw[q62]
 exact(show _=jn (fun d1 m1=>(bif Nat.beq (List.length (C.elems (dk d1 0))) (List.length (C.elems (dk d1 0)))then
  (K (V.ts 16 Ty.str (C.elems (dk d1 0))) [])
 else
  none)) (q02 N a0) by kernel_rfl).trans ((r6 _ _).trans (congrArg (q02 N a0) (funext fun _=>funext fun _=>by simp only[Nat.beq_refl,cond_true])))
noncomputable def q4X (N:Nat) {R:Type}:OvG R:=fun xs _ K=>match xs with
 | [.d t0 a0]=>if t0=b7 then F7 N a0 (fun d1 m1=>K (V.ts 16 Ty.str (C.elems (dk d1 0))) [])else none
 |_=>none
theorem z3b (N:Nat) {R:Type}:GOk (X0 gl0) 11 (q4X N (R:=R)):=by
 intro xs A Kr r hr
 unfold q4X at hr
 split at hr
 ·simp only[Option.ite_none_right_eq_some]at hr
  obtain⟨hty,hr⟩:=hr
  subst hty
  rw[←z1S]at hr
  exact okA (q63 N) hr
 ·cases hr
end Go.Proofs.YtaopfcpeloodbaaDoor
namespace Go.Proofs.YtaopfcpeloodbaaDoor
open Go Go.E
open Go.IntKind (wrap u64 u32 u8 i64 i32)
set_option maxRecDepth 100000
set_option maxHeartbeats 4000000
set_option linter.unusedSimpArgs false
variable {R:Type} {N:Nat}
theorem y4I (c:C):q6n [c]=q3V c.toInt:=rfl
theorem y24 (c:C) (h:W64 c.toInt) (hN:100<N) (k:KD R):H0 N (.slice [c]) k=k [.str (q3V c.toInt)] []:=by
 rw[y4J [c] (by simpa using h) (by simp) hN,y4I]
def q9u (s t:C):Int:=q35 (s.get 0).toInt (s.get 1).toInt (t.get 0).toInt (t.get 1).toInt
def z9l (a b c d e f:List UInt8):List UInt8:=
 a++[UInt8.ofNat 58,UInt8.ofNat 32]++b++[UInt8.ofNat 32]++c++[UInt8.ofNat 32,UInt8.ofNat 45,UInt8.ofNat 32]++d++[UInt8.ofNat 32]++e++[UInt8.ofNat 32,UInt8.ofNat 102,UInt8.ofNat 97,UInt8.ofNat 114,UInt8.ofNat 32]++f
def z5b (sp:List C) (i:Nat) (e:C):C:=
 .str (z9l (j7 i) (j7 ((e.get 0).get 0).toInt) (q3V ((e.get 1).get 0).toInt) (q3V ((e.get 1).get 1).toInt) (j7 ((e.get 0).get 1).toInt) (j7 (q9u (sp.getD ((e.get 0).get 0).toInt.toNat .nil) (sp.getD ((e.get 0).get 1).toInt.toNat .nil))))
def q04 (sp ed:List C):List C:=(List.range ed.length).map fun i=>z5b sp i (ed.getD i .nil)
theorem q2s (sp ed:List C):(q04 sp ed).length=ed.length:=by simp[q04]
theorem z0B (sp ed:List C) {i:Nat} (hi:i<ed.length):(q04 sp ed).take (i+1)=(q04 sp ed).take i++[z5b sp i (ed.getD i .nil)]:=by
 rw[z45 (by rw[q2s];exact hi)]
 congr 2
 unfold q04
 rw[List.getD_eq_getElem?_getD,List.getElem?_map,List.getElem?_range hi]
 rfl
theorem z47 (u:Int) (h:u.natAbs≤2000):0≤u*u∧u*u≤4000000:=by
 have h1:(u*u).natAbs≤4000000:=by rw[Int.natAbs_mul];exact Nat.mul_le_mul h h
 have h2:0≤u*u:=by
  rcases Int.le_total 0 u with h|h
  ·exact Int.mul_nonneg h h
  ·exact Int.mul_nonneg_of_nonpos_of_nonpos h h
 omega
theorem z6Q (s t:C):W63 (q9u s t):=by
 unfold q9u q35 W63
 cases hq:(inB (s.get 0).toInt (s.get 1).toInt&&inB (t.get 0).toInt (t.get 1).toInt)
 ·simp
 ·simp only[inB,Bool.and_eq_true,decide_eq_true_eq]at hq
  have h1:=z47 ((s.get 0).toInt-(t.get 0).toInt) (by omega)
  have h2:=z47 ((s.get 1).toInt-(t.get 1).toInt) (by omega)
  rw[cond_true]
  omega
theorem y3j (s:C) (k:KD R):q1j N s k=k [.bool (inB (s.get 0).toInt (s.get 1).toInt)] []:=by
 rw[z0x]
 unfold q4n inB
 rw[r6]
 by_cases h1: -1000≤(s.get 0).toInt
 ·by_cases h2:(s.get 0).toInt≤1000
  ·by_cases h3: -1000≤(s.get 1).toInt
   ·simp only[h1,h2,h3,decide_true,cond_true,x3,w9,Bool.true_and]
   ·simp only[h1,h2,h3,decide_true,decide_false,cond_true,cond_false,x3,w9,Bool.true_and,Bool.false_and]
  ·simp only[h1,h2,decide_true,decide_false,cond_true,cond_false,x3,w9,Bool.true_and,Bool.false_and,Bool.and_false]
 ·simp only[h1,decide_false,cond_false,x3,w9,Bool.false_and]
theorem y3A (s t:C) (k:KD R):q1C N s t k=k [.int (q9u s t)] []:=by
 rw[q89]
 unfold q3l q9u q35
 rw[r6,y3j]
 cases h1:inB (s.get 0).toInt (s.get 1).toInt
 ·simp only[x3,u0,u7,w9,Bool.not_false,Bool.not_true,cond_true,cond_false,Bool.false_and]
 simp only[x3,w9,Bool.not_true,cond_false]
 rw[y3j]
 cases h2:inB (t.get 0).toInt (t.get 1).toInt
 ·simp only[x3,u0,u7,w9,Bool.not_false,Bool.not_true,cond_true,cond_false,Bool.and_false]
 simp only[inB,Bool.and_eq_true,decide_eq_true_eq]at h1 h2
 have q1:=z47 ((s.get 0).toInt-(t.get 0).toInt) (by omega)
 have q2:=z47 ((s.get 1).toInt-(t.get 1).toInt) (by omega)
 simp only[x3,u0,u7,w9,Bool.not_true,cond_false,Bool.and_self,cond_true]
 rw[wrap_i64 (n:=(s.get 0).toInt-(t.get 0).toInt) (by omega) (by omega),wrap_i64 (n:=(s.get 1).toInt-(t.get 1).toInt) (by omega) (by omega),wrap_i64 (n:=((s.get 0).toInt-(t.get 0).toInt)*((s.get 0).toInt-(t.get 0).toInt)) (by omega) (by omega),wrap_i64 (n:=((s.get 1).toInt-(t.get 1).toInt)*((s.get 1).toInt-(t.get 1).toInt)) (by omega) (by omega),wrap_i64 (by omega) (by omega)]
theorem z6f {w:C} (hc:chk w=0):(w.get 0).elems.length≤8∧(w.get 1).elems.length≤16∧∀e∈(w.get 1).elems,okE (w.get 0).elems.length e=true:=by
 unfold chk at hc
 split at hc
 ·cases hc
 ·split at hc
  ·rename_i h1 h2
   exact⟨by omega,by omega,List.all_eq_true.1 h2⟩
  ·cases hc
theorem z1u (w:C) (hw:q57 w) (hN:5000<N) (k:KD R):q0i N w k=
  if chk w≠0 then k [.slice [],.int (chk w)] []else k [.slice (q04 (w.get 0).elems (w.get 1).elems),.int 0] []:=by
 rw[q6h]
 unfold q0I
 rw[z7w w hw (show 2000<N by omega)]
 by_cases hc:chk w=0
 ·simp only[x3,x7,hc,decide_true,Bool.not_true,cond_false,ne_eq,not_true_eq_false,if_false]
  rw[r6]
  obtain⟨h8,h16,hok⟩:=z6f hc
  have hed:=hw.ed
  have e1:w.get 1= .slice (w.get 1).elems:=by rw[hw.eta];rfl
  generalize hE:(w.get 1).elems=E at*
  rw[e1]
  refine Eq.trans ?_ (U1 (F:=q1R N fun d2 m2=>bif Nat.beq (List.length (C.elems (dk d2 0))) (List.length (C.elems (dk d2 0)))then k [C.slice (C.elems (dk d2 0)),C.int 0] []else none)
   (fun i=>[w,.slice E,.int E.length,.slice ((q04 (w.get 0).elems E).take i),.int i]) (fun _=>[]) E.length (k [.slice (q04 (w.get 0).elems E),.int 0] []) ?_ ?_ (N:=N) (by omega))
  ·simp only[List.take_zero,Int.natCast_zero,x6]
  ·intro i hi rec
   have h1:(i:Int)<(E.length:Int):=by omega
   have hln:((q04 (w.get 0).elems E).take i).length=i:=by rw[List.length_take,q2s];omega
   have hm:q8i (E.getD i .nil):=hed _ (F9 hi)
   have hk:=hok _ (F9 hi)
   have g2:(i+1)*16≤140737488355328∧i+1≤9223372036854775807:=by omega
   rw[z0B _ _ hi]
   generalize hx:E.getD i .nil=x at hm hk
   unfold okE at hk
   simp only[Bool.and_eq_true,decide_eq_true_eq]at hk
   have la:=q2a hm.ends.x
   have lb:=q2a hm.ends.y
   have lc:=q5r hm.can.1
   have ld:=q5r hm.can.2.1
   have li:=q2a (n:=(i:Int)) (by unfold W63;omega)
   have lf:=q2a (z6Q ((w.get 0).elems.getD ((x.get 0).get 0).toInt.toNat .nil) ((w.get 0).elems.getD ((x.get 0).get 1).toInt.toNat .nil))
   unfold q1R
   simp only[x3,u0,u7,j4,Q1,x7,x6,h1,decide_true,cond_true,Int.natCast_nonneg,and_self,if_true,Int.toNat_natCast,hx,show Int.toNat 0=0 from rfl,show Int.toNat 1=1 from rfl,hk]
   unfold z5b z9l q9u
   unfold q9u at lf
   refine(if_pos (by omega)).trans ?_
   refine(if_pos (by simp only[x3,Y8,List.length_append,List.length_cons,List.length_nil];omega)).trans ?_
   refine(if_pos (by simp only[x3,Y8,List.length_append,List.length_cons,List.length_nil];omega)).trans ?_
   rw[y24 _ hm.can.1 (show 100<N by omega)]
   refine(if_pos (by simp only[x3,Y8,List.length_append,List.length_cons,List.length_nil];omega)).trans ?_
   refine(if_pos (by simp only[x3,Y8,List.length_append,List.length_cons,List.length_nil];omega)).trans ?_
   rw[y24 _ hm.can.2.1 (show 100<N by omega)]
   refine(if_pos (by simp only[x3,Y8,List.length_append,List.length_cons,List.length_nil];omega)).trans ?_
   refine(if_pos (by simp only[x3,Y8,List.length_append,List.length_cons,List.length_nil];omega)).trans ?_
   refine(if_pos (by simp only[x3,Y8,List.length_append,List.length_cons,List.length_nil];omega)).trans ?_
   refine(if_pos (by simp only[x3,Y8,List.length_append,List.length_cons,List.length_nil];omega)).trans ?_
   refine(if_pos (by simp only[x3,Y8,List.length_append,List.length_cons,List.length_nil];omega)).trans ?_
   simp only[x3,Y8,hln,Nat.beq_refl,cond_true,g2,and_self,if_true,List.length_append,List.length_cons,List.length_nil,Nat.zero_add,q09 (show i<4611686018427387904 by omega)]
  ·intro rec
   unfold q1R
   simp only[x3,u0,u7,j4,Q1,x7,x6,Int.lt_irrefl,decide_false,cond_false,Nat.beq_refl,cond_true,List.take_of_length_le (Nat.le_of_eq (q2s _ _))]
 ·simp only[x3,x7,hc,decide_false,Bool.not_false,cond_true,ne_eq,not_false_eq_true,if_true]
theorem q9c (w:C) (hw:q57 w) (hc:chk w=0) (hN:5000<N) (k:KD R):F7 N w k=k [.slice (q04 (w.get 0).elems (w.get 1).elems)] []:=by
 rw[q62]
 unfold q02
 rw[r6]
 obtain⟨h8,h16,hok⟩:=z6f hc
 have hed:=hw.ed
 have e1:w.get 1= .slice (w.get 1).elems:=by rw[hw.eta];rfl
 generalize hE:(w.get 1).elems=E at*
 refine Eq.trans ?_ (U1 (F:=q2l N fun d1 m1=>bif Nat.beq (List.length (C.elems (dk d1 0))) (List.length (C.elems (dk d1 0)))then k [C.slice (C.elems (dk d1 0))] []else none)
  (fun i=>[w,.slice ((q04 (w.get 0).elems E).take i),.int i]) (fun _=>[]) E.length (k [.slice (q04 (w.get 0).elems E)] []) ?_ ?_ (N:=N) (by omega))
 ·simp only[List.take_zero,Int.natCast_zero]
 ·intro i hi rec
  have h1:(i:Int)<(E.length:Int):=by omega
  have hln:((q04 (w.get 0).elems E).take i).length=i:=by rw[List.length_take,q2s];omega
  have hm:q8i (E.getD i .nil):=hed _ (F9 hi)
  have hk:=hok _ (F9 hi)
  have g2:(i+1)*16≤140737488355328∧i+1≤9223372036854775807:=by omega
  rw[z0B _ _ hi]
  generalize hx:E.getD i .nil=x at hm hk
  unfold okE at hk
  simp only[Bool.and_eq_true,decide_eq_true_eq]at hk
  have la:=q2a hm.ends.x
  have lb:=q2a hm.ends.y
  have lc:=q5r hm.can.1
  have ld:=q5r hm.can.2.1
  have li:=q2a (n:=(i:Int)) (by unfold W63;omega)
  have lf:=q2a (z6Q ((w.get 0).elems.getD ((x.get 0).get 0).toInt.toNat .nil) ((w.get 0).elems.getD ((x.get 0).get 1).toInt.toNat .nil))
  unfold q2l
  simp only[x3,u0,u7,x7,x6,hE,h1,decide_true,cond_true,Int.natCast_nonneg,and_self,if_true,Int.toNat_natCast,hx,show Int.toNat 0=0 from rfl,show Int.toNat 1=1 from rfl]
  unfold z5b z9l
  rw[q4J _ (by unfold W63;simp only[x7];omega) (show 100<N by omega)]
  simp only[x7]
  refine(if_pos (by simp only[x3,Y8,List.length_append,List.length_cons,List.length_nil];omega)).trans ?_
  rw[q4J _ hm.ends.x (show 100<N by omega)]
  refine(if_pos (by simp only[x3,Y8,List.length_append,List.length_cons,List.length_nil];omega)).trans ?_
  refine(if_pos (by simp only[x3,Y8,List.length_append,List.length_cons,List.length_nil];omega)).trans ?_
  rw[q9b _ hm.can.1 hm.can.2.2.1 (show 100<N by omega)]
  refine(if_pos (by simp only[x3,Y8,List.length_append,List.length_cons,List.length_nil];omega)).trans ?_
  refine(if_pos (by simp only[x3,Y8,List.length_append,List.length_cons,List.length_nil];omega)).trans ?_
  rw[q9b _ hm.can.2.1 hm.can.2.2.2 (show 100<N by omega)]
  refine(if_pos (by simp only[x3,Y8,List.length_append,List.length_cons,List.length_nil];omega)).trans ?_
  refine(if_pos (by simp only[x3,Y8,List.length_append,List.length_cons,List.length_nil];omega)).trans ?_
  rw[q4J _ hm.ends.y (show 100<N by omega)]
  refine(if_pos (by simp only[x3,Y8,List.length_append,List.length_cons,List.length_nil];omega)).trans ?_
  refine(if_pos (by simp only[x3,Y8,List.length_append,List.length_cons,List.length_nil];omega)).trans ?_
  refine(if_pos hk.1.1).trans ?_
  refine(if_pos hk.1.2).trans ?_
  rw[y3A]
  simp only[x3]
  have hF:=z6Q ((w.get 0).elems.getD ((x.get 0).get 0).toInt.toNat .nil) ((w.get 0).elems.getD ((x.get 0).get 1).toInt.toNat .nil)
  generalize q9u ((w.get 0).elems.getD ((x.get 0).get 0).toInt.toNat .nil) ((w.get 0).elems.getD ((x.get 0).get 1).toInt.toNat .nil)=F at hF lf ⊢
  rw[q4J (.int F) hF (show 100<N by omega)]
  simp only[x7]
  refine(if_pos (by simp only[x3,Y8,List.length_append,List.length_cons,List.length_nil];omega)).trans ?_
  simp only[x3,Y8,x7,hln,Nat.beq_refl,cond_true,g2,and_self,if_true,List.length_append,List.length_cons,List.length_nil,Nat.zero_add,q09 (show i<4611686018427387904 by omega)]
 ·intro rec
  unfold q2l
  simp only[x3,u0,u7,x7,x6,hE,Int.lt_irrefl,decide_false,cond_false,Nat.beq_refl,cond_true,List.take_of_length_le (Nat.le_of_eq (q2s _ _))]
end Go.Proofs.YtaopfcpeloodbaaDoor
namespace Go.Proofs.YtaopfcpeloodbaaDoor
open Go Go.E
open Go.IntKind (wrap u64 u32 u8 i64 i32)
set_option maxRecDepth 100000
set_option maxHeartbeats 4000000
set_option linter.unusedVariables false
noncomputable def z3m:Hints:=[([9],⟨[],[(0,.d .bool)],[],[],[],[]⟩)]
noncomputable def q7g (N:Nat):OvS (X0 gl0) where
 g R:=[(45,z2p N),(46,z2o N),(35,q5j N),(30,q53 N),(38,q3F N)]
 ok:=fun R=>List.forall_mem_cons.2 ⟨z8w N,List.forall_mem_cons.2 ⟨z8v N,List.forall_mem_cons.2 ⟨z0C N,List.forall_mem_cons.2 ⟨z4Z N,List.forall_mem_cons.2 ⟨z1q N,fun _ h=>nomatch h⟩⟩⟩⟩⟩
noncomputable def q3Z {R:Type} (N:Nat) (k1:KD R):Option R:=(k1 [C.bool true] [])
noncomputable def W4 {R:Type} (N:Nat):KD R→Option R:=lid "" (q3Z N)
theorem q7f {R:Type} (N:Nat) (k:KD R):W4 N k=q3Z N k:=by unfold W4;rw[W1]
theorem z2d {R:Type} (N:Nat) (K:V→List (Key × O)→Option R):exF (X0 gl0) ((q7g N).ov R) q0Q (fun f r=>bif Nat.beq f 13 then(bif Nat.beq r 0 then[(1,5)]else bif Nat.beq r 1 then[(28,4)]else bif Nat.beq r 5 then[(5,6)]else[])else bif Nat.beq f 24 then(bif Nat.beq r 0 then[(1,5)]else[])else[]) (fun f=>bif Nat.beq f 5 then z3m else[]) N 3000 20 5 [] A0 K=
  W4 N (fun d1 m1=>K (V.d Ty.bool (C.bool (C.toBool (dk d1 0)))) []):=by
 rw[q7f]
 exact(show _=jn (fun d1 m1=>(K (V.d Ty.bool (C.bool (C.toBool (dk d1 0)))) [])) (q3Z N) by kernel_rfl).trans (r6 _ _)
noncomputable def q43 (N:Nat) {R:Type}:OvG R:=fun xs _ K=>match xs with
 | []=>W4 N (fun d1 m1=>K (V.d Ty.bool (C.bool (C.toBool (dk d1 0)))) [])
 |_=>none
theorem z3l (N:Nat) {R:Type}:GOk (X0 gl0) 5 (q43 N (R:=R)):=by
 intro xs A Kr r hr
 unfold q43 at hr
 split at hr
 ·skip
  rw[←z2d]at hr
  exact okA (q7g N) hr
 ·cases hr
noncomputable def q8F:Hints:=[([0,2,1,0,1,1,1,1,1,1],⟨[],[(4,.d .bool)],[],[],[],[]⟩),
  ([0,0,1,1,1,1,1,1,1],⟨[1,2,6,7,8,9],[(56,.d .bool)],[],[],[],[]⟩),
  ([0,2,1,0,1,1,1,1,1,1,1],⟨[],[(4,.d .bool)],[],[],[],[]⟩),
  ([0,1,1,1,1,1,1,1,1],⟨[],[(4,.d .bool)],[],[],[],[]⟩),
  ([9],⟨[],[(4,.d .bool)],[],[],[],[]⟩)]
noncomputable def q3O (N:Nat):OvS (X0 gl0) where
 g R:=[(4,q44 N),(5,q43 N),(6,q7T N),(7,q5I N),(8,q3T N),(9,q4Y N),(10,q5S N),(11,q4X N),(12,q6F N)]
 ok:=fun R=>List.forall_mem_cons.2 ⟨z3n N,List.forall_mem_cons.2 ⟨z3l N,List.forall_mem_cons.2 ⟨z7L N,List.forall_mem_cons.2 ⟨z4F N,List.forall_mem_cons.2 ⟨z1M N,List.forall_mem_cons.2 ⟨z3d N,List.forall_mem_cons.2 ⟨z4R N,List.forall_mem_cons.2 ⟨z3b N,List.forall_mem_cons.2 ⟨z5N N,fun _ h=>nomatch h⟩⟩⟩⟩⟩⟩⟩⟩⟩
noncomputable def q0w {R:Type} (N:Nat) (a0 a1:C) (k1:KD R):Option R:=(q0E N a0 (fun d1 m1=>(bif !C.toBool (dk d1 0)then(W4 N (fun d2 m2=>(k1 [C.bool (C.toBool (dk d2 0))] [])))else(q2t N a0 (fun d2 m2=>(q01 N (dk d2 0) a1 (fun d3 m3=>(q0i N (dk d2 0) (fun d4 m4=>(q0C N a0 (fun d5 m5=>(bif !decide (C.toInt (dk d5 0)=0)then(jn (fun d6 m6=>(k1 [C.bool (C.toBool (dk d6 0))] [])) (fun k2=>(W4 N (fun d6 m6=>(bif C.toBool (dk d6 0)then(bif decide (C.toInt (dk d3 1)=C.toInt (dk d5 0))then(bif decide (C.toInt (dk d4 1)=C.toInt (dk d5 0))then(k2 [C.bool (decide (wrap i64 ((↑(List.length (C.elems (dk d3 0))):Int)+(↑(List.length (C.elems (dk d4 0))):Int))=0))] [])else(k2 [C.bool false] []))else(k2 [C.bool false] []))else(k2 [C.bool false] []))))))else(jn (fun d6 m6=>(bif C.toBool (dk d6 6)then(jn (fun d7 m7=>(k1 [C.bool (C.toBool (dk d7 0))] [])) (fun k2=>(W4 N (fun d7 m7=>(bif C.toBool (dk d7 0)then(bif decide (C.toInt (dk d6 3)=1)then(bif decide (C.toInt (dk d6 5)=0)then(F7 N (dk d6 1) (fun d8 m8=>(H4 N (dk d6 4) (C.slice (C.elems (dk d8 0))) (fun d9 m9=>(k2 [C.bool (C.toBool (dk d9 0))] [])))))else(k2 [C.bool false] []))else(k2 [C.bool false] []))else(k2 [C.bool false] []))))))else(jn (fun d7 m7=>(k1 [C.bool (C.toBool (dk d7 0))] [])) (fun k2=>(W4 N (fun d7 m7=>(bif C.toBool (dk d7 0)then(bif decide (C.toInt (dk d6 3)=0)then(bif decide (C.toInt (dk d6 5)=0)then(q1B N (dk d6 1) (dk d6 0) (fun d8 m8=>(H4 N (dk d6 2) (C.slice (C.elems (dk d8 0))) (fun d9 m9=>(bif C.toBool (dk d9 0)then(F7 N (dk d6 1) (fun d10 m10=>(H4 N (dk d6 4) (C.slice (C.elems (dk d10 0))) (fun d11 m11=>(k2 [C.bool (C.toBool (dk d11 0))] [])))))else(k2 [C.bool false] []))))))else(k2 [C.bool false] []))else(k2 [C.bool false] []))else(k2 [C.bool false] [])))))))) (fun k2=>(bif decide (C.toInt a1<1)then(k2 [a1,a0,C.slice (C.elems (dk d3 0)),dk d3 1,C.slice (C.elems (dk d4 0)),dk d4 1,C.bool true] [])else(k2 [a1,a0,C.slice (C.elems (dk d3 0)),dk d3 1,C.slice (C.elems (dk d4 0)),dk d4 1,C.bool (decide (40<C.toInt a1))] []))))))))))))))))
noncomputable def H5 {R:Type} (N:Nat):C→C→KD R→Option R:=lid "" (q0w N)
theorem q3N {R:Type} (N:Nat) (a0 a1:C) (k:KD R):H5 N a0 a1 k=q0w N a0 a1 k:=by unfold H5;rw[W1]
theorem q7S {R:Type} (N:Nat) (a0 a1:C) (K:V→List (Key × O)→Option R):exF (X0 gl0) ((q3O N).ov R) q0Q (fun f r=>bif Nat.beq f 3 then(bif Nat.beq r 0 then[(2,5)]else[])else[]) (fun f=>bif Nat.beq f 3 then q8F else[]) N 400 8 3 [.d b7 a0,.d (.int .i64) a1] A0 K=
  H5 N a0 a1 (fun d1 m1=>K (V.d Ty.bool (C.bool (C.toBool (dk d1 0)))) []):=by
 rw[q3N]
 exact(show _=jn (fun d1 m1=>(K (V.d Ty.bool (C.bool (C.toBool (dk d1 0)))) [])) (q0w N a0 a1) by kernel_rfl).trans (r6 _ _)
noncomputable def q0L (N:Nat) {R:Type}:OvG R:=fun xs _ K=>match xs with
 | [.d t0 a0,.d t1 a1]=>if t0=b7∧t1=(.int .i64)then H5 N a0 a1 (fun d1 m1=>K (V.d Ty.bool (C.bool (C.toBool (dk d1 0)))) [])else none
 |_=>none
theorem q8E (N:Nat) {R:Type}:GOk (X0 gl0) 3 (q0L N (R:=R)):=by
 intro xs A Kr r hr
 unfold q0L at hr
 split at hr
 ·simp only[Option.ite_none_right_eq_some]at hr
  obtain⟨hty,hr⟩:=hr
  obtain⟨rfl,rfl⟩:=hty
  rw[←q7S]at hr
  exact okA (q3O N) hr
 ·cases hr
end Go.Proofs.YtaopfcpeloodbaaDoor
namespace Go.Proofs.YtaopfcpeloodbaaDoor
open Go Go.E
open Go.IntKind (wrap u64 u32 u8 i64 i32)
set_option maxRecDepth 100000
set_option maxHeartbeats 4000000
set_option linter.unusedSimpArgs false
variable {R:Type} {N:Nat}
theorem q54 (k:KD R):W4 N k=k [.bool true] []:=by rw[q7f];rfl
theorem z41 (w a:C) (hw:C.wf b7 w) (ha:C.wf (.int .i64) a) (hN:6000<N) (k:KD R):H5 N w a k=k [.bool true] []:=by
 have W:=y4l hw
 obtain⟨A1,A2⟩:=q58 ha
 rw[q3N]
 unfold q0w
 rw[y2V]
 by_cases h1:(w.get 0).elems.length≤20∧(w.get 1).elems.length≤30
 case neg=>simp only[h1,x3,w9,decide_false,Bool.not_false,cond_true,q54]
 simp only[h1,x3,w9,and_self,decide_true,Bool.not_true,cond_false]
 rw[y5U w W h1.1 h1.2 (show 2000<N by omega)]
 simp only[x3]
 rw[y41 w a W A1 A2 (show 5000<N by omega)]
 by_cases hc:chk w=0
 case neg=>
  rw[if_pos hc,z1u w W (show 5000<N by omega),if_pos hc,q9d w W (show 2000<N by omega)]
  simp only[x3,u0,x7,x6,hc,decide_false,Bool.not_false,cond_true]
  rw[r6,q54]
  simp only[x3,w9,cond_true,decide_true]
  rfl
 rw[if_neg (by simpa using hc)]
 obtain⟨h8,h16,hok⟩:=z6f hc
 have hml:=q2r (w.get 0).elems a.toInt.toNat
 have hel:=q2s (w.get 0).elems (w.get 1).elems
 by_cases h2:a.toInt<1∨40<a.toInt
 ·rw[if_pos h2,z1u w W (show 5000<N by omega),if_neg (by simpa using hc),q9d w W (show 2000<N by omega)]
  simp only[x3,u0,x7,x6,hc,decide_true,Bool.not_true,cond_false]
  rw[r6]
  by_cases h3:a.toInt<1
  ·simp only[h3,decide_true,decide_false,cond_true,cond_false,x3,u0,u7,j4,Q1,Z0,Z8,w9,x7,x6]
   rw[r6,q54]
   simp only[x3,u0,u7,j4,Q1,Z0,Z8,w9,x7,x6,decide_true,cond_true]
   rw[q9c w W hc (show 5000<N by omega)]
   simp only[x3,u0,u7,j4,Q1,Z0,Z8,w9,x7,x6]
   rw[q9P _ _ (by omega) (show 2000<N by omega)]
   simp only[x3,u0,u7,j4,Q1,Z0,Z8,w9,x7,x6,decide_true]
  ·simp only[h3,show 40<a.toInt by omega,decide_true,decide_false,cond_true,cond_false,x3,u0,u7,j4,Q1,Z0,Z8,w9,x7,x6]
   rw[r6,q54]
   simp only[x3,u0,u7,j4,Q1,Z0,Z8,w9,x7,x6,decide_true,cond_true]
   rw[q9c w W hc (show 5000<N by omega)]
   simp only[x3,u0,u7,j4,Q1,Z0,Z8,w9,x7,x6]
   rw[q9P _ _ (by omega) (show 2000<N by omega)]
   simp only[x3,u0,u7,j4,Q1,Z0,Z8,w9,x7,x6,decide_true]
 ·rw[if_neg h2,z1u w W (show 5000<N by omega),if_neg (by simpa using hc),q9d w W (show 2000<N by omega)]
  simp only[x3,u0,x7,x6,hc,decide_true,Bool.not_true,cond_false]
  rw[r6]
  simp only[show ¬a.toInt<1 by omega,show ¬40<a.toInt by omega,decide_true,decide_false,cond_true,cond_false,x3,u0,u7,j4,Q1,Z0,Z8,w9,x7,x6]
  rw[r6,q54]
  simp only[x3,u0,u7,j4,Q1,Z0,Z8,w9,x7,x6,decide_true,cond_true]
  obtain⟨wd,rfl⟩:∃wd:Nat,a= .int wd:=⟨a.toInt.toNat,by rw[Int.toNat_of_nonneg (by omega)];exact A2⟩
  simp only[x7]at h2
  rw[y3z w W h8 wd (by omega) (show 5000<N by omega)]
  simp only[x3,u0,u7,j4,Q1,Z0,Z8,w9,x7,x6,Int.toNat_natCast]
  rw[q9P _ _ (by rw[q2r];omega) (show 2000<N by omega)]
  simp only[x3,u0,u7,j4,Q1,Z0,Z8,w9,x7,x6,decide_true,cond_true]
  rw[q9c w W hc (show 5000<N by omega)]
  simp only[x3,u0,u7,j4,Q1,Z0,Z8,w9,x7,x6]
  rw[q9P _ _ (by omega) (show 2000<N by omega)]
  simp only[x3,u0,u7,j4,Q1,Z0,Z8,w9,x7,x6,decide_true]
theorem z26 (A:Key→Option O) (w a:C):Q3 (X0 gl0) 3 [.d b7 w,.d (.int .i64) a] A (.d .bool (.bool true)) []:=by
 refine y1g (ts:=[b7,.int .i64]) (cs:=[w,a]) fun W=>?_
 refine y4H (q8E 6001) ?_
 show q0L 6001 [.d b7 w,.d (.int .i64) a] A kR=_
 simp only[q0L,and_self,if_true]
 rw[z41 w a (W 0 _ _ rfl rfl) (W 1 _ _ rfl rfl) (by omega)]
 rfl
end Go.Proofs.YtaopfcpeloodbaaDoor
