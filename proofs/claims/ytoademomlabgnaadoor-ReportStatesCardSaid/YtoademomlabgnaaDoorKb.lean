/-
 What the functions on the way compute, part 2.
 Conditions: none.
-/
import Derived.Test.YtoademomlabgnaaDoorKa
set_option linter.all false
namespace Go.Proofs.YtoademomlabgnaaDoor
open Go Go.E
open Go.IntKind (wrap u64 u32 u8 i64 i32)
set_option maxRecDepth 100000
set_option maxHeartbeats 4000000
set_option linter.unusedVariables false
noncomputable def z8j:Hints:=[([9],⟨[],[(2,.as (.ptr (.l 2) [] tOp))],[],[(.l 2,.box (.d tOp))],[],[]⟩)]
noncomputable def z0W (N:Nat):OvS (X0 gl0) where
 g R:=[(26,q5u N)]
 ok:=fun R=>List.forall_mem_cons.2 ⟨z0Y N,fun _ h=>nomatch h⟩
noncomputable def q4u {R:Type} (N:Nat) (a0:C) (k1:KD R):Option R:=(q1n N (C.get a0 2) (fun d1 m1=>(k1 [C.set (C.set (C.set (C.set (C.agg [C.int 0,C.int 0,C.agg [C.int 0,C.int 0,C.int 0,C.agg (List.replicate 32 (C.int 0)),C.int 0],C.int 0]) 0 (C.get a0 0)) 1 (C.get a0 1)) 2 (dk d1 0)) 3 (C.get a0 3)] [])))
noncomputable def q2u {R:Type} (N:Nat):C→KD R→Option R:=lid "" (q4u N)
theorem z0V {R:Type} (N:Nat) (a0:C) (k:KD R):q2u N a0 k=q4u N a0 k:=by unfold q2u;rw[Z8]
theorem z61 {R:Type} (N:Nat) (a0:C) (K:V→List (Key × O)→Option R):exF (X0 gl0) ((z0W N).ov R) q0e (fun f r=>bif Nat.beq f 11 then(bif Nat.beq r 0 then[(1,5)]else bif Nat.beq r 1 then[(9,7)]else[])else[]) (fun f=>bif Nat.beq f 11 then z8j else[]) N 400 8 11 [.d tOp a0] A0 K=
  q2u N a0 (fun d1 m1=>K (V.d tOp (dk d1 0)) []):=by
 rw[z0V]
 exact(show _=jn (fun d1 m1=>(K (V.d tOp (dk d1 0)) [])) (q4u N a0) by kernel_rfl).trans (p9 _ _)
noncomputable def q76 (N:Nat) {R:Type}:OvG R:=fun xs _ K=>match xs with
 | [.d t0 a0]=>if t0=tOp then q2u N a0 (fun d1 m1=>K (V.d tOp (dk d1 0)) [])else none
 |_=>none
theorem z8i (N:Nat) {R:Type}:GOk (X0 gl0) 11 (q76 N (R:=R)):=by
 intro xs A Kr r hr
 unfold q76 at hr
 split at hr
 ·simp only[Option.ite_none_right_eq_some]at hr
  obtain⟨hty,hr⟩:=hr
  subst hty
  rw[←z61]at hr
  exact okA (z0W N) hr
 ·cases hr
end Go.Proofs.YtoademomlabgnaaDoor
namespace Go.Proofs.YtoademomlabgnaaDoor
open Go Go.E
open Go.IntKind (wrap u64 u32 u8 i64 i32)
set_option maxRecDepth 100000
set_option maxHeartbeats 4000000
set_option linter.unusedSimpArgs false
variable {R:Type} {N:Nat}
structure OpR (o:C):Prop where
 eta:o= .agg [o.get 0,o.get 1,o.get 2,o.get 3]
 kd:W63 (o.get 0).toInt
 am:W64 (o.get 1).toInt
 am':q1N (o.get 1)
 cd:q6K (o.get 2)
 id:W64 (o.get 3).toInt
 id':q1N (o.get 3)
def q1W:List C:=[.str [UInt8.ofNat 112,UInt8.ofNat 97,UInt8.ofNat 115,UInt8.ofNat 115],.str [UInt8.ofNat 112,UInt8.ofNat 97,UInt8.ofNat 121],.str [UInt8.ofNat 108,UInt8.ofNat 111,UInt8.ofNat 99,UInt8.ofNat 107],.str [UInt8.ofNat 100,UInt8.ofNat 111,UInt8.ofNat 110,UInt8.ofNat 101],.str [UInt8.ofNat 117,UInt8.ofNat 110,UInt8.ofNat 100,UInt8.ofNat 111],.str [UInt8.ofNat 116,UInt8.ofNat 97,UInt8.ofNat 107,UInt8.ofNat 101]]
def z9X (c:C):List UInt8:=[UInt8.ofNat 108,UInt8.ofNat 111,UInt8.ofNat 99,UInt8.ofNat 107,UInt8.ofNat 32]++X5 (c.get 0).toInt++[UInt8.ofNat 32]++X5 (c.get 2).toInt++[UInt8.ofNat 32]++X5 (c.get 4).toInt++[UInt8.ofNat 32]++q2C (c.get 3)
def z5x (o:C):List UInt8:=
 if(o.get 0).toInt=0 then[UInt8.ofNat 112,UInt8.ofNat 97,UInt8.ofNat 115,UInt8.ofNat 115]else if(o.get 0).toInt=1 then[UInt8.ofNat 112,UInt8.ofNat 97,UInt8.ofNat 121,UInt8.ofNat 32]++X5 (o.get 1).toInt else if(o.get 0).toInt=2 then z9X (o.get 2)else if(o.get 0).toInt=3 then[UInt8.ofNat 100,UInt8.ofNat 111,UInt8.ofNat 110,UInt8.ofNat 101,UInt8.ofNat 32]++X5 (o.get 3).toInt
 else if(o.get 0).toInt=4 then[UInt8.ofNat 117,UInt8.ofNat 110,UInt8.ofNat 100,UInt8.ofNat 111,UInt8.ofNat 32]++X5 (o.get 3).toInt else if(o.get 0).toInt=5 then[UInt8.ofNat 116,UInt8.ofNat 97,UInt8.ofNat 107,UInt8.ofNat 101,UInt8.ofNat 32]++X5 (o.get 1).toInt else Q9 (o.get 0).toInt
theorem q5A (i:Nat) (hi:i<6) (a:C) (ha:a.toInt=i) (k:KD R):U2 N (.slice (cut q1W 0 6)) a k=k [q1W.getD i .nil] []:=by
 rw[q3V]
 unfold q06
 have e:cut q1W 0 6=q1W:=rfl
 have h1:¬(i:Int)<0:=by omega
 have hl:q1W.length=6:=rfl
 have h2:¬((6:Nat):Int)≤(i:Int):=by omega
 have h3:(0:Int)≤(i:Int)∧(i:Int)<((6:Nat):Int):=by omega
 simp only[p9,e,ha,h1,h2,h3,hl,X4,x7,Y4,Q5,Y8,decide_false,cond_false,and_self,if_true,Int.toNat_natCast]
theorem y2e (a:C) (ha:a.toInt<0∨6≤a.toInt) (k:KD R):U2 N (.slice (cut q1W 0 6)) a k=k [.str (Q9 a.toInt)] []:=by
 rw[q3V]
 unfold q06
 have e:cut q1W 0 6=q1W:=rfl
 have hl:q1W.length=6:=rfl
 by_cases h1:a.toInt<0
 ·simp only[p9,h1,x7,Y4,Q5,Y8,decide_true,cond_true]
 ·have h2:((6:Nat):Int)≤a.toInt:=by omega
  simp only[p9,e,h1,h2,hl,X4,x7,Y4,Q5,Y8,decide_true,decide_false,cond_false,cond_true]
theorem y2A (o:C) (h:OpR o) (hN:100<N) (k:KD R):q07 N o k=k [.str (z5x o)] []:=by
 have a1:=c7 h.am
 have a3:=c7 h.id
 have b1:=c7 h.cd.id
 have b2:=c7 h.cd.am
 have b3:=c7 h.cd.exp
 have b4:=q2j _ h.cd.hash
 rw[q8K]
 unfold q2O z5x
 by_cases z0:(o.get 0).toInt=0
 ·simp only[z0,decide_true,cond_true,if_true]
  all_goals rfl
 rw[if_neg z0,decide_eq_false z0,cond_false]
 by_cases z1:(o.get 0).toInt=1
 ·rw[if_pos z1,decide_eq_true z1,cond_true]
  rw[X2 _ h.am h.am' hN]
  exact if_pos (by simp only[x7,x8,x5,List.length_append,List.length_cons,List.length_nil];omega)
 rw[if_neg z1,decide_eq_false z1,cond_false]
 by_cases z2:(o.get 0).toInt=2
 ·rw[if_pos z2,decide_eq_true z2,cond_true]
  unfold z9X
  rw[X2 _ h.cd.id h.cd.id' hN]
  refine(if_pos (by simp only[x7,x8,x5,List.length_append,List.length_cons,List.length_nil];omega)).trans ?_
  refine(if_pos (by simp only[x7,x8,x5,List.length_append,List.length_cons,List.length_nil];omega)).trans ?_
  rw[X2 _ h.cd.am h.cd.am' hN]
  refine(if_pos (by simp only[x7,x8,x5,List.length_append,List.length_cons,List.length_nil];omega)).trans ?_
  refine(if_pos (by simp only[x7,x8,x5,List.length_append,List.length_cons,List.length_nil];omega)).trans ?_
  rw[X2 _ h.cd.exp h.cd.exp' hN]
  refine(if_pos (by simp only[x7,x8,x5,List.length_append,List.length_cons,List.length_nil];omega)).trans ?_
  refine(if_pos (by simp only[x7,x8,x5,List.length_append,List.length_cons,List.length_nil];omega)).trans ?_
  rw[z4q _ h.cd.hash hN]
  exact if_pos (by simp only[x7,x8,x5,List.length_append,List.length_cons,List.length_nil];omega)
 rw[if_neg z2,decide_eq_false z2,cond_false]
 by_cases z3:(o.get 0).toInt=3
 ·rw[if_pos z3,decide_eq_true z3,cond_true]
  rw[X2 _ h.id h.id' hN]
  exact if_pos (by simp only[x7,x8,x5,List.length_append,List.length_cons,List.length_nil];omega)
 rw[if_neg z3,decide_eq_false z3,cond_false]
 by_cases z4:(o.get 0).toInt=4
 ·rw[if_pos z4,decide_eq_true z4,cond_true]
  rw[X2 _ h.id h.id' hN]
  exact if_pos (by simp only[x7,x8,x5,List.length_append,List.length_cons,List.length_nil];omega)
 rw[if_neg z4,decide_eq_false z4,cond_false]
 by_cases z5:(o.get 0).toInt=5
 ·rw[if_pos z5,decide_eq_true z5,cond_true]
  rw[X2 _ h.am h.am' hN]
  exact if_pos (by simp only[x7,x8,x5,List.length_append,List.length_cons,List.length_nil];omega)
 rw[if_neg z5,decide_eq_false z5,cond_false]
 rw[z4r _ h.kd hN]
 rfl
theorem y6Z (a b c:C) (ha:W64 a.toInt) (hb:W64 b.toInt) (hc:W64 c.toInt) (hN:100<N) (k:KD R):k8 N (.slice [a,b,c]) k=k [.str (X5 a.toInt++[UInt8.ofNat 32]++(X5 b.toInt++[UInt8.ofNat 32]++X5 c.toInt))] []:=by
 rw[z6J [a,b,c] (fun x hx=>by simp only[List.mem_cons,List.mem_singleton,List.not_mem_nil,or_false]at hx;rcases hx with rfl|rfl|rfl;exact ha;exact hb;exact hc) (by simp) hN k]
 rfl
theorem y4T (o:C) (h:OpR o) (hN:100<N) (k:KD R):q0F N o k=k [.str (z5x o)] []:=by
 have a1:=c7 h.am
 have a3:=c7 h.id
 have b1:=c7 h.cd.id
 have b2:=c7 h.cd.am
 have b3:=c7 h.cd.exp
 have b4:=q2j _ h.cd.hash
 have a2:=z1F h.kd
 have hl:∀i,i<6→(q1W.getD i .nil).toStr.length≤4:=by decide
 rw[q7b]
 unfold q2n z5x
 show U2 N (.slice (cut q1W 0 6)) (o.get 0) _=_
 by_cases z0:(o.get 0).toInt=0
 ·rw[q5A 0 (by decide) (o.get 0) z0]
  have hw:=hl 0 (by decide)
  rw[if_pos z0]
  simp only[p9,x7,Y4,Q5,X6,Y8,x8,x5,q24,z0,Int.reduceEq,decide_true,decide_false,cond_true,cond_false]
  rfl
 by_cases z1:(o.get 0).toInt=1
 ·rw[q5A 1 (by decide) (o.get 0) z1]
  have hw:=hl 1 (by decide)
  rw[if_neg (show ¬(o.get 0).toInt=0 by omega),if_pos z1]
  simp only[p9,x7,Y4,Q5,X6,Y8,x8,x5,q24,z1,Int.reduceEq,decide_true,decide_false,cond_true,cond_false]
  rw[q7Z _ h.am hN]
  refine(if_pos (by simp only[x7,x8,x5,List.length_append,List.length_cons,List.length_nil];omega)).trans ?_
  refine(if_pos (by simp only[x7,x8,x5,List.length_append,List.length_cons,List.length_nil];omega)).trans ?_
  rfl
 by_cases z2:(o.get 0).toInt=2
 ·rw[q5A 2 (by decide) (o.get 0) z2]
  have hw:=hl 2 (by decide)
  rw[if_neg (show ¬(o.get 0).toInt=0 by omega),if_neg (show ¬(o.get 0).toInt=1 by omega),if_pos z2]
  simp only[p9,x7,Y4,Q5,X6,Y8,x8,x5,q24,z2,Int.reduceEq,decide_true,decide_false,cond_true,cond_false]
  rw[y6Z _ _ _ h.cd.id h.cd.am h.cd.exp hN]
  refine(if_pos (by simp only[x7,x8,x5,List.length_append,List.length_cons,List.length_nil];omega)).trans ?_
  refine(if_pos (by simp only[x7,x8,x5,List.length_append,List.length_cons,List.length_nil];omega)).trans ?_
  rw[z57 _ h.cd.hash hN]
  refine(if_pos (by simp only[x7,x8,x5,List.length_append,List.length_cons,List.length_nil];omega)).trans ?_
  refine(if_pos (by simp only[x7,x8,x5,List.length_append,List.length_cons,List.length_nil];omega)).trans ?_
  unfold z9X
  simp only[x7,x8,List.append_assoc]
  rfl
 by_cases z3:(o.get 0).toInt=3
 ·rw[q5A 3 (by decide) (o.get 0) z3]
  have hw:=hl 3 (by decide)
  rw[if_neg (show ¬(o.get 0).toInt=0 by omega),if_neg (show ¬(o.get 0).toInt=1 by omega),if_neg (show ¬(o.get 0).toInt=2 by omega),if_pos z3]
  simp only[p9,x7,Y4,Q5,X6,Y8,x8,x5,q24,z3,Int.reduceEq,decide_true,decide_false,cond_true,cond_false]
  rw[q7Z _ h.id hN]
  refine(if_pos (by simp only[x7,x8,x5,List.length_append,List.length_cons,List.length_nil];omega)).trans ?_
  refine(if_pos (by simp only[x7,x8,x5,List.length_append,List.length_cons,List.length_nil];omega)).trans ?_
  rfl
 by_cases z4:(o.get 0).toInt=4
 ·rw[q5A 4 (by decide) (o.get 0) z4]
  have hw:=hl 4 (by decide)
  rw[if_neg (show ¬(o.get 0).toInt=0 by omega),if_neg (show ¬(o.get 0).toInt=1 by omega),if_neg (show ¬(o.get 0).toInt=2 by omega),if_neg (show ¬(o.get 0).toInt=3 by omega),if_pos z4]
  simp only[p9,x7,Y4,Q5,X6,Y8,x8,x5,q24,z4,Int.reduceEq,decide_true,decide_false,cond_true,cond_false]
  rw[q7Z _ h.id hN]
  refine(if_pos (by simp only[x7,x8,x5,List.length_append,List.length_cons,List.length_nil];omega)).trans ?_
  refine(if_pos (by simp only[x7,x8,x5,List.length_append,List.length_cons,List.length_nil];omega)).trans ?_
  rfl
 by_cases z5:(o.get 0).toInt=5
 ·rw[q5A 5 (by decide) (o.get 0) z5]
  have hw:=hl 5 (by decide)
  rw[if_neg (show ¬(o.get 0).toInt=0 by omega),if_neg (show ¬(o.get 0).toInt=1 by omega),if_neg (show ¬(o.get 0).toInt=2 by omega),if_neg (show ¬(o.get 0).toInt=3 by omega),if_neg (show ¬(o.get 0).toInt=4 by omega),if_pos z5]
  simp only[p9,x7,Y4,Q5,X6,Y8,x8,x5,q24,z5,Int.reduceEq,decide_true,decide_false,cond_true,cond_false]
  rw[q7Z _ h.am hN]
  refine(if_pos (by simp only[x7,x8,x5,List.length_append,List.length_cons,List.length_nil];omega)).trans ?_
  refine(if_pos (by simp only[x7,x8,x5,List.length_append,List.length_cons,List.length_nil];omega)).trans ?_
  rfl
 rw[y2e _ (by omega)]
 rw[if_neg z0,if_neg z1,if_neg z2,if_neg z3,if_neg z4,if_neg z5]
 simp only[p9,x7,Y4,Q5,X6,Y8,x8,z1,z2,z3,z4,z5,decide_false,cond_false]
theorem y6u (o:C) (h:OpR o) (k:KD R):q2u N o k=k [o] []:=by
 rw[z0V]
 unfold q4u
 rw[q6R]
 unfold q2H
 simp only[q9k,q9j,q9i,q4J,q9h,x7]
 rw[←h.cd.eta,←h.eta]
end Go.Proofs.YtoademomlabgnaaDoor
namespace Go.Proofs.YtoademomlabgnaaDoor
open Go Go.E
open Go.IntKind (wrap u64 u32 u8 i64 i32)
set_option maxRecDepth 100000
set_option maxHeartbeats 4000000
set_option linter.unusedSimpArgs false
theorem z4a {b:UInt8}:∀{x x' r r':List UInt8},(∀c∈x,c≠b)→(∀c∈x',c≠b)→x++b::r=x'++b::r'→x=x'∧r=r'
 | [],[],_,_,_,_,h=>by simp at h;exact⟨rfl,h⟩
 | [],y::x',_,_,_,h2,h=>by simp at h;exact absurd h.1.symm (h2 y (by simp))
 |y::x,[],_,_,h1,_,h=>by simp at h;exact absurd h.1 (h1 y (by simp))
 |y::x,z::x',r,r',h1,h2,h=>by
  simp only[List.cons_append,List.cons.injEq]at h
  obtain⟨e1,e2⟩:=z4a (fun c hc=>h1 c (List.mem_cons_of_mem _ hc)) (fun c hc=>h2 c (List.mem_cons_of_mem _ hc)) h.2
  exact⟨by rw[h.1,e1],e2⟩
theorem z6K {a:Int} (h:W64 a):∀c∈X5 a,48≤c.toNat∧c.toNat≤57:=q8s (by have:=h.1;have:=h.2;omega)
theorem z9U {c:UInt8} (h:c.toNat=45∨48≤c.toNat):c≠UInt8.ofNat 32:=by
 intro e
 have:c.toNat=32:=by rw[e];rfl
 omega
theorem z1t {a b:Int} (ha:W64 a) (hb:W64 b) (h:X5 a=X5 b):a=b:=by
 have:=z1N (by have:=ha.1;have:=ha.2;omega) (by have:=hb.1;have:=hb.2;omega) h
 have h1:=ha.1
 have h2:=hb.1
 omega
theorem q3Y {a b:Int} (ha:W64 a) (hb:W64 b) {r r':List UInt8} (h:X5 a++UInt8.ofNat 32::r=X5 b++UInt8.ofNat 32::r'):a=b∧r=r':=by
 obtain⟨e1,e2⟩:=z4a (fun c hc=>z9U (.inr (z6K ha c hc).1)) (fun c hc=>z9U (.inr (z6K hb c hc).1)) h
 exact⟨z1t ha hb e1,e2⟩
theorem z66 {a:Int} (h:W63 a):∀c∈Q9 a,c.toNat=45∨48≤c.toNat:=by
 have h1:=h.1
 have h2:=h.2
 intro c hc
 unfold Q9 at hc
 by_cases h0:a<0
 ·rw[decide_eq_true h0,cond_true]at hc
  rcases List.mem_cons.1 hc with rfl|hc
  ·exact .inl rfl
  ·exact .inr (q8s (by omega) c hc).1
 ·rw[decide_eq_false h0,cond_false]at hc
  exact .inr (q8s (by omega) c hc).1
theorem z65 {a b:Int} (hb:W63 b) (h0:a<0) (h1:¬b<0) (h:Q9 a=Q9 b):False:=by
 have g1:=hb.1
 have g2:=hb.2
 unfold Q9 at h
 rw[decide_eq_true h0,decide_eq_false h1,cond_true,cond_false]at h
 have:=(q8s (n:=b.toNat) (by omega) 45 (by rw[←h];simp)).1
 revert this
 decide
theorem y1r {a b:Int} (ha:W63 a) (hb:W63 b) (h:Q9 a=Q9 b):a=b:=by
 have h1:=ha.1
 have h2:=ha.2
 have h3:=hb.1
 have h4:=hb.2
 by_cases z1:a<0 <;> by_cases z2:b<0
 ·unfold Q9 at h
  rw[decide_eq_true z1,decide_eq_true z2,cond_true,cond_true,List.cons.injEq]at h
  have:=z1N (n:=a.natAbs) (m:=b.natAbs) (by omega) (by omega) h.2
  omega
 ·exact(z65 hb z1 z2 h).elim
 ·exact(z65 ha z2 z1 h.symm).elim
 ·unfold Q9 at h
  rw[decide_eq_false z1,decide_eq_false z2,cond_false,cond_false]at h
  have:=z1N (n:=a.toNat) (m:=b.toNat) (by omega) (by omega) h
  omega
theorem y4o {a b:Int} (ha:W63 a) (hb:W63 b) {r r':List UInt8} (h:Q9 a++UInt8.ofNat 32::r=Q9 b++UInt8.ofNat 32::r'):a=b∧r=r':=by
 obtain⟨e1,e2⟩:=z4a (fun c hc=>z9U (z66 ha c hc)) (fun c hc=>z9U (z66 hb c hc)) h
 exact⟨y1r ha hb e1,e2⟩
theorem hex_inj:∀a,a<16→∀b,b<16→z3Q a=z3Q b→a=b:=by decide
theorem z14:∀(l m:List C),(∀x∈l,∃b:Nat,b<256∧x= .int (b:Int))→(∀x∈m,∃b:Nat,b<256∧x= .int (b:Int))→F8 l=F8 m→l=m
 | [],[],_,_,_=>rfl
 | [],y::m,_,_,h=>by have:=congrArg List.length h;rw[q1g,q1g]at this;simp at this
 |x::l,[],_,_,h=>by have:=congrArg List.length h;rw[q1g,q1g]at this;simp at this
 |x::l,y::m,h1,h2,h=>by
  obtain⟨a,ha,rfl⟩:=h1 x (by simp)
  obtain⟨b,hb,rfl⟩:=h2 y (by simp)
  unfold F8 at h
  simp only[List.flatMap_cons,y2S,x5,Int.toNat_natCast,List.cons_append,List.nil_append,List.cons.injEq]at h
  have e1:=hex_inj _ (by omega) _ (by omega) h.1
  have e2:=hex_inj _ (by omega) _ (by omega) h.2.1
  have:a=b:=by omega
  rw[this,z14 l m (fun x hx=>h1 x (List.mem_cons_of_mem _ hx)) (fun x hx=>h2 x (List.mem_cons_of_mem _ hx)) h.2.2]
theorem y02 {c d:C} (hc:q8B c) (hd:q8B d) {r r':List UInt8} (h:q2C c++r=q2C d++r'):c.elems.take 4=d.elems.take 4∧r=r':=by
 obtain⟨e1,e2⟩:=List.append_inj h (by rw[q2j c hc,q2j d hd])
 exact⟨z14 _ _ (fun x hx=>hc.byte x (List.take_subset _ _ hx)) (fun x hx=>hd.byte x (List.take_subset _ _ hx)) e1,e2⟩
theorem q9G {a b:C} (ha:q1N a) (hb:q1N b) (h:a.toInt=b.toInt):a=b:=by
 unfold q1N at ha hb
 rw[ha,hb,h]
theorem y2F {c d:C} (hc:q6K c) (hd:q6K d) (h:q9w c=q9w d):c.get 0=d.get 0∧c.get 1=d.get 1∧c.get 2=d.get 2∧(c.get 3).elems.take 4=(d.get 3).elems.take 4∧c.get 4=d.get 4:=by
 unfold q9w at h
 simp only[List.append_assoc,List.cons_append,List.nil_append,List.cons.injEq,true_and]at h
 obtain⟨e1,h⟩:=q3Y hc.id hd.id h
 simp only[List.cons.injEq,true_and]at h
 obtain⟨e2,h⟩:=y4o hc.by_ hd.by_ h
 simp only[List.cons.injEq,true_and]at h
 obtain⟨e3,h⟩:=q3Y hc.am hd.am h
 simp only[List.cons.injEq,true_and]at h
 obtain⟨e4,h⟩:=y02 hc.hash hd.hash h
 simp only[List.cons.injEq,true_and]at h
 exact⟨q9G hc.id' hd.id' e1,q9G hc.by' hd.by' e2,q9G hc.am' hd.am' e3,e4,q9G hc.exp' hd.exp' (z1t hc.exp hd.exp h)⟩
theorem z6u {c d:C} (hc:z0y c) (hd:z0y d) (h0:(c.get 0).toInt=(d.get 0).toInt) (h1:(c.get 1).toInt=(d.get 1).toInt):c=d:=by
 rw[hc.eta,hd.eta,q9G hc.a' hd.a' h0,q9G hc.b' hd.b' h1]
theorem y1A {s t:C} (hs:StR s) (ht:StR t) (h:q4w s=q4w t):s.get 0=t.get 0∧s.get 1=t.get 1∧s.get 2=t.get 2∧s.get 3=t.get 3:=by
 unfold q4w z1d at h
 simp only[List.append_assoc,List.cons_append,List.nil_append,List.cons.injEq,true_and]at h
 obtain⟨e1,h⟩:=q3Y hs.ch ht.ch h
 simp only[List.cons.injEq,true_and]at h
 obtain⟨e2,h⟩:=q3Y hs.rd ht.rd h
 simp only[List.cons.injEq,true_and]at h
 obtain⟨e3,h⟩:=q3Y hs.mv.a ht.mv.a h
 obtain⟨e4,h⟩:=q3Y hs.mv.b ht.mv.b h
 simp only[List.cons.injEq,true_and]at h
 obtain⟨e5,h⟩:=q3Y hs.tk.a ht.tk.a h
 exact⟨q9G hs.ch' ht.ch' e1,q9G hs.rd' ht.rd' e2,z6u hs.mv ht.mv e3 e4,z6u hs.tk ht.tk e5 (z1t hs.tk.b ht.tk.b h)⟩
set_option linter.unusedVariables false
noncomputable def z5n:Hints:=[([1,0,1,1],⟨[],[],[],[],[],[]⟩),
  ([4,1,0,1,1],⟨[0,1,12],[(13,.d (.int .i64))],[],[],[],[]⟩),
  ([9],⟨[],[(4,.d .bool)],[],[],[],[]⟩)]
noncomputable def q8S (N:Nat):OvS (X0 gl0) where
 g R:=[]
 ok:=fun R=>fun _ h=>nomatch h
noncomputable def q48 {R:Type} (N:Nat) (k1:KD R) (k2:KD R):KD R→List C→List Es→Option R:=(fun k3 d1 m1=>(bif decide (C.toInt (dk d1 3)<C.toInt (dk d1 2))then(if 0≤C.toInt (dk d1 3)∧C.toInt (dk d1 3)<(↑(List.length (C.elems (dk d1 0))):Int)then(if 0≤C.toInt (dk d1 3)∧C.toInt (dk d1 3)<(↑(List.length (C.elems (dk d1 1))):Int)then(bif !C.toStr (List.getD (C.elems (dk d1 0)) (Int.toNat (C.toInt (dk d1 3))) C.nil)==C.toStr (List.getD (C.elems (dk d1 1)) (Int.toNat (C.toInt (dk d1 3))) C.nil)then(k1 [C.bool false] [])else(k3 [dk d1 0,dk d1 1,dk d1 2,C.int (wrap i64 (C.toInt (dk d1 3)+1))] []))else none)else none)else(k2 [] [])))
noncomputable def q2S {R:Type} (N:Nat) (a0 a1:C) (k1:KD R):Option R:=(bif !decide ((↑(List.length (C.elems a0)):Int)=(↑(List.length (C.elems a1)):Int))then(k1 [C.bool false] [])else(jn (fun d1 m1=>(k1 [C.bool true] [])) (fun k2=>(Y1 N (q48 N k1 k2) [a0,a1,C.int (↑(List.length (C.elems a0)):Int),C.int 0] []))))
noncomputable def q0t {R:Type} (N:Nat):C→C→KD R→Option R:=lid "" (q2S N)
theorem q8R {R:Type} (N:Nat) (a0 a1:C) (k:KD R):q0t N a0 a1 k=q2S N a0 a1 k:=by unfold q0t;rw[Z8]
theorem z3K {R:Type} (N:Nat) (a0 a1:C) (K:V→List (Key × O)→Option R):exF (X0 gl0) ((q8S N).ov R) q0e noX (fun f=>bif Nat.beq f 8 then z5n else[]) N 400 8 8 [.d (.slice 16 .str) a0,.d (.slice 16 .str) a1] A0 K=
  q0t N a0 a1 (fun d1 m1=>K (V.d Ty.bool (C.bool (C.toBool (dk d1 0)))) []):=by
 rw[q8R]
 exact(show _=jn (fun d1 m1=>(K (V.d Ty.bool (C.bool (C.toBool (dk d1 0)))) [])) (q2S N a0 a1) by kernel_rfl).trans (p9 _ _)
noncomputable def q51 (N:Nat) {R:Type}:OvG R:=fun xs _ K=>match xs with
 | [.d t0 a0,.d t1 a1]=>if t0=(.slice 16 .str)∧t1=(.slice 16 .str)then q0t N a0 a1 (fun d1 m1=>K (V.d Ty.bool (C.bool (C.toBool (dk d1 0)))) [])else none
 |_=>none
theorem z5m (N:Nat) {R:Type}:GOk (X0 gl0) 8 (q51 N (R:=R)):=by
 intro xs A Kr r hr
 unfold q51 at hr
 split at hr
 ·simp only[Option.ite_none_right_eq_some]at hr
  obtain⟨hty,hr⟩:=hr
  obtain⟨rfl,rfl⟩:=hty
  rw[←z3K]at hr
  exact okA (q8S N) hr
 ·cases hr
noncomputable def z5g:Hints:=[([0,0,1],⟨[2,3],[(40,.d .bool)],[],[],[],[]⟩),
  ([1,0,1,1],⟨[],[],[],[],[],[]⟩),
  ([4,1,0,1,1],⟨[2,3],[(5,.d (.int .i64))],[],[],[],[]⟩),
  ([9],⟨[],[(4,.d .bool)],[],[],[],[]⟩)]
noncomputable def q8N (N:Nat):OvS (X0 gl0) where
 g R:=[]
 ok:=fun R=>fun _ h=>nomatch h
noncomputable def q44 {R:Type} (N:Nat) (k1:KD R) (k2:KD R):KD R→List C→List Es→Option R:=(fun k3 d2 m2=>(bif decide (C.toInt (dk d2 2)<(↑(List.length (C.elems (C.get (dk d2 0) 4))):Int))then(if 0≤C.toInt (dk d2 2)∧C.toInt (dk d2 2)<(↑(List.length (C.elems (C.get (dk d2 0) 4))):Int)then(if 0≤C.toInt (dk d2 2)∧C.toInt (dk d2 2)<(↑(List.length (C.elems (C.get (dk d2 1) 4))):Int)then(bif !C.beq (List.getD (C.elems (C.get (dk d2 0) 4)) (Int.toNat (C.toInt (dk d2 2))) C.nil) (List.getD (C.elems (C.get (dk d2 1) 4)) (Int.toNat (C.toInt (dk d2 2))) C.nil)then(k1 [C.bool false] [])else(k3 [dk d2 0,dk d2 1,C.int (wrap i64 (C.toInt (dk d2 2)+1))] []))else none)else none)else(k2 [] [])))
noncomputable def q2Q {R:Type} (N:Nat) (a0 a1:C) (k1:KD R):Option R:=(jn (fun d1 m1=>(bif C.toBool (dk d1 2)then(k1 [C.bool false] [])else(jn (fun d2 m2=>(k1 [C.bool true] [])) (fun k2=>(Y1 N (q44 N k1 k2) [dk d1 0,dk d1 1,C.int 0] []))))) (fun k2=>(bif !decide (C.toInt (C.get a0 0)=C.toInt (C.get a1 0))then(k2 [a0,a1,C.bool true] [])else(bif !decide (C.toInt (C.get a0 1)=C.toInt (C.get a1 1))then(k2 [a0,a1,C.bool true] [])else(bif !C.beq (C.get a0 2) (C.get a1 2)then(k2 [a0,a1,C.bool true] [])else(bif !C.beq (C.get a0 3) (C.get a1 3)then(k2 [a0,a1,C.bool true] [])else(k2 [a0,a1,C.bool !decide ((↑(List.length (C.elems (C.get a0 4))):Int)=(↑(List.length (C.elems (C.get a1 4))):Int))] [])))))))
noncomputable def q0n {R:Type} (N:Nat):C→C→KD R→Option R:=lid "" (q2Q N)
theorem q8M {R:Type} (N:Nat) (a0 a1:C) (k:KD R):q0n N a0 a1 k=q2Q N a0 a1 k:=by unfold q0n;rw[Z8]
theorem z3E {R:Type} (N:Nat) (a0 a1:C) (K:V→List (Key × O)→Option R):exF (X0 gl0) ((q8N N).ov R) q0e (fun f r=>bif Nat.beq f 13 then(bif Nat.beq r 0 then[(2,5),(3,5)]else[])else[]) (fun f=>bif Nat.beq f 13 then z5g else[]) N 400 8 13 [.d v7 a0,.d v7 a1] A0 K=
  q0n N a0 a1 (fun d1 m1=>K (V.d Ty.bool (C.bool (C.toBool (dk d1 0)))) []):=by
 rw[q8M]
 exact(show _=jn (fun d1 m1=>(K (V.d Ty.bool (C.bool (C.toBool (dk d1 0)))) [])) (q2Q N a0 a1) by kernel_rfl).trans (p9 _ _)
noncomputable def q5S (N:Nat) {R:Type}:OvG R:=fun xs _ K=>match xs with
 | [.d t0 a0,.d t1 a1]=>if t0=v7∧t1=v7 then q0n N a0 a1 (fun d1 m1=>K (V.d Ty.bool (C.bool (C.toBool (dk d1 0)))) [])else none
 |_=>none
theorem z5f (N:Nat) {R:Type}:GOk (X0 gl0) 13 (q5S N (R:=R)):=by
 intro xs A Kr r hr
 unfold q5S at hr
 split at hr
 ·simp only[Option.ite_none_right_eq_some]at hr
  obtain⟨hty,hr⟩:=hr
  obtain⟨rfl,rfl⟩:=hty
  rw[←z3E]at hr
  exact okA (q8N N) hr
 ·cases hr
noncomputable def z8h:Hints:=[([1,0,1,1],⟨[2,3],[],[],[(.l 3,.box (.agg v7 [.d (.int .u32),.d (.int .u64),.d (.arr 2 (.int .u64)),.d (.arr 2 (.int .u64)),(.ts 64 u1)]))],[],[]⟩),
  ([4,1,0,1,1],⟨[2,3,16,17],[(18,.d (.int .i64))],[],[(.l 3,.box (.agg v7 [.d (.int .u32),.d (.int .u64),.d (.arr 2 (.int .u64)),.d (.arr 2 (.int .u64)),(.ts 64 u1)]))],[],[]⟩),
  ([9],⟨[],[(2,.as (.ptr (.l 2) [] v7))],[],[(.l 2,.box (.d v7))],[],[]⟩)]
noncomputable def z0U (N:Nat):OvS (X0 gl0) where
 g R:=[(26,q5u N)]
 ok:=fun R=>List.forall_mem_cons.2 ⟨z0Y N,fun _ h=>nomatch h⟩
noncomputable def q4s {R:Type} (N:Nat) (k2:KD R):KD R→List C→List Es→Option R:=(fun k3 d1 m1=>(bif decide (C.toInt (dk d1 2)<C.toInt (dk d1 1))then(if 0≤C.toInt (dk d1 2)∧C.toInt (dk d1 2)<(↑(List.length (C.elems (dk d1 0))):Int)then(q1n N (List.getD (C.elems (dk d1 0)) (Int.toNat (C.toInt (dk d1 2))) C.nil) (fun d2 m2=>(bif Nat.beq (List.length (C.elems (dk d1 7))) (List.length (C.elems (dk d1 7)))then(if(List.length (C.elems (dk d1 7))+1)*64≤140737488355328∧List.length (C.elems (dk d1 7))+1≤9223372036854775807 then(bif Nat.beq (List.length (C.elems (dk d1 7))+1) (List.length (C.elems (dk d1 7)++[dk d2 0]))then(k3 [dk d1 0,dk d1 1,C.int (wrap i64 (C.toInt (dk d1 2)+1)),dk d1 3,dk d1 4,dk d1 5,dk d1 6,C.slice (C.elems (dk d1 7)++[dk d2 0]),dk d1 8] [])else none)else none)else none)))else none)else(k2 [dk d1 3,dk d1 4,dk d1 5,dk d1 6,C.slice (C.elems (dk d1 7)),dk d1 8] [])))
noncomputable def q4r {R:Type} (N:Nat) (a0:C) (k1:KD R):Option R:=(jn (fun d1 m1=>(k1 [C.agg [dk d1 0,dk d1 1,dk d1 2,dk d1 3,C.slice (C.elems (dk d1 4))]] [])) (fun k2=>(Y1 N (q4s N k2) [C.get a0 4,C.int (↑(List.length (C.elems (C.get a0 4))):Int),C.int 0,C.get a0 0,C.get a0 1,C.get a0 2,C.get a0 3,C.slice [],C.agg [u9 (Ty.int u32),u9 (Ty.int u64),u9 (Ty.arr 2 (Ty.int u64)),u9 (Ty.arr 2 (Ty.int u64)),C.slice []]] [])))
noncomputable def q0d {R:Type} (N:Nat):C→KD R→Option R:=lid "" (q4r N)
theorem z0T {R:Type} (N:Nat) (a0:C) (k:KD R):q0d N a0 k=q4r N a0 k:=by unfold q0d;rw[Z8]
theorem z60 {R:Type} (N:Nat) (a0:C) (K:V→List (Key × O)→Option R):exF (X0 gl0) ((z0U N).ov R) q0e (fun f r=>bif Nat.beq f 7 then(bif Nat.beq r 0 then[(1,5)]else bif Nat.beq r 5 then[(25,7),(5,6)]else[])else[]) (fun f=>bif Nat.beq f 7 then z8h else[]) N 400 8 7 [.d v7 a0] A0 K=
  q0d N a0 (fun d1 m1=>K (V.d v7 (dk d1 0)) []):=by
 rw[z0T]
 exact(show _=jn (fun d1 m1=>(K (V.d v7 (dk d1 0)) [])) (q4r N a0) by kernel_rfl).trans (p9 _ _)
noncomputable def q75 (N:Nat) {R:Type}:OvG R:=fun xs _ K=>match xs with
 | [.d t0 a0]=>if t0=v7 then q0d N a0 (fun d1 m1=>K (V.d v7 (dk d1 0)) [])else none
 |_=>none
theorem z8g (N:Nat) {R:Type}:GOk (X0 gl0) 7 (q75 N (R:=R)):=by
 intro xs A Kr r hr
 unfold q75 at hr
 split at hr
 ·simp only[Option.ite_none_right_eq_some]at hr
  obtain⟨hty,hr⟩:=hr
  subst hty
  rw[←z60]at hr
  exact okA (z0U N) hr
 ·cases hr
noncomputable def z3M:Hints:=[([9],⟨[],[(0,.d .bool)],[],[],[],[]⟩)]
noncomputable def q7t (N:Nat):OvS (X0 gl0) where
 g R:=[(53,z2M N),(40,q5t N),(54,q9N N),(42,q1V N),(43,q3K N)]
 ok:=fun R=>List.forall_mem_cons.2 ⟨z84 N,List.forall_mem_cons.2 ⟨z0R N,List.forall_mem_cons.2 ⟨z3W N,List.forall_mem_cons.2 ⟨q6c N,List.forall_mem_cons.2 ⟨q81 N,fun _ h=>nomatch h⟩⟩⟩⟩⟩
noncomputable def q32 {R:Type} (N:Nat) (k1:KD R):Option R:=(k1 [C.bool true] [])
noncomputable def U3 {R:Type} (N:Nat):KD R→Option R:=lid "" (q32 N)
theorem q7s {R:Type} (N:Nat) (k:KD R):U3 N k=q32 N k:=by unfold U3;rw[Z8]
theorem z2C {R:Type} (N:Nat) (K:V→List (Key × O)→Option R):exF (X0 gl0) ((q7t N).ov R) q0e (fun f r=>bif Nat.beq f 6 then(bif Nat.beq r 0 then[(1,5)]else bif Nat.beq r 1 then[(28,4)]else bif Nat.beq r 5 then[(5,6)]else[])else bif Nat.beq f 25 then(bif Nat.beq r 0 then[(1,5)]else[])else[]) (fun f=>bif Nat.beq f 5 then z3M else[]) N 3000 20 5 [] A0 K=
  U3 N (fun d1 m1=>K (V.d Ty.bool (C.bool (C.toBool (dk d1 0)))) []):=by
 rw[q7s]
 exact(show _=jn (fun d1 m1=>(K (V.d Ty.bool (C.bool (C.toBool (dk d1 0)))) [])) (q32 N) by kernel_rfl).trans (p9 _ _)
noncomputable def q49 (N:Nat) {R:Type}:OvG R:=fun xs _ K=>match xs with
 | []=>U3 N (fun d1 m1=>K (V.d Ty.bool (C.bool (C.toBool (dk d1 0)))) [])
 |_=>none
theorem z3L (N:Nat) {R:Type}:GOk (X0 gl0) 5 (q49 N (R:=R)):=by
 intro xs A Kr r hr
 unfold q49 at hr
 split at hr
 ·skip
  rw[←z2C]at hr
  exact okA (q7t N) hr
 ·cases hr
noncomputable def z5q:Hints:=[([9],⟨[],[(2,.as (.ptr (.l 2) [] u1))],[],[(.l 2,.box (.d u1))],[],[]⟩)]
noncomputable def q8U (N:Nat):OvS (X0 gl0) where
 g R:=[]
 ok:=fun R=>fun _ h=>nomatch h
noncomputable def q2T {R:Type} (N:Nat) (a0:C) (k1:KD R):Option R:=(k1 [C.set (C.set (C.set (C.set (C.set (C.agg [C.int 0,C.int 0,C.int 0,C.agg (List.replicate 32 (C.int 0)),C.int 0]) 0 (C.get a0 0)) 1 (C.get a0 1)) 2 (C.get a0 2)) 3 (C.get a0 3)) 4 (C.get a0 4)] [])
noncomputable def q0u {R:Type} (N:Nat):C→KD R→Option R:=lid "" (q2T N)
theorem q8T {R:Type} (N:Nat) (a0:C) (k:KD R):q0u N a0 k=q2T N a0 k:=by unfold q0u;rw[Z8]
theorem z3N {R:Type} (N:Nat) (a0:C) (K:V→List (Key × O)→Option R):exF (X0 gl0) ((q8U N).ov R) q0e (fun f r=>bif Nat.beq f 33 then(bif Nat.beq r 0 then[(1,5)]else[])else[]) (fun f=>bif Nat.beq f 33 then z5q else[]) N 400 8 33 [.d u1 a0] A0 K=
  q0u N a0 (fun d1 m1=>K (V.d u1 (dk d1 0)) []):=by
 rw[q8T]
 exact(show _=jn (fun d1 m1=>(K (V.d u1 (dk d1 0)) [])) (q2T N a0) by kernel_rfl).trans (p9 _ _)
noncomputable def q52 (N:Nat) {R:Type}:OvG R:=fun xs _ K=>match xs with
 | [.d t0 a0]=>if t0=u1 then q0u N a0 (fun d1 m1=>K (V.d u1 (dk d1 0)) [])else none
 |_=>none
theorem z5o (N:Nat) {R:Type}:GOk (X0 gl0) 33 (q52 N (R:=R)):=by
 intro xs A Kr r hr
 unfold q52 at hr
 split at hr
 ·simp only[Option.ite_none_right_eq_some]at hr
  obtain⟨hty,hr⟩:=hr
  subst hty
  rw[←z3N]at hr
  exact okA (q8U N) hr
 ·cases hr
noncomputable def q7v:Hints:=[([0,0,1],⟨[3,4,5],[(21,.d .bool)],[],[],[],[u1]⟩),
  ([0,0,1,1,1],⟨[3,4,7,8],[(41,.d .bool)],[],[],[],[u1]⟩),
  ([0,2,1,0,1,1,1,1],⟨[],[(6,.d .bool)],[],[],[],[u1]⟩),
  ([1,0,1,1,1,1,1,1],⟨[9,10],[],[],[],[],[u1]⟩),
  ([4,1,0,1,1,1,1,1,1],⟨[9,10,61],[(62,.d (.int .i64))],[],[],[],[u1]⟩),
  ([0,1,1,1,1,1,1,1],⟨[],[(6,.d .bool)],[],[],[],[u1]⟩),
  ([9],⟨[],[(6,.d .bool)],[],[],[],[u1]⟩)]
noncomputable def q26 (N:Nat):OvS (X0 gl0) where
 g R:=[(5,q49 N),(6,q3W N),(7,q75 N),(8,q51 N),(9,q43 N),(10,q42 N),(11,q76 N),(12,q5P N),(13,q5S N),(33,q52 N)]
 ok:=fun R=>List.forall_mem_cons.2 ⟨z3L N,List.forall_mem_cons.2 ⟨z2d N,List.forall_mem_cons.2 ⟨z8g N,List.forall_mem_cons.2 ⟨z5m N,List.forall_mem_cons.2 ⟨z3B N,List.forall_mem_cons.2 ⟨z3y N,List.forall_mem_cons.2 ⟨z8i N,List.forall_mem_cons.2 ⟨z5b N,List.forall_mem_cons.2 ⟨z5f N,List.forall_mem_cons.2 ⟨z5o N,fun _ h=>nomatch h⟩⟩⟩⟩⟩⟩⟩⟩⟩⟩
noncomputable def W1 {R:Type} (N:Nat) (k1:KD R) (k2:KD R):KD R→List C→List Es→Option R:=(fun k3 d12 m12=>(bif decide (C.toInt (dk d12 1)<C.toInt (dk d12 0))then(if 0≤C.toInt (dk d12 1)∧C.toInt (dk d12 1)<(↑(Int.toNat (C.toInt (dk d12 6))):Int)then(if 0≤C.toInt (dk d12 1)∧C.toInt (dk d12 1)<(↑(Int.toNat (C.toInt (dk d12 12))):Int)then(bif !C.beq (C.agg (List.take 4 (List.drop 0 (C.elems (C.get (C.get (dk d12 7) (0+Int.toNat (C.toInt (dk d12 1)))) 3))))) (C.agg (List.take 4 (List.drop 0 (C.elems (C.get (C.get (dk d12 13) (0+Int.toNat (C.toInt (dk d12 1)))) 3)))))then(k1 [C.bool false] [])else(if 0≤C.toInt (dk d12 1)∧C.toInt (dk d12 1)<(↑(Int.toNat (C.toInt (dk d12 6))):Int)then(if 0≤C.toInt (dk d12 1)∧C.toInt (dk d12 1)<(↑(Int.toNat (C.toInt (dk d12 12))):Int)then(if List.length (C.elems (dk d12 7))=List.length (C.elems (C.set (dk d12 7) (0+Int.toNat (C.toInt (dk d12 1))) (C.set (C.get (dk d12 7) (0+Int.toNat (C.toInt (dk d12 1)))) 3 (u9 (Ty.arr 32 (Ty.int u8))))))then(if List.length (C.elems (dk d12 13))=List.length (C.elems (C.set (dk d12 13) (0+Int.toNat (C.toInt (dk d12 1))) (C.set (C.get (dk d12 13) (0+Int.toNat (C.toInt (dk d12 1)))) 3 (u9 (Ty.arr 32 (Ty.int u8))))))then(k3 [dk d12 0,C.int (wrap i64 (C.toInt (dk d12 1)+1)),dk d12 2,dk d12 3,dk d12 4,dk d12 5,C.int (↑(Int.toNat (C.toInt (dk d12 6))):Int),C.set (dk d12 7) (0+Int.toNat (C.toInt (dk d12 1))) (C.set (C.get (dk d12 7) (0+Int.toNat (C.toInt (dk d12 1)))) 3 (u9 (Ty.arr 32 (Ty.int u8)))),dk d12 8,dk d12 9,dk d12 10,dk d12 11,C.int (↑(Int.toNat (C.toInt (dk d12 12))):Int),C.set (dk d12 13) (0+Int.toNat (C.toInt (dk d12 1))) (C.set (C.get (dk d12 13) (0+Int.toNat (C.toInt (dk d12 1)))) 3 (u9 (Ty.arr 32 (Ty.int u8))))] [])else none)else none)else none)else none))else none)else none)else(if List.length (C.elems (dk d12 7))=List.length (C.elems (dk d12 7))then(if List.length (C.elems (dk d12 13))=List.length (C.elems (dk d12 13))then(k2 [dk d12 2,dk d12 3,dk d12 4,dk d12 5,C.int (↑(Int.toNat (C.toInt (dk d12 6))):Int),dk d12 7,dk d12 8,dk d12 9,dk d12 10,dk d12 11,C.int (↑(Int.toNat (C.toInt (dk d12 12))):Int),dk d12 13] [])else none)else none)))
noncomputable def q1b {R:Type} (N:Nat) (k2:KD R):KD R→List C→List Es→Option R:=(fun k3 d11 m11=>(bif decide (C.toInt (dk d11 2)<C.toInt (dk d11 1))then(if 0≤C.toInt (dk d11 2)∧C.toInt (dk d11 2)<(↑(List.length (C.elems (dk d11 0))):Int)then(q0u N (List.getD (C.elems (dk d11 0)) (Int.toNat (C.toInt (dk d11 2))) C.nil) (fun d12 m12=>(if(Int.toNat (C.toInt (dk d11 12))+1)*64≤140737488355328∧Int.toNat (C.toInt (dk d11 12))+1≤9223372036854775807 then(if List.length (C.elems (dk d11 13))=List.length (C.elems (dk d11 13))then(if Int.toNat (C.toInt (dk d11 12))+1=List.length (List.take (Int.toNat (C.toInt (dk d11 12))) (C.elems (dk d11 14))++[dk d12 0])then(k3 [dk d11 0,dk d11 1,C.int (wrap i64 (C.toInt (dk d11 2)+1)),dk d11 3,dk d11 4,dk d11 5,dk d11 6,C.int (↑(Int.toNat (C.toInt (dk d11 7))):Int),dk d11 8,dk d11 9,dk d11 10,dk d11 11,C.int (↑(Int.toNat (C.toInt (dk d11 12))+1):Int),dk d11 13,C.agg (List.take (Int.toNat (C.toInt (dk d11 12))) (C.elems (dk d11 14))++[dk d12 0])] [])else none)else none)else none)))else none)else(if List.length (C.elems (dk d11 13))=List.length (C.elems (dk d11 13))then(if List.length (C.elems (dk d11 14))=List.length (C.elems (dk d11 14))then(k2 [dk d11 3,dk d11 4,dk d11 5,dk d11 6,C.int (↑(Int.toNat (C.toInt (dk d11 7))):Int),dk d11 8,dk d11 9,dk d11 10,dk d11 11,C.int (↑(Int.toNat (C.toInt (dk d11 12))):Int),dk d11 13,dk d11 14] [])else none)else none)))
noncomputable def Y0 {R:Type} (N:Nat) (k2:KD R):KD R→List C→List Es→Option R:=(fun k3 d9 m9=>(bif decide (C.toInt (dk d9 2)<C.toInt (dk d9 1))then(if 0≤C.toInt (dk d9 2)∧C.toInt (dk d9 2)<(↑(List.length (C.elems (dk d9 0))):Int)then(q0u N (List.getD (C.elems (dk d9 0)) (Int.toNat (C.toInt (dk d9 2))) C.nil) (fun d10 m10=>(if(Int.toNat (C.toInt (dk d9 12))+1)*64≤140737488355328∧Int.toNat (C.toInt (dk d9 12))+1≤9223372036854775807 then(if List.length (C.elems (dk d9 13))=List.length (C.elems (dk d9 13))then(if Int.toNat (C.toInt (dk d9 12))+1=List.length (List.take (Int.toNat (C.toInt (dk d9 12))) (C.elems (dk d9 14))++[dk d10 0])then(k3 [dk d9 0,dk d9 1,C.int (wrap i64 (C.toInt (dk d9 2)+1)),dk d9 3,dk d9 4,dk d9 5,dk d9 6,C.int (↑(Int.toNat (C.toInt (dk d9 7))):Int),dk d9 8,dk d9 9,dk d9 10,dk d9 11,C.int (↑(Int.toNat (C.toInt (dk d9 12))+1):Int),dk d9 13,C.agg (List.take (Int.toNat (C.toInt (dk d9 12))) (C.elems (dk d9 14))++[dk d10 0])] [])else none)else none)else none)))else none)else(if List.length (C.elems (dk d9 13))=List.length (C.elems (dk d9 13))then(if List.length (C.elems (dk d9 14))=List.length (C.elems (dk d9 14))then(k2 [dk d9 3,dk d9 4,dk d9 5,dk d9 6,C.int (↑(Int.toNat (C.toInt (dk d9 7))):Int),dk d9 8,dk d9 9,dk d9 10,dk d9 11,C.int (↑(Int.toNat (C.toInt (dk d9 12))):Int),dk d9 13,dk d9 14] [])else none)else none)))
noncomputable def H8 {R:Type} (N:Nat) (a0 a1 a2:C) (k1:KD R):Option R:=(jn (fun d1 m1=>(bif C.toBool (dk d1 3)then(U3 N (fun d2 m2=>(k1 [C.bool (C.toBool (dk d2 0))] [])))else(q0d N (dk d1 0) (fun d2 m2=>(J1 N (dk d2 0) (fun d3 m3=>(q0d N (dk d1 1) (fun d4 m4=>(J1 N (dk d4 0) (fun d5 m5=>(jn (fun d6 m6=>(bif C.toBool (dk d6 4)then(k1 [C.bool false] [])else(q0t N (dk d6 2) (dk d6 3) (fun d7 m7=>(bif !C.toBool (dk d7 0)then(jn (fun d8 m8=>(k1 [C.bool (C.toBool (dk d8 0))] [])) (fun k2=>(U3 N (fun d8 m8=>(bif C.toBool (dk d8 0)then(q0n N (dk d6 0) (dk d6 1) (fun d9 m9=>(k2 [C.bool !C.toBool (dk d9 0)] [])))else(k2 [C.bool false] []))))))else(q0d N (dk d6 0) (fun d8 m8=>(jn (fun d9 m9=>(q0d N (dk d6 1) (fun d10 m10=>(jn (fun d11 m11=>(jn (fun d12 m12=>(jn (fun d13 m13=>(k1 [C.bool (C.toBool (dk d13 0))] [])) (fun k2=>(U3 N (fun d13 m13=>(bif C.toBool (dk d13 0)then(q0n N (C.agg [dk d12 0,dk d12 1,dk d12 2,dk d12 3,C.slice (List.take (Int.toNat (C.toInt (dk d12 4))) (List.drop 0 (C.elems (dk d12 5))))]) (C.agg [dk d12 6,dk d12 7,dk d12 8,dk d12 9,C.slice (List.take (Int.toNat (C.toInt (dk d12 10))) (List.drop 0 (C.elems (dk d12 11))))]) (fun d14 m14=>(k2 [C.bool (C.toBool (dk d14 0))] [])))else(k2 [C.bool false] []))))))) (fun k2=>(if List.length (C.elems (dk d9 11))=List.length (C.elems (dk d9 11))then(if List.length (C.elems (dk d11 11))=List.length (C.elems (dk d11 11))then(Y1 N (W1 N k1 k2) [C.int (↑(Int.toNat (C.toInt (dk d9 9))):Int),C.int 0,dk d9 5,dk d9 6,dk d9 7,dk d9 8,C.int (↑(Int.toNat (C.toInt (dk d9 9))):Int),dk d9 11,dk d11 5,dk d11 6,dk d11 7,dk d11 8,C.int (↑(Int.toNat (C.toInt (dk d11 9))):Int),dk d11 11] [])else none)else none)))) (fun k2=>(Y1 N (q1b N k2) [C.get (dk d10 0) 4,C.int (↑(List.length (C.elems (C.get (dk d10 0) 4))):Int),C.int 0,u9 (Ty.int u32),u9 (Ty.int u64),u9 (Ty.arr 2 (Ty.int u64)),u9 (Ty.arr 2 (Ty.int u64)),C.int 0,C.get (dk d10 0) 0,C.get (dk d10 0) 1,C.get (dk d10 0) 2,C.get (dk d10 0) 3,C.int 0,C.agg [],C.agg []] [])))))) (fun k2=>(Y1 N (Y0 N k2) [C.get (dk d8 0) 4,C.int (↑(List.length (C.elems (C.get (dk d8 0) 4))):Int),C.int 0,u9 (Ty.int u32),u9 (Ty.int u64),u9 (Ty.arr 2 (Ty.int u64)),u9 (Ty.arr 2 (Ty.int u64)),C.int 0,C.get (dk d8 0) 0,C.get (dk d8 0) 1,C.get (dk d8 0) 2,C.get (dk d8 0) 3,C.int 0,C.agg [],C.agg []] [])))))))))) (fun k2=>(q0H N (dk d1 0) (fun d6 m6=>(q0t N (C.slice (C.elems (dk d3 0))) (C.slice (C.elems (dk d6 0))) (fun d7 m7=>(bif !C.toBool (dk d7 0)then(k2 [dk d1 0,dk d1 1,C.slice (C.elems (dk d3 0)),C.slice (C.elems (dk d5 0)),C.bool true] [])else(q2u N (dk d1 2) (fun d8 m8=>(q0F N (dk d8 0) (fun d9 m9=>(q07 N (dk d1 2) (fun d10 m10=>(k2 [dk d1 0,dk d1 1,C.slice (C.elems (dk d3 0)),C.slice (C.elems (dk d5 0)),C.bool !C.toStr (dk d9 0)==C.toStr (dk d10 0)] [])))))))))))))))))))))))) (fun k2=>(bif decide (40<(↑(List.length (C.elems (C.get a0 4))):Int))then(k2 [a0,a1,a2,C.bool true] [])else(k2 [a0,a1,a2,C.bool (decide (40<(↑(List.length (C.elems (C.get a1 4))):Int)))] []))))
noncomputable def W9 {R:Type} (N:Nat):C→C→C→KD R→Option R:=lid "" (H8 N)
theorem q25 {R:Type} (N:Nat) (a0 a1 a2:C) (k:KD R):W9 N a0 a1 a2 k=H8 N a0 a1 a2 k:=by unfold W9;rw[Z8]
theorem q6Q {R:Type} (N:Nat) (a0 a1 a2:C) (K:V→List (Key × O)→Option R):exF (X0 gl0) ((q26 N).ov R) q0e (fun f r=>bif Nat.beq f 3 then(bif Nat.beq r 0 then[(3,5),(4,5),(5,5)]else bif Nat.beq r 12 then[(72,18),(80,18)]else bif Nat.beq r 14 then[(2000009,19),(2000010,19),(83,19),(86,19)]else bif Nat.beq r 3 then[(24,7),(27,7)]else bif Nat.beq r 4 then[(32,7),(36,7),(37,7),(39,7)]else bif Nat.beq r 8 then[(54,7),(57,7)]else bif Nat.beq r 16 then[(99,8)]else[])else bif Nat.beq f 14 then(bif Nat.beq r 0 then[(1,5)]else bif Nat.beq r 5 then[(25,7),(5,6)]else[])else[]) (fun f=>bif Nat.beq f 3 then q7v else bif Nat.beq f 14 then[([1,0,1,1],⟨[2,3],[],[],[],[],[u1]⟩),([4,1,0,1,1],⟨[2,3,16,17],[(18,.d (.int .i64))],[],[],[],[u1]⟩)]else[]) N 400 8 3 [.d v7 a0,.d v7 a1,.d tOp a2] A0 K=
  W9 N a0 a1 a2 (fun d1 m1=>K (V.d Ty.bool (C.bool (C.toBool (dk d1 0)))) []):=by
 rw[q25]
 exact(show _=jn (fun d1 m1=>(K (V.d Ty.bool (C.bool (C.toBool (dk d1 0)))) [])) (H8 N a0 a1 a2) by kernel_rfl).trans (p9 _ _)
noncomputable def q0c (N:Nat) {R:Type}:OvG R:=fun xs _ K=>match xs with
 | [.d t0 a0,.d t1 a1,.d t2 a2]=>if t0=v7∧t1=v7∧t2=tOp then W9 N a0 a1 a2 (fun d1 m1=>K (V.d Ty.bool (C.bool (C.toBool (dk d1 0)))) [])else none
 |_=>none
theorem q7u (N:Nat) {R:Type}:GOk (X0 gl0) 3 (q0c N (R:=R)):=by
 intro xs A Kr r hr
 unfold q0c at hr
 split at hr
 ·simp only[Option.ite_none_right_eq_some]at hr
  obtain⟨hty,hr⟩:=hr
  obtain⟨rfl,rfl,rfl⟩:=hty
  rw[←q6Q]at hr
  exact okA (q26 N) hr
 ·cases hr
end Go.Proofs.YtoademomlabgnaaDoor
namespace Go.Proofs.YtoademomlabgnaaDoor
open Go Go.E
open Go.IntKind (wrap u64 u32 u8 i64 i32)
set_option maxRecDepth 100000
set_option maxHeartbeats 4000000
set_option linter.unusedSimpArgs false
variable {R:Type} {N:Nat}
theorem q4V {l:List C} {i:Nat} (h:i<l.length):l.drop i=l.getD i .nil::l.drop (i+1):=by
 rw[List.drop_eq_getElem_cons h,List.getD_eq_getElem?_getD,List.getElem?_eq_getElem h];rfl
theorem y39 (a b:List C) (ha:a.length≤1000) (hN:2000<N) (k:KD R):q0t N (.slice a) (.slice b) k=k [.bool (decide (a.map C.toStr=b.map C.toStr))] []:=by
 rw[q8R]
 unfold q2S
 simp only[p9,X4]
 by_cases hl:a.length=b.length
 case neg=>
  have h1:¬((a.length:Int)=(b.length:Int)):=by omega
  have h2:¬a.map C.toStr=b.map C.toStr:=fun e=>hl (by have:=congrArg List.length e;simpa using this)
  simp only[h1,h2,decide_false,Bool.not_false,cond_true]
 have h1:((a.length:Int)=(b.length:Int)):=by omega
 simp only[h1,decide_true,Bool.not_true,cond_false]
 rw[←h1]
 refine(q6C (F:=q48 N k fun d1 m1=>k [C.bool true] []) (fun i:Nat=>[.slice a,.slice b,.int a.length,.int i]) (fun _=>[]) (fun i=>a.length-i) (fun i=>i≤a.length)
  (fun i=>k [.bool (decide ((a.drop i).map C.toStr=(b.drop i).map C.toStr))] []) ?_ N 0 (Nat.zero_le _) (by omega)).trans rfl
 intro i hi rec hrec
 unfold q48
 by_cases hlt:i<a.length
 ·have g1:(i:Int)<(a.length:Int):=by omega
  have g2:(i:Int)<(b.length:Int):=by omega
  have hx:=q4V hlt
  have hy:=q4V (show i<b.length by omega)
  simp only[x7,Y4,Q5,X6,x5,X4,g1,g2,decide_true,cond_true,Int.natCast_nonneg,and_self,if_true,Int.toNat_natCast]
  rw[hx,hy]
  by_cases he:(a.getD i .nil).toStr=(b.getD i .nil).toStr
  ·rw[he,beq_self_eq_true,Bool.not_true,cond_false,q0h (show i<4611686018427387904 by omega),hrec (i+1) (by omega) (by omega)]
   simp only[List.map_cons,he,List.cons.injEq,true_and]
  ·rw[show((a.getD i .nil).toStr==(b.getD i .nil).toStr)=false from by simpa using he,Bool.not_false,cond_true]
   simp only[List.map_cons,he,List.cons.injEq,false_and,decide_false]
 ·have e:i=a.length:=by omega
  subst e
  simp only[Q5,X6,x5,Int.lt_irrefl,decide_false,cond_false]
  rw[List.drop_length,show b.drop a.length=[] from by rw[hl,List.drop_length]]
  simp
def q6j (s t:C):Bool:=decide ((s.get 0).toInt=(t.get 0).toInt)&&(decide ((s.get 1).toInt=(t.get 1).toInt)&&(C.beq (s.get 2) (t.get 2)&&(C.beq (s.get 3) (t.get 3)&&decide ((s.get 4).elems=(t.get 4).elems))))
theorem z9z (s:C):q6j s s=true:=by unfold q6j;simp only[decide_true,q9Y,Bool.and_self]
theorem z9n (s t:C) (hl:(s.get 4).elems.length≤1000) (hN:2000<N) (k:KD R):q0n N s t k=k [.bool (q6j s t)] []:=by
 rw[q8M]
 unfold q2Q q6j
 simp only[p9]
 by_cases h0:(s.get 0).toInt=(t.get 0).toInt
 case neg=>simp only[h0,decide_false,Bool.not_false,cond_true,Q5,Y8,Bool.false_and]
 by_cases h1:(s.get 1).toInt=(t.get 1).toInt
 case neg=>simp only[h0,h1,decide_true,decide_false,Bool.not_true,Bool.not_false,cond_true,cond_false,Q5,Y8,Bool.true_and,Bool.false_and]
 cases h2:C.beq (s.get 2) (t.get 2)
 case false=>simp only[h0,h1,decide_true,Bool.not_true,Bool.not_false,cond_true,cond_false,Q5,Y8,Bool.true_and,Bool.false_and]
 cases h3:C.beq (s.get 3) (t.get 3)
 case false=>simp only[h0,h1,decide_true,Bool.not_true,Bool.not_false,cond_true,cond_false,Q5,Y8,Bool.true_and,Bool.false_and]
 simp only[h0,h1,decide_true,Bool.not_true,cond_false,x7,Y4,Q5,Y8,Bool.true_and]
 by_cases hl2:(s.get 4).elems.length=(t.get 4).elems.length
 case neg=>
  have g1:¬(((s.get 4).elems.length:Int)=((t.get 4).elems.length:Int)):=by omega
  have g2:¬(s.get 4).elems=(t.get 4).elems:=fun e=>hl2 (by rw[e])
  simp only[g1,g2,decide_false,Bool.not_false,cond_true]
 have g1:(((s.get 4).elems.length:Int)=((t.get 4).elems.length:Int)):=by omega
 simp only[g1,decide_true,Bool.not_true,cond_false]
 refine(q6C (F:=q44 N k fun d1 m1=>k [C.bool true] []) (fun i:Nat=>[s,t,.int i]) (fun _=>[]) (fun i=>(s.get 4).elems.length-i) (fun i=>i≤(s.get 4).elems.length)
  (fun i=>k [.bool (decide ((s.get 4).elems.drop i=(t.get 4).elems.drop i))] []) ?_ N 0 (Nat.zero_le _) (by omega)).trans rfl
 intro i hi rec hrec
 unfold q44
 by_cases hlt:i<(s.get 4).elems.length
 ·have g1:(i:Int)<((s.get 4).elems.length:Int):=by omega
  have g2:(i:Int)<((t.get 4).elems.length:Int):=by omega
  have hx:=q4V hlt
  have hy:=q4V (show i<(t.get 4).elems.length by omega)
  simp only[x7,Y4,Q5,x5,g1,g2,decide_true,cond_true,Int.natCast_nonneg,and_self,if_true,Int.toNat_natCast]
  rw[hx,hy]
  by_cases he:(s.get 4).elems.getD i .nil=(t.get 4).elems.getD i .nil
  ·rw[he,q9Y,Bool.not_true,cond_false,q0h (show i<4611686018427387904 by omega),hrec (i+1) (by omega) (by omega)]
   simp only[List.cons.injEq,true_and]
  ·rw[z7S,decide_eq_false he,Bool.not_false,cond_true]
   simp only[he,List.cons.injEq,false_and,decide_false]
 ·have e:i=(s.get 4).elems.length:=by omega
  subst e
  simp only[x7,Q5,x5,Int.lt_irrefl,decide_false,cond_false,List.drop_length]
  rw[hl2,List.drop_length]
  simp
theorem z9v {l:List C} {i:Nat} (hi:i<l.length):l.take (i+1)=l.take i++[l.getD i .nil]:=by
 rw[List.take_add_one,List.getElem?_eq_getElem hi,List.getD_eq_getElem?_getD,List.getElem?_eq_getElem hi];rfl
theorem z8k (c:C) (h:q6K c) (k:KD R):q1n N c k=k [c] []:=by
 rw[q6R]
 unfold q2H
 simp only[q9k,q9j,q9i,q4J,q9h]
 rw[←h.eta]
theorem z5p (c:C) (h:q6K c) (k:KD R):q0u N c k=k [c] []:=by
 rw[q8T]
 unfold q2T
 simp only[q9k,q9j,q9i,q4J,q9h]
 rw[←h.eta]
theorem q4t (s:C) (h:StR s) (hN:2000<N) (k:KD R):q0d N s k=k [s] []:=by
 have he:=h.eta
 have hc:=h.cs
 have hl:=h.ln
 rw[z0T]
 unfold q4r
 rw[p9]
 generalize hcs:C.elems (C.get s 4)=cs at*
 generalize (C.agg [u9 (Ty.int u32),u9 (Ty.int u64),u9 (Ty.arr 2 (Ty.int u64)),u9 (Ty.arr 2 (Ty.int u64)),C.slice []])=Z
 have key:=q0i (F:=q4s N fun d1 m1=>k [C.agg [dk d1 0,dk d1 1,dk d1 2,dk d1 3,C.slice (C.elems (dk d1 4))]] []) (fun i=>[s.get 4,.int cs.length,.int i,s.get 0,s.get 1,s.get 2,s.get 3,.slice (cs.take i),Z]) (fun _=>[]) cs.length (k [s] []) ?_ ?_ (N:=N) (by omega)
 ·simpa using key
 ·intro i hi rec
  have h1:(i:Int)<(cs.length:Int):=by omega
  have h2:=hc _ (F5 hi)
  have h3:(cs.take i).length≤40:=by simp;omega
  have g1:((cs.take i).length+1)*64≤140737488355328∧(cs.take i).length+1≤9223372036854775807:=by omega
  unfold q4s
  simp only[x7,Y4,Q5,X6,q5e,q8p,q8o,q8n,q8m,x5,X4,hcs,h1,g1,decide_true,cond_true,Int.natCast_nonneg,and_self,if_true,Nat.beq_refl,Int.toNat_natCast,z8k _ h2,List.length_append,List.length_cons,List.length_nil,Nat.zero_add,q0h (show i<4611686018427387904 by omega),z9v hi]
 ·intro rec
  unfold q4s
  simp only[x7,Y4,Q5,X6,q5e,q8p,q8o,q8n,q8m,x5,X4,Int.lt_irrefl,decide_false,cond_false,List.take_length]
  rw[←he]
theorem y3Q (s:C) (h:StR s) (z0 z1 z2 z3:C) (hN:2000<N) (k:KD R):Y1 N (Y0 N k) [s.get 4,.int (s.get 4).elems.length,.int 0,z0,z1,z2,z3,.int 0,s.get 0,s.get 1,s.get 2,s.get 3,.int 0,.agg [],.agg []] []=
  k [z0,z1,z2,z3,.int 0,s.get 0,s.get 1,s.get 2,s.get 3,.int (s.get 4).elems.length,.agg [],.agg (s.get 4).elems] []:=by
 have hc:=h.cs
 have hl:=h.ln
 generalize hcs:C.elems (C.get s 4)=cs at*
 have key:=q0i (F:=Y0 N k) (fun i=>[s.get 4,.int cs.length,.int i,z0,z1,z2,z3,.int 0,s.get 0,s.get 1,s.get 2,s.get 3,.int i,.agg [],.agg (cs.take i)]) (fun _=>[]) cs.length (k [z0,z1,z2,z3,.int 0,s.get 0,s.get 1,s.get 2,s.get 3,.int cs.length,.agg [],.agg cs] []) ?_ ?_ (N:=N) (by omega)
 ·exact key
 ·intro i hi rec
  have h1:(i:Int)<(cs.length:Int):=by omega
  have h2:=hc _ (F5 hi)
  have h3:(cs.take i).take i=cs.take i:=by rw[List.take_take,Nat.min_self]
  have h4:(cs.take i).length=i:=by rw[List.length_take];omega
  have g1:(i+1)*64≤140737488355328∧i+1≤9223372036854775807:=by omega
  unfold Y0
  simp only[x7,Y4,Q5,X6,q5e,q8p,q8o,q8n,q8m,z1M,q8r,q8q,z5L,z5K,y3T,x5,z5N,hcs,h1,g1,decide_true,cond_true,Int.natCast_nonneg,and_self,if_true,Int.toNat_natCast,z5p _ h2,h3,h4,List.length_append,List.length_cons,List.length_nil,Nat.zero_add,q0h (show i<4611686018427387904 by omega),z9v hi,Int.toNat_zero]
  rfl
 ·intro rec
  unfold Y0
  simp only[x7,Y4,Q5,X6,q5e,q8p,q8o,q8n,q8m,z1M,q8r,q8q,z5L,z5K,y3T,x5,Int.lt_irrefl,decide_false,cond_false,List.take_length,if_true,Int.toNat_natCast,Int.toNat_zero]
  rfl
theorem y6q (s:C) (h:StR s) (z0 z1 z2 z3:C) (hN:2000<N) (k:KD R):Y1 N (q1b N k) [s.get 4,.int (s.get 4).elems.length,.int 0,z0,z1,z2,z3,.int 0,s.get 0,s.get 1,s.get 2,s.get 3,.int 0,.agg [],.agg []] []=
  k [z0,z1,z2,z3,.int 0,s.get 0,s.get 1,s.get 2,s.get 3,.int (s.get 4).elems.length,.agg [],.agg (s.get 4).elems] []:=by
 have e:q1b N k=Y0 (R:=R) N k:=rfl
 rw[e]
 exact y3Q s h z0 z1 z2 z3 hN k
end Go.Proofs.YtoademomlabgnaaDoor
namespace Go.Proofs.YtoademomlabgnaaDoor
open Go Go.E
open Go.IntKind (wrap u64 u32 u8 i64 i32)
set_option maxRecDepth 100000
set_option maxHeartbeats 4000000
set_option linter.unusedSimpArgs false
variable {R:Type} {N:Nat}
def Z3:C:=u9 (Ty.arr 32 (Ty.int u8))
def zH (c:C):C:=C.set c 3 Z3
def q2Y (l:List C) (i:Nat):List C:=(l.take i).map zH++l.drop i
theorem y4h (l:List C) (i:Nat):(q2Y l i).length=l.length:=by
 unfold q2Y
 simp only[List.length_append,List.length_map,List.length_take,List.length_drop];omega
theorem z8U {l:List C} {i:Nat} (h:i<l.length):C.get (.agg (q2Y l i)) i=l.getD i .nil:=by
 show(q2Y l i).getD i .nil=_
 have e:((l.take i).map zH).length=i:=by rw[List.length_map,List.length_take];omega
 rw[List.getD_eq_getElem?_getD,List.getD_eq_getElem?_getD]
 unfold q2Y
 rw[List.getElem?_append_right (by omega),e,Nat.sub_self,List.getElem?_drop,Nat.add_zero]
theorem z8T {l:List C} {i:Nat} (h:i<l.length):C.set (.agg (q2Y l i)) i (zH (l.getD i .nil))= .agg (q2Y l (i+1)):=by
 have e:((l.take i).map zH).length=i:=by rw[List.length_map,List.length_take];omega
 show C.agg ((q2Y l i).set i _)=_
 congr 1
 unfold q2Y
 rw[List.set_append_right _ _ (by omega),e,Nat.sub_self,q4V h,List.set_cons_zero,z9v h,List.map_append,List.append_assoc]
 rfl
theorem y3q (l m:List C) (hl:l.length=m.length) (h40:l.length≤40) (hsh:∀i,i<l.length→((l.getD i .nil).get 3).elems.take 4=((m.getD i .nil).get 3).elems.take 4) (x0 x1 x2 x3 y0 y1 y2 y3:C) (hN:2000<N) (k1 k2:KD R):
  Y1 N (W1 N k1 k2) [.int l.length,.int 0,x0,x1,x2,x3,.int l.length,.agg l,y0,y1,y2,y3,.int m.length,.agg m] []=k2 [x0,x1,x2,x3,.int l.length,.agg (l.map zH),y0,y1,y2,y3,.int m.length,.agg (m.map zH)] []:=by
 have key:=q0i (F:=W1 N k1 k2) (fun i=>[.int l.length,.int i,x0,x1,x2,x3,.int l.length,.agg (q2Y l i),y0,y1,y2,y3,.int m.length,.agg (q2Y m i)]) (fun _=>[]) l.length (k2 [x0,x1,x2,x3,.int l.length,.agg (l.map zH),y0,y1,y2,y3,.int m.length,.agg (m.map zH)] []) ?_ ?_ (N:=N) (by omega)
 ·exact key
 ·intro i hi rec
  have h1:(i:Int)<(l.length:Int):=by omega
  have h2:(i:Int)<(m.length:Int):=by omega
  have g1:=z8U hi
  have g2:=z8U (show i<m.length by omega)
  have s1:=z8T hi
  have s2:=z8T (show i<m.length by omega)
  unfold zH Z3 at s1 s2
  unfold W1
  simp only[x7,Y4,Q5,X6,q5e,q8p,q8o,q8n,q8m,z1M,q8r,q8q,z5L,z5K,x5,z5N,h1,h2,decide_true,cond_true,Int.natCast_nonneg,and_self,if_true,Int.toNat_natCast,Nat.zero_add,g1,g2,s1,s2,List.drop_zero,hsh i hi,q9Y,Bool.not_true,cond_false,y4h,q0h (show i<4611686018427387904 by omega)]
 ·intro rec
  have e1:q2Y l l.length=l.map zH:=by unfold q2Y;rw[List.take_length,List.drop_length,List.append_nil]
  have e2:q2Y m l.length=m.map zH:=by rw[hl];unfold q2Y;rw[List.take_length,List.drop_length,List.append_nil]
  unfold W1
  simp only[x7,Y4,Q5,X6,q5e,q8p,q8o,q8n,q8m,z1M,q8r,q8q,z5L,z5K,x5,Int.lt_irrefl,decide_false,cond_false,if_true,Int.toNat_natCast,e1,e2]
theorem q4Y {c:C} (h:C.wf (.int .u64) c):W64 c.toInt∧q1N c:=by
 have m1:u64.min=0:=by decide
 have m2:u64.max=18446744073709551615:=by decide
 exact⟨⟨by have:=h.2.1;omega,by have:=h.2.2;omega⟩,h.1⟩
theorem y5D {c:C} (h:C.wf (.int .u32) c):W64 c.toInt∧q1N c:=by
 have m1:u32.min=0:=by decide
 have m2:u32.max=4294967295:=by decide
 exact⟨⟨by have:=h.2.1;omega,by have:=h.2.2;omega⟩,h.1⟩
theorem y19 {c:C} (h:C.wf (.int .i64) c):W63 c.toInt∧q1N c:=by
 have m1:i64.min= -9223372036854775808:=by decide
 have m2:i64.max=9223372036854775807:=by decide
 exact⟨⟨by have:=h.2.1;omega,by have:=h.2.2;omega⟩,h.1⟩
theorem y4p {c:C} (h:C.wf (.arr 32 (.int .u8)) c):q8B c:=by
 simp only[C.wf]at h
 have m1:u8.min=0:=by decide
 have m2:u8.max=255:=by decide
 refine⟨h.1,h.2.1,fun x hx=>?_⟩
 obtain⟨a1,a2,a3⟩:=h.2.2 x hx
 exact⟨x.toInt.toNat,by omega,by rw[Int.toNat_of_nonneg (by omega)];exact a1⟩
theorem z8Q {c:C} (h:C.wf (.arr 2 (.int .u64)) c):z0y c:=by
 simp only[C.wf]at h
 obtain⟨h1,h2,h3⟩:=h
 have e:∀i,c.get i=c.elems.getD i .nil:=fun i=>by rw[h1];rfl
 have a:=q4Y (c:=c.get 0) (by rw[e];simp only[C.wf];exact h3 _ (F5 (by omega)))
 have b:=q4Y (c:=c.get 1) (by rw[e];simp only[C.wf];exact h3 _ (F5 (by omega)))
 refine⟨?_,a.1,a.2,b.1,b.2⟩
 rw[e,e]
 generalize hl:c.elems=l at*
 rw[h1]
 match l,h2 with
 | [x,y],_=>rfl
theorem z9j {c:C} (h:C.wf u1 c):q6K c:=by
 have a:=q4Y (C.W6 (i:=0) h rfl)
 have b:=y19 (C.W6 (i:=1) h rfl)
 have d:=q4Y (C.W6 (i:=2) h rfl)
 have e:=q4Y (C.W6 (i:=4) h rfl)
 exact⟨(C.z5V h).symm,a.1,a.2,b.1,b.2,d.1,d.2,y4p (C.W6 (i:=3) h rfl),e.1,e.2⟩
theorem z55 {c:C} (h:C.wf v7 c) (hl:(c.get 4).elems.length≤40):StR c:=by
 have a:=y5D (C.W6 (i:=0) h rfl)
 have b:=q4Y (C.W6 (i:=1) h rfl)
 have t:=C.W6 (i:=4) (f:=.slice 64 u1) h rfl
 simp only[C.wf]at t
 obtain⟨t1,_,_,t2⟩:=t
 exact⟨by rw[←t1];exact(C.z5V h).symm,a.1,a.2,b.1,b.2,z8Q (C.W6 (i:=2) h rfl),z8Q (C.W6 (i:=3) h rfl),fun x hx=>z9j (t2 x hx),hl⟩
theorem y6g {c:C} (h:C.wf tOp c):OpR c:=by
 have a:=y19 (C.W6 (i:=0) h rfl)
 have b:=q4Y (C.W6 (i:=1) h rfl)
 have d:=q4Y (C.W6 (i:=3) h rfl)
 exact⟨(C.z5V h).symm,a.1,b.1,b.2,z9j (C.W6 (i:=2) h rfl),d.1,d.2⟩
theorem y1h (s:C) (h:StR s):(q0O s).length≤1000:=by have:=h.ln;unfold q0O;simp only[List.length_cons,List.length_map];omega
theorem q5s (s:C):(q0O s).map C.toStr=q4w s::(s.get 4).elems.map q9w:=by
 unfold q0O
 rw[List.map_cons,List.map_map]
 rfl
theorem z9y {s t:C} (h:q6j s t=true):(q0O s).map C.toStr=(q0O t).map C.toStr:=by
 unfold q6j at h
 simp only[Bool.and_eq_true,decide_eq_true_eq,z7S]at h
 obtain⟨h0,h1,h2,h3,h4⟩:=h
 rw[q5s,q5s]
 unfold q4w
 rw[h0,h1,h2,h3,h4]
theorem y1i {s t:C} (hs:StR s) (ht:StR t) (h:(q0O s).map C.toStr=(q0O t).map C.toStr):
  s.get 0=t.get 0∧s.get 1=t.get 1∧s.get 2=t.get 2∧s.get 3=t.get 3∧(s.get 4).elems.length=(t.get 4).elems.length∧
  (∀i,i<(s.get 4).elems.length→(((s.get 4).elems.getD i .nil).get 3).elems.take 4=(((t.get 4).elems.getD i .nil).get 3).elems.take 4)∧(s.get 4).elems.map zH=(t.get 4).elems.map zH:=by
 rw[q5s,q5s,List.cons.injEq]at h
 obtain⟨h1,h2⟩:=h
 obtain⟨a0,a1,a2,a3⟩:=y1A hs ht h1
 have hl:(s.get 4).elems.length=(t.get 4).elems.length:=by have:=congrArg List.length h2;simpa using this
 have each:∀i,i<(s.get 4).elems.length→q9w ((s.get 4).elems.getD i .nil)=q9w ((t.get 4).elems.getD i .nil):=by
  intro i hi
  have:=congrArg (fun l=>l[i]?) h2
  simp only[List.getElem?_map,List.getElem?_eq_getElem hi,List.getElem?_eq_getElem (show i<(t.get 4).elems.length by omega),Option.map_some,Option.some.injEq]at this
  rw[List.getD_eq_getElem?_getD,List.getD_eq_getElem?_getD,List.getElem?_eq_getElem hi,List.getElem?_eq_getElem (show i<(t.get 4).elems.length by omega)]
  exact this
 have each2:=fun i hi=>y2F (hs.cs _ (F5 hi)) (ht.cs _ (F5 (show i<(t.get 4).elems.length by omega))) (each i hi)
 refine⟨a0,a1,a2,a3,hl,fun i hi=>(each2 i hi).2.2.2.1,?_⟩
 apply List.ext_getElem?
 intro i
 rw[List.getElem?_map,List.getElem?_map]
 by_cases hi:i<(s.get 4).elems.length
 ·obtain⟨e0,e1,e2,_,e4⟩:=each2 i hi
  have hs1:=(hs.cs _ (F5 hi)).eta
  have ht1:=(ht.cs _ (F5 (show i<(t.get 4).elems.length by omega))).eta
  rw[List.getD_eq_getElem?_getD,List.getElem?_eq_getElem hi,Option.getD_some]at e0 e1 e2 e4 hs1
  rw[List.getD_eq_getElem?_getD,List.getElem?_eq_getElem (show i<(t.get 4).elems.length by omega),Option.getD_some]at e0 e1 e2 e4 ht1
  rw[List.getElem?_eq_getElem hi,List.getElem?_eq_getElem (show i<(t.get 4).elems.length by omega),Option.map_some,Option.map_some]
  unfold zH
  rw[hs1,ht1,q4J,q4J,e0,e1,e2,e4]
 ·rw[List.getElem?_eq_none (by omega),List.getElem?_eq_none (by omega)]
theorem q8y (k:KD R):U3 N k=k [.bool true] []:=by rw[q7s];rfl
theorem z3o (s t o:C) (hs:C.wf v7 s) (ht:C.wf v7 t) (ho:C.wf tOp o) (hN:5000<N) (k:KD R):W9 N s t o k=k [.bool true] []:=by
 rw[q25]
 unfold H8
 rw[p9]
 by_cases h1:40<(s.get 4).elems.length
 ·have h1':(40:Int)<((s.get 4).elems.length:Int):=by omega
  simp only[h1',decide_true,cond_true,x7,X6,Y8,q8y]
 have h1':¬(40:Int)<((s.get 4).elems.length:Int):=by omega
 by_cases h2:40<(t.get 4).elems.length
 ·have h2':(40:Int)<((t.get 4).elems.length:Int):=by omega
  simp only[h1',h2',decide_true,decide_false,cond_true,cond_false,x7,X6,Y8,q8y]
 have h2':¬(40:Int)<((t.get 4).elems.length:Int):=by omega
 have Hs:=z55 hs (by omega)
 have Ht:=z55 ht (by omega)
 have Ho:=y6g ho
 rw[decide_eq_false h1',decide_eq_false h2',cond_false]
 simp only[x7,Y4,Q5,X6,Y8,cond_false,q4t s Hs (show 2000<N by omega),q4t t Ht (show 2000<N by omega),z7Y s Hs (show 100<N by omega),z7Y t Ht (show 100<N by omega)]
 rw[p9]
 simp only[y09 s Hs (show 100<N by omega),x7,X4,y39 _ _ (y1h s Hs) (show 2000<N by omega),decide_true,Y8,Bool.not_true,cond_false,y6u o Ho,y4T o Ho (show 100<N by omega),y2A o Ho (show 100<N by omega),x8,beq_self_eq_true,Y4,Q5,X6,q5e]
 by_cases h3:(q0O s).map C.toStr=(q0O t).map C.toStr
 case neg=>
  have e:q6j s t=false:=by
   cases hb:q6j s t
   ·rfl
   ·exact absurd (z9y hb) h3
  rw[decide_eq_false h3,Bool.not_false,cond_true,p9]
  have:=Hs.ln
  simp only[q8y,x7,Y8,cond_true,z9n s t (show _≤1000 by omega) (show 2000<N by omega),e,Bool.not_false]
 rw[decide_eq_true h3,Bool.not_true,cond_false]
 obtain⟨a0,a1,a2,a3,hl,hsh,hz⟩:=y1i Hs Ht h3
 rw[q4t s Hs (show 2000<N by omega),p9]
 simp only[x7]
 rw[y3Q s Hs _ _ _ _ (show 2000<N by omega),q4t t Ht (show 2000<N by omega),p9]
 simp only[x7,Y4,Q5,X6,q5e,q8p,q8o,q8n,q8m,z1M,q8r,q8q]
 rw[y6q t Ht _ _ _ _ (show 2000<N by omega),p9]
 simp only[x7,Y4,Q5,X6,q5e,q8p,q8o,q8n,q8m,z1M,q8r,q8q,if_true,x5,Int.toNat_natCast]
 rw[y3q _ _ hl (by have:=Hs.ln;omega) hsh _ _ _ _ _ _ _ _ (show 2000<N by omega),p9]
 simp only[x7,Y4,Q5,X6,q5e,q8p,q8o,q8n,q8m,z1M,q8r,q8q,x5,Int.toNat_natCast,z5N,List.drop_zero]
 rw[List.take_of_length_le (by rw[List.length_map];omega),List.take_of_length_le (by rw[List.length_map];omega),←hz,a0,a1,a2,a3]
 have hl4:(C.get (C.agg [t.get 0,t.get 1,t.get 2,t.get 3,.slice ((s.get 4).elems.map zH)]) 4).elems.length≤1000:=by
  show((s.get 4).elems.map zH).length≤1000
  rw[List.length_map];omega
 simp only[q8y,x7,Y8,cond_true,z9n _ _ hl4 (show 2000<N by omega),z9z]
theorem z1i (A:Key→Option O) (s t o:C):Q2 (X0 gl0) 3 [.d v7 s,.d v7 t,.d tOp o] A (.d .bool (.bool true)) []:=by
 refine y1S (ts:=[v7,v7,tOp]) (cs:=[s,t,o]) fun W=>?_
 refine y5n (q7u 5001) ?_
 show q0c 5001 [.d v7 s,.d v7 t,.d tOp o] A kR=_
 simp only[q0c,and_self,if_true]
 rw[z3o s t o (W 0 _ _ rfl rfl) (W 1 _ _ rfl rfl) (W 2 _ _ rfl rfl) (by omega)]
 rfl
end Go.Proofs.YtoademomlabgnaaDoor
