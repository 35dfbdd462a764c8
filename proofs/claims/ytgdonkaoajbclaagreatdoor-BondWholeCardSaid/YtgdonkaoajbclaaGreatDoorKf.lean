/-
What Go functions compute, part 6.
Conditions: none.
-/
import Derived.Test.YtgdonkaoajbclaaGreatDoorKe
set_option linter.all false
noncomputable section
set_option maxRecDepth 100000
set_option maxHeartbeats 4000000
open BEq renaming rfl->xh
open BitVec renaming ofInt->dt
open Bool renaming false_beq->ox,false_eq_true->fe,true_beq->pt
open Go.BinOp renaming and->dq
open Go.E.C renaming agg->dh,beq->mz,bool->cd,elems->ao,get->ax,int->aw,nil->du,set->ct,slice->bc,toBool->cz,toInt->aj
open Go.E.Ty renaming arr->cq,int->bn
open Go.E.V renaming tup->ou
open Go.IntKind renaming i64->ar,u32->cf,u64->av,u8->bp,wrap->al
open Go.IntWalk renaming i64_in->df
open Int renaming lt_irrefl->fa,mul_nonneg->oz,natCast_nonneg->bq,natCast_zero->wv,ofNat_zero->xz,tdiv->dx,tdiv_eq_ediv_of_nonneg->ei,tmod->bm,tmod_eq_emod_of_nonneg->dj,toNat->aq,toNat_natCast->bf
open List renaming append_assoc->dp,cons_append->ji,drop_of_length_le->oe,eq_of_mem_replicate->ik,flatMap_cons->ju,getD->bj,getD_eq_getElem?_getD->bh,getElem?_eq_getElem->bg,length->ak,length_append->bt,length_cons->cg,length_nil->de,mem_append->dw,mem_cons->fz,mem_cons_of_mem->ez,mem_cons_self->fl,mem_singleton->fq,nil_append->fx,not_mem_nil->ic,replicate->ay,take_length->iu
open Nat renaming beq->bw,beq_refl->br,mod_eq_of_lt->qg,zero_add->cm
namespace Go.Proofs.YtgdonkaoajbclaaGreatDoor
open Go Go.E
variable {R:Type} (N:Nat)
section
variable {R:Type} {N:Nat}
def q2j {l:List C} {i:Nat} (hi:i<l.length):l.take (i+1)=l.take i++[l.getD i .nil]:=by rw[List.take_add_one,bg hi,bh,bg hi];rfl
def ZA (c:C):Prop:=c= .agg [c.get 0,c.get 1,c.get 2,c.get 3,c.get 4]
def q75 (c:C) (h:ZA c) (k:KD R):Ru N c k=k [c] []:=by rw[xW];unfold dW;simp only[Hf,IM,YY,q1K,mP];rw[<-h]
def q72 (c:C) (h:ZA c) (k:KD R):Rt N c k=k [c] []:=by rw[xV];unfold dV;simp only[Hf,IM,YY,q1K,mP];rw[<-h]
structure StE (s:C):Prop where
 eta:SOk s
 cs:∀c∈AU s,ZA c
 ln:(AU s).length<=12
def q8b (s:C) (h:StE s) (hN:2000<N) (k:KD R):Rw N s k=k [s] []:=by
 have he:=h.eta;have hc:=h.cs;have hl:=h.ln;unfold SOk at he;rw[xY];unfold dY;rw[AP];unfold AU at he hc hl;generalize hcs:ao (ax s 4)=cs at*;generalize (dh [AJ (bn cf),AJ (bn av),AJ (cq 2 (bn av)),AJ (cq 2 (bn av)),bc []])=Z;have key:=DX (F:=Wa N fun d1 m1=>k [dh [dk d1 0,dk d1 1,dk d1 2,dk d1 3,bc (ao (dk d1 4))]] []) (fun i=>[s.get 4,.int cs.length,.int i,s.get 0,s.get 1,s.get 2,s.get 3,.slice (cs.take i),Z]) (fun _=>[]) cs.length (k [s] []) ?_ ?_ (N:=N) (by omega);{simpa using key}
 ·intro i hi rec;have h1:(i:Int)<(cs.length:Int):=by omega
  have h2:=hc _ (CT hi);have h3:(cs.take i).length<=12:=by simp;omega
  have g1:((cs.take i).length+1)*64<=140737488355328/\(cs.take i).length+1<=9223372036854775807:=by omega
  unfold Wa;simp only[AF,AK,AO,AV,Ac,Av,BW,Cm,DK,AB,AI,hcs,h1,g1,AE,bq,and_self,br,bf,q75 _ h2,bt,cg,de,cm,BK (show i<4611686018427387904 by omega),q2j hi]
 ·intro rec;unfold Wa;simp only[AF,AK,AO,AV,Ac,Av,BW,Cm,DK,AB,AI,fa,AE,iu];rw[<-he]
def q78 (s:C) (h:StE s) (hN:2000<N) (k:KD R):Rv N s k=k [s] []:=by
 have he:=h.eta;have hc:=h.cs;have hl:=h.ln;unfold SOk at he;rw[xX];unfold dX;rw[AP];unfold AU at he hc hl;generalize hcs:ao (ax s 4)=cs at*;generalize (dh [AJ (bn cf),AJ (bn av),AJ (cq 2 (bn av)),AJ (cq 2 (bn av)),bc []])=Z;have key:=DX (F:=WZ N fun d1 m1=>k [dh [dk d1 0,dk d1 1,dk d1 2,dk d1 3,bc (ao (dk d1 4))]] []) (fun i=>[s.get 4,.int cs.length,.int i,s.get 0,s.get 1,s.get 2,s.get 3,.slice (cs.take i),Z]) (fun _=>[]) cs.length (k [s] []) ?_ ?_ (N:=N) (by omega);{simpa using key}
 ·intro i hi rec;have h1:(i:Int)<(cs.length:Int):=by omega
  have h2:=hc _ (CT hi);have h3:(cs.take i).length<=12:=by simp;omega
  have g1:((cs.take i).length+1)*64<=140737488355328/\(cs.take i).length+1<=9223372036854775807:=by omega
  unfold WZ;simp only[AF,AK,AO,AV,Ac,Av,BW,Cm,DK,AB,AI,hcs,h1,g1,AE,bq,and_self,br,bf,q72 _ h2,bt,cg,de,cm,BK (show i<4611686018427387904 by omega),q2j hi]
 ·intro rec;unfold WZ;simp only[AF,AK,AO,AV,Ac,Av,BW,Cm,DK,AB,AI,fa,AE,iu];rw[<-he]
def stZ (id:Int):C:=.agg [.int id,.int 0,zz,zz,.slice []]
def z4A (id:Int):SOk (stZ id):=rfl
def X2 (a:Int) (k:KD R):PN N (.int a) k=k [stZ a] []:=by rw[X5];rfl
def UY (s:C) (id:Int):Bool:=decide ((s.get 0).toInt=id/\(s.get 1).toInt=0/\mz (s.get 2) zz=true/\mz (s.get 3) zz=true/\(s.get 4).elems.length=0)
def q3n (s:C) (id:Int) (hN:10<N) (k:KD R):Sx N s (stZ id) k=k [.bool (UY s id)] []:=by
 have he:∀k:KD R,Ud N (s.get 4) (.slice []) k=k [.bool (decide ((s.get 4).elems.length=0))] []:=fun k=>by
  obtain⟨M,rfl⟩:∃M,N=M+1:=⟨N-1,by omega⟩;rw[q1T];unfold mU;by_cases z:(s.get 4).elems.length=0
  ·have z':((s.get 4).elems.length:Int)=(([]:List C).length:Int):=by simp[z]
   simp only[AI,z,z',AP,Bq,AE];unfold q1S;simp[AB,AO,AV]
  ·have z':¬((s.get 4).elems.length:Int)=(([]:List C).length:Int):=by simpa using z
   simp only[AI,z,z',AE]
 have g0:(stZ id).get 0= .int id:=rfl;have g1:(stZ id).get 1= .int 0:=rfl;have g2:(stZ id).get 2=zz:=rfl;have g3:(stZ id).get 3=zz:=rfl;have g4:(stZ id).get 4= .slice []:=rfl;rw[X7];unfold iG UY;simp only[AP,g0,g1,g2,g3,g4,he,AB,AF,Ag];by_cases a0:(s.get 0).toInt=id
 case neg=>simp[a0,Ag,AF]
 by_cases a1:(s.get 1).toInt=0
 case neg=>simp[a1,Ag,AF]
 cases a2:mz (s.get 2) zz;{simp[a0,a1,Ag,AF]};cases a3:mz (s.get 3) zz;{simp[a0,a1,Ag,AF]};simp[a0,a1,Ag,AF]
end
def Xv {R:Type} (N:Nat) (k1:KD R) (k2:KD R):KD R->KD R:=fun k3 d2 m2=>(bif decide (aj (dk d2 2)<(↑(ak (ao (ax (dk d2 0) 4))):Int))then(if 0<=aj (dk d2 2)/\aj (dk d2 2)<(↑(ak (ao (ax (dk d2 0) 4))):Int)then(if 0<=aj (dk d2 2)/\aj (dk d2 2)<(↑(ak (ao (ax (dk d2 1) 4))):Int)then(bif !mz (bj (ao (ax (dk d2 0) 4)) (aq (aj (dk d2 2))) du) (bj (ao (ax (dk d2 1) 4)) (aq (aj (dk d2 2))) du)then(k1 [cd false] [])else(k3 [dk d2 0,dk d2 1,aw (al ar (aj (dk d2 2)+1))] []))else none)else none)else(k2 [] []))
def Xw (a0 a1:C) (k1:KD R):Option R:=jn (fun d1 m1=>(bif cz (dk d1 2)then(k1 [cd false] [])else(jn (fun d2 m2=>(k1 [cd true] [])) (fun k2=>(Ae N (Xv N k1 k2) [dk d1 0,dk d1 1,aw 0] []))))) (fun k2=>(bif !decide (aj (ax a0 0)=aj (ax a1 0))then(k2 [a0,a1,cd true] [])else(bif !decide (aj (ax a0 1)=aj (ax a1 1))then(k2 [a0,a1,cd true] [])else(bif !mz (ax a0 2) (ax a1 2)then(k2 [a0,a1,cd true] [])else(bif !mz (ax a0 3) (ax a1 3)then(k2 [a0,a1,cd true] [])else(k2 [a0,a1,cd !decide ((↑(ak (ao (ax a0 4))):Int)=(↑(ak (ao (ax a1 4))):Int))] []))))))
def Mu:=lid "" (@Xw R N)
def kS {R N a0 a1 k}:@Mu R N a0 a1 k=Xw N a0 a1 k:=by unfold Mu;rw[AW]
def z2C:OvG R:=Af [Bk,Bk] (Bl (Mu N)) Ev
def q0B:okX 16 (@z2C R N):=Ai AZ N [(16,[(0,[(2,5),(3,5)])])] [(16,[([0,0,1],(AY [2,3] [(40,.d .bool)])),
  ([1,0,1,1],(Ah [])),
  ([4,1,0,1,1],(AY [2,3] [(5,.d (.int .i64))])),
  ([9],(Ah [(4,.d .bool)]))])] (fun _ _=>kS)
def kW {R:Type} (N:Nat) (a0:C) (k1:KD R):Option R:=bif decide (2147483648<aj a0)then(k1 [aw 2147483648] [])else(k1 [aw (al cf (aj a0))] [])
def Pv:=lid "" (@kW R N)
def q0G {R N a0 k}:@Pv R N a0 k=kW N a0 k:=by unfold Pv;rw[AW]
def z2I:OvG R:=Af [.int .u64] (Bs (Pv N)) (BD (bn cf))
def z2J:okX 141 (@z2I R N):=Ai AZ N [] [(141,[([9],(Ah [(2,.d (.int .u32))]))])] (fun _ _=>q0G)
def kX (a0 a1 a2 a3 a4:C) (k1:KD R):Option R:=jn (fun d1 m1=>(k1 [cd (cz (dk d1 0))] [])) (fun k2=>(bif decide (aj a2=0)then(if 0<=Aj dq ar (aj a2) 1/\Aj dq ar (aj a2) 1<2 then(Pv N (ax a3 1) (fun d1 m1=>(Mv N a0 a3 (fun d2 m2=>(Pq N a0 a4 (ax (ax a1 0) (aq (Aj dq ar (aj a2) 1))) (ax a1 1) (dk d1 0) (dk d2 0) (fun d3 m3=>(k2 [cd (cz (dk d3 0))] [])))))))else none)else(bif decide (aj a2=1)then(if 0<=Aj dq ar (aj a2) 1/\Aj dq ar (aj a2) 1<2 then(Pv N (ax a3 1) (fun d1 m1=>(Mv N a0 a3 (fun d2 m2=>(Pq N a0 a4 (ax (ax a1 0) (aq (Aj dq ar (aj a2) 1))) (ax a1 1) (dk d1 0) (dk d2 0) (fun d3 m3=>(k2 [cd (cz (dk d3 0))] [])))))))else none)else(k2 [cd false] []))))
def Pw:=lid "" (@kX R N)
def q0H {R N a0 a1 a2 a3 a4 k}:@Pw R N a0 a1 a2 a3 a4 k=kX N a0 a1 a2 a3 a4 k:=by unfold Pw;rw[AW]
def z2K:OvG R:=Af [Br,Gu,.int .i64,Bk,Cd] (fun a=>Pw N (a 0) (a 1) (a 2) (a 3) (a 4)) Ev
def z2L:okX 124 (@z2K R N):=Ai (AH (q0J N) <| AH (z15 N) <| AH (z2J N) <| AZ) N [(124,[(0,[(5,5),(6,5),(8,5),(9,5)]),(1,[(29,7),(32,7),(33,7)])])] [(124,[([0,1],(Ah [(10,.d .bool)])),
  ([9],(Ah [(10,.d .bool)]))])] (fun _ _=>q0H)
def lC (a0 a1 a2 a3:C) (k1:KD R):Option R:=bif !decide (aj (ax (ax a2 0) 0)=aj a3)then(k1 [cd false] [])else(bif decide (aj (ax (ax a2 0) 1)=0)then(Mu N (ax a2 0) (dh [a3,AJ (bn av),AJ (cq 2 (bn av)),AJ (cq 2 (bn av)),bc []]) (fun d1 m1=>(k1 [cd (cz (dk d1 0))] [])))else(jn (fun d1 m1=>(k1 [cd (cz (dk d1 0))] [])) (fun k2=>(Pw N a0 a1 (aw 0) (ax a2 0) (ax (ax a2 1) (aq 0)) (fun d1 m1=>(bif cz (dk d1 0)then(Pw N a0 a1 (aw 1) (ax a2 0) (ax (ax a2 1) (aq 1)) (fun d2 m2=>(k2 [cd (cz (dk d2 0))] [])))else(k2 [cd false] [])))))))
def Jg:=lid "" (@lC R N)
def q0M {R N a0 a1 a2 a3 k}:@Jg R N a0 a1 a2 a3 k=lC N a0 a1 a2 a3 k:=by unfold Jg;rw[AW]
def z2R:OvG R:=Af [Br,Gu,EE,.int .u32] (fun a=>Jg N (a 0) (a 1) (a 2) (a 3)) Ev
def z2S:okX 101 (@z2R R N):=Ai (AH (q0B N) <| AH (z2L N) <| AZ) N [(101,[(0,[(4,5),(5,5),(6,5)])])] [(101,[([0,1,1,1],(Ah [(8,.d .bool)])),
  ([9],(Ah [(8,.d .bool)]))])] (fun _ _=>q0M)
section
variable {R:Type} {N:Nat}
def IC:∀(k:Nat) (n:Int),∀c∈BM k n,BQ c
 |0,_,_,h=>nomatch h|k+1,n,c,h=>by rcases dw.1 h with h|h;{exact IC k _ c h};{rw[fq.1 h];exact⟨rfl,by show 0<=n%256;omega,by show n%256<256;omega⟩}
structure StB (s:C):Prop where
 w:StW s
 e:StE s
 hb:∀c∈(s.get 4).elems,Ao 32 (c.get 3)
 ch:(s.get 0).toInt<4294967296
def q4S {c:C} (h:Ao 32 (c.get 3)):∀x∈GJ c,BQ x:=by intro x hx;unfold GJ at hx;simp only[dw]at hx;rcases hx with(((hx|hx)|hx)|hx)|hx;{exact IC _ _ x hx};{rw[fq.1 hx];exact⟨rfl,by show 0<=_%256;omega,by show _%256<256;omega⟩};{exact IC _ _ x hx};{exact(FQ h).2.2 x hx};{exact IC _ _ x hx}
def Fo (s:C):List C:=BM 4 (s.get 0).toInt++BM 8 (s.get 1).toInt++BM 8 ((s.get 2).get 0).toInt++BM 8 ((s.get 2).get 1).toInt++BM 8 ((s.get 3).get 0).toInt++BM 8 ((s.get 3).get 1).toInt
def IU (s:C):List C:=Fo s++[aw (IntKind.u8.wrap ((s.get 4).elems.length:Int))]++(s.get 4).elems.flatMap GJ
def Rh (s:C):(Fo s).length=44:=by simp[Fo,Dj]
def aJ:∀{l:List C},(∀c∈l,QT c)->(l.flatMap GJ).length=57*l.length
 | [],_=>rfl|c::l,h=>by have:=aJ (l:=l) fun x hx=>h x (ez _ hx);have h1:=q4T (h c (fl ..));simp only[ju,bt,cg]at this ⊢;omega
def q17 {s} (h:StW s):(IU s).length<=800:=by have h1:=aJ h.cs;have h2:=h.ln;unfold IU;simp only[bt,Rh,cg,de,h1];omega
def q16 {s} (h:StB s):∀c∈IU s,BQ c:=by intro c hc;unfold IU Fo at hc;simp only[dw]at hc;rcases hc with((((((hc|hc)|hc)|hc)|hc)|hc)|hc)|hc;{exact IC _ _ c hc};{exact IC _ _ c hc};{exact IC _ _ c hc};{exact IC _ _ c hc};{exact IC _ _ c hc};{exact IC _ _ c hc};{rw[fq.1 hc];exact Nn _};{obtain⟨x,hx,hc⟩:=List.mem_flatMap.1 hc;exact q4S (h.hb x hx) c hc}
def rO {s:C} (h:StW s) (i:Nat):((s.get 4).elems.take i |>.flatMap GJ).length<=57*i:=by rw[aJ fun c hc=>h.cs c (List.mem_of_mem_take hc),List.length_take];exact Nat.mul_le_mul_left _ (by omega)
def z1n (s:C) (h:StW s) (hc:(s.get 0).toInt<4294967296) (hN:1000<N) (k:KD R):Tx N (.slice []) s k=k [.slice (IU s)] []:=by
 have hl:(s.get 4).elems.length<=12:=h.ln;have num:∀(out:List C) (c:C) (S:Nat),W64 c.toInt->S<=8->out.length<=1000->∀k:KD R,FM N (.slice out) c (.int S) k=k [.slice (out++BM S c.toInt)] []:=fun out c S hc hS ho k=>Pf out c hc S hS (by omega) (by omega) k;have w0:IntKind.u64.wrap (s.get 0).toInt=(s.get 0).toInt:=wrap_u64 h.ch.1 h.ch.2;have n1:=num [] (.int (s.get 0).toInt) 4 h.ch (by omega) (by simp);have n2:=num _ (s.get 1) 8 h.rd (by omega) (show([]++BM 4 (s.get 0).toInt:List C).length<=1000 by simp[Dj]);have n3:=num _ ((s.get 2).get 0) 8 h.p0 (by omega) (show([]++BM 4 (s.get 0).toInt++BM 8 (s.get 1).toInt:List C).length<=1000 by simp[Dj]);have n4:=num _ ((s.get 2).get 1) 8 h.p1 (by omega) (show([]++BM 4 (s.get 0).toInt++BM 8 (s.get 1).toInt++BM 8 ((s.get 2).get 0).toInt:List C).length<=1000 by simp[Dj]);have n5:=num _ ((s.get 3).get 0) 8 h.q0 (by omega) (show([]++BM 4 (s.get 0).toInt++BM 8 (s.get 1).toInt++BM 8 ((s.get 2).get 0).toInt++BM 8 ((s.get 2).get 1).toInt:List C).length<=1000 by simp[Dj]);have n6:=num _ ((s.get 3).get 1) 8 h.q1 (by omega) (show([]++BM 4 (s.get 0).toInt++BM 8 (s.get 1).toInt++BM 8 ((s.get 2).get 0).toInt++BM 8 ((s.get 2).get 1).toInt++BM 8 ((s.get 3).get 0).toInt:List C).length<=1000 by simp[Dj]);have hd:[]++BM 4 (s.get 0).toInt++BM 8 (s.get 1).toInt++BM 8 ((s.get 2).get 0).toInt++BM 8 ((s.get 2).get 1).toInt++BM 8 ((s.get 3).get 0).toInt++BM 8 ((s.get 3).get 1).toInt=Fo s:=by unfold Fo;rw[fx]
 simp only[AB]at n1 n2 n3 n4 n5 n6;rw[hd]at n6
 obtain⟨d,rfl,hh⟩:=FV (R:=R) (F:=fun k2=>YA N k2) (s.get 4).elems.length (fun i st=>st=[s,.slice (Fo s++[aw (IntKind.u8.wrap ((s.get 4).elems.length:Int))]++((s.get 4).elems.take i).flatMap GJ),.int i]) (fun d=>d=[.slice (IU s)])
  (fun i st hi hst=>by
   subst hst;have e1:(i:Int)<((s.get 4).elems.length:Int):=by omega
   have hcw:=h.cs _ (CT hi);have hl2:=rO h i;refine⟨_,rfl,fun k rec=>?_⟩;unfold YA;rw[vJ hi,<-dp];simp only[AF,AK,AO,AB,AI,e1,decide_true,cond_true,bq,and_self,if_true,bf,br,z1j _ _ hcw (show(Fo s++[aw (IntKind.u8.wrap ((s.get 4).elems.length:Int))]++((s.get 4).elems.take i).flatMap GJ).length<=100000000 by simp only[bt,Rh,cg,de];omega) (show 200<N by omega),BK (show i<4611686018427387904 by omega)])
  (fun st hst=>by
   subst hst;refine⟨_,rfl,fun k rec=>?_⟩;unfold YA;simp only[AF,AK,AO,AB,AI,fa,AE,br,iu];rfl)
  (N:=N) (by omega) (st:=[s,.slice (Fo s++[aw (IntKind.u8.wrap ((s.get 4).elems.length:Int))]),.int (0:Nat)]) (by simp)
 rw[q0I];unfold kY;have e4:aw 4=aw ((4:Nat):Int):=rfl;have e8:aw 8=aw ((8:Nat):Int):=rfl;have t0:aq 0=0:=rfl;have t1:aq 1=1:=rfl;simp only[AP,e4,e8,t0,t1,w0,n1,n2,n3,n4,n5,n6,AF,AI,br,cond_true,Rh,bt,cg,de,cm];refine(if_pos (by omega)).trans ?_;refine(hh _).trans ?_;simp only[AF,AI,br,cond_true]
def q3i (s:C) (h:StW s) (hN:4000<N) (k:KD R):Qv N (.slice []) s k=k [.slice (IU s)] []:=by
 have hl:(s.get 4).elems.length<=12:=h.ln;have four:∀k:KD R,LP N (.slice []) (.slice [s.get 0]) k=k [.slice ([]++DZ 4 [s.get 0])] []:=fun k=>Y2 _ _ (fun c hc=>by rw[fq.1 hc];exact h.ch) (by simp) (by simp;omega) k;generalize hv:([ax s 1,ax (ax s 2) (aq 0),ax (ax s 2) (aq 1),ax (ax s 3) (aq 0),ax (ax s 3) (aq 1)]:List C)=v;have hv0:∀c∈v,0<=c.toInt:=by subst hv;intro c hc;simp only[fz,ic,or_false]at hc;rcases hc with rfl|rfl|rfl|rfl|rfl;{exact h.rd.1};{exact h.p0.1};{exact h.p1.1};{exact h.q0.1};{exact h.q1.1}
 have hvl:v.length=5:=by subst hv;rfl
 have ln4:([]++DZ 4 [s.get 0]:List C).length=4:=by simp[Sm,Dj]
 have eight:∀k:KD R,KL N (.slice ([]++DZ 4 [s.get 0])) (.slice v) k=k [.slice ([]++DZ 4 [s.get 0]++DZ 8 v)] []:=fun k=>XO _ _ hv0 (by omega) (by omega) k;have hd:[]++DZ 4 [s.get 0]++DZ 8 v=Fo s:=by subst hv;unfold Fo;simp only[fx,DZ,ju,List.flatMap_nil,List.append_nil,dp];rfl
 rw[hd]at eight;have one:∀k:KD R,Mm N (.slice (Fo s)) (.slice [aw (al bp ((s.get 4).elems.length:Int))]) k=k [.slice (Fo s++[aw (al bp ((s.get 4).elems.length:Int))])] []:=fun k=>Y3 _ _ (by simp[Rh]) k
 obtain⟨d,rfl,h1⟩:=FV (R:=R) (F:=fun k2=>Ve N k2) (s.get 4).elems.length (fun i st=>st=[ax s 4,.int (s.get 4).elems.length,.slice (Fo s++[aw (IntKind.u8.wrap ((s.get 4).elems.length:Int))]++((s.get 4).elems.take i).flatMap GJ),.int i]) (fun d=>d=[.slice (IU s)])
  (fun i st hi hst=>by
   subst hst;have e1:(i:Int)<((s.get 4).elems.length:Int):=by omega
   have hcw:=h.cs _ (CT hi);have hl2:=rO h i;refine⟨_,rfl,fun k rec=>?_⟩;unfold Ve;rw[vJ hi,<-dp];simp only[AF,AK,AO,AV,AB,AI,e1,decide_true,cond_true,bq,and_self,if_true,bf,br,q8B _ _ hcw (show(Fo s++[aw (IntKind.u8.wrap ((s.get 4).elems.length:Int))]++((s.get 4).elems.take i).flatMap GJ).length<=100000000 by simp only[bt,Rh,cg,de];omega) (show 200<N by omega),BK (show i<4611686018427387904 by omega)])
  (fun st hst=>by
   subst hst;refine⟨_,rfl,fun k rec=>?_⟩;unfold Ve;simp only[AF,AK,AO,AV,AB,AI,fa,AE,br,iu];rfl)
  (N:=N) (by omega) (st:=[ax s 4,.int (s.get 4).elems.length,.slice (Fo s++[aw (IntKind.u8.wrap ((s.get 4).elems.length:Int))]),.int (0:Nat)]) (by simp)
 rw[sA];unfold aV;simp only[AP,AI,br,cond_true,four,AF,hv,eight,one];refine(h1 _).trans ?_;simp only[AF,AI,br,cond_true]
def QL (s:C):C:=Hg (CK (.int 4) [.slice (BM 4 (s.get 0).toInt),.slice (IU s)])
def Uh (s:C):Ao 32 (QL s):=KU _
def q4Z (s:C) (h:StB s) (hN:5000<N) (hN2:N<4611686018427387904) (k:KD R):Qw N s k=k [QL s] []:=by have four:∀k:KD R,LP N (.slice []) (.slice [s.get 0]) k=k [.slice ([]++DZ 4 [s.get 0])] []:=fun k=>Y2 _ _ (fun c hc=>by rw[fq.1 hc];exact h.w.ch) (by simp) (by simp;omega) k;rw[Sm,fx]at four;have l1:=Dj 4 (s.get 0).toInt;have l2:=q17 h.w;have h2:=QV (R:=R) (N:=N) (.int 4) vL [bc (BM 4 (s.get 0).toInt),bc (IU s)] 900 (XX 900 _ _ (IC _ _) (q16 h) (by omega) (by omega)) (by simp;omega) (by omega) hN2 (by rw[Oz];omega);rw[sE];unfold aY;simp only[four,AF,AI,q3i s h.w (show 4000<N by omega),h2];rfl
def iW (T:C) (hT:DH T) (s:C) (h:StB s) (hN:5000<N) (k:KD R):Mv N T s k=k [QL s] []:=by have w0:IntKind.u64.wrap (s.get 0).toInt=(s.get 0).toInt:=wrap_u64 h.w.ch.1 h.w.ch.2;have n1:∀k:KD R,FM N (.slice []) (.int (s.get 0).toInt) (.int ((4:Nat):Int)) k=k [.slice ([]++BM 4 (s.get 0).toInt)] []:=fun k=>Pf [] (.int (s.get 0).toInt) h.w.ch 4 (by omega) (by simp) (by omega) k;rw[fx]at n1;have l1:=Dj 4 (s.get 0).toInt;have l2:=q17 h.w;have hp:=XX 900 _ _ (IC 4 (s.get 0).toInt) (q16 h) (by omega) (by omega);have h2:=fun k:KD R=>oU (R:=R) (N:=N) (.int 4) [bc (BM 4 (s.get 0).toInt),bc (IU s)] 900 hp (by omega) (by simp) (by simp;omega) k;have hm:∀c∈CK (.int 4) [bc (BM 4 (s.get 0).toInt),bc (IU s)],BQ c:=q9M vL hp;have h3:=fun k:KD R=>oQ (R:=R) (N:=N) T hT _ hm (by rw[Oz];omega) (by rw[Oz];omega) k;rw[q0K];unfold kZ;rw[q0L];unfold lB;rw[w0,show(aw 4:C)=aw ((4:Nat):Int) from rfl,n1];simp only[AF,AI,z1n s h.w h.ch (show 1000<N by omega)];rw[show(aw ((4:Nat):Int):C)=aw 4 from rfl,h2];simp only[AF,AI,h3];rfl
def Kz (r:Int):Int:=if 2147483648<r then 2147483648 else r
def WO {r:Int} (h:0<=r):0<=Kz r/\Kz r<4294967296:=by unfold Kz;split <;> omega
def q23 {n:Int} (h:0<=n) (h2:n<4294967296):IntKind.u32.wrap n=n:=by
 have:IntKind.u32.wrap n=n%4294967296:=by simp[al,IntKind.bits,IntKind.signed]
 rw[this];omega
def q7v (r:C) (h:0<=r.toInt) (k:KD R):Qx N r k=k [.int (Kz r.toInt)] []:=by rw[sG];unfold aZ;have:IntKind.u32.wrap (if 2147483648<r.toInt then 2147483648 else r.toInt)=Kz r.toInt:=q23 (WO h).1 (WO h).2;rw[this]
def q1k (r:C) (h:0<=r.toInt) (k:KD R):Pv N r k=k [.int (Kz r.toInt)] []:=by rw[q0G];unfold kW Kz;by_cases h1:2147483648<r.toInt;{simp[h1]};{simp only[h1,AE];rw[q23 h (by omega)]}
structure NS (d:C):Prop where
 eta:d= .agg [d.get 0,.agg [(d.get 1).get 0,(d.get 1).get 1]]
 st:StB (d.get 0)
 s0:JI ((d.get 1).get 0)
 s1:JI ((d.get 1).get 1)
def QJ (rts d:C) (i:Nat):Bool:=UT ((d.get 1).get i) ((rts.get 0).get i) (rts.get 1).toInt (Kz ((d.get 0).get 1).toInt) (QL (d.get 0))
def DD (rts d:C) (id:Int):Bool:=if((d.get 0).get 0).toInt=id then(if((d.get 0).get 1).toInt=0 then UY (d.get 0) id else(QJ rts d 0&&QJ rts d 1))else false
def q1m (rts d:C) (i:Nat) (hi:i<2) (hd:NS d) (hr:rts.get 1= .int (rts.get 1).toInt) (ht:(rts.get 1).toInt<=10) (hN:5000<N) (hN2:N<4611686018427387904) (k:KD R):
  Nw N rts (.int i) (d.get 0) ((d.get 1).get i) k=k [.bool (QJ rts d i)] []:=by
 have hk:=WO hd.st.w.rd.1;have hs:JI ((d.get 1).get i):=by rcases(by omega:i=0\/i=1)with rfl|rfl;exact hd.s0;exact hd.s1
 have e1:(0:Int)<=(i:Int)/\(i:Int)<2:=by omega
 rw[sB];unfold aW;refine(Oh [.int i,rts,d.get 0,(d.get 1).get i,.bool false] [] fun K=>?_).trans ?_;{rcases(by omega:i=0\/i=1)with rfl|rfl <;> rfl};simp only[AB,Ag,AE,AF,AK,AO,AV,Ac,e1,and_self,q7v _ hd.st.w.rd.1,q4Z _ hd.st hN hN2,bf];rw[hr,z4f _ _ _ _ _ hs (Uh (d.get 0)) ht hk hN hN2];rfl
def J1 (T rts d:C) (hT:DH T) (i:Nat) (hi:i<2) (hd:NS d) (hr:rts.get 1= .int (rts.get 1).toInt) (ht:(rts.get 1).toInt<=10) (hN:5000<N) (k:KD R):
  Pw N T rts (.int i) (d.get 0) ((d.get 1).get i) k=k [.bool (QJ rts d i)] []:=by
 have hk:=WO hd.st.w.rd.1;have b0:Aj dq ar 0 1=0:=by decide
 have b1:Aj dq ar 1 1=1:=by decide
 rw[q0H];unfold kX;rcases(by omega:i=0\/i=1)with rfl|rfl;{have ev:=fun k:KD R=>q2L (N:=N) T hT _ ((rts.get 0).get 0) _ _ _ hd.s0 (Uh (d.get 0)) ht hk hN k;rw[<-hr]at ev;simp only[AP,AB,Ag,wv,xz,AE,b0,Int.le_refl,show(0:Int)<2 by decide,and_self,AF,q1k _ hd.st.w.rd.1,iW T hT _ hd.st hN,Int.toNat_zero];exact(ev _).trans rfl};{have ev:=fun k:KD R=>q2L (N:=N) T hT _ ((rts.get 0).get 1) _ _ _ hd.s1 (Uh (d.get 0)) ht hk hN k;rw[<-hr]at ev;simp only[AP,AB,Ag,Int.natCast_one,Int.ofNat_one,show ¬(1:Int)=0 by decide,AE,b1,show(0:Int)<=1 by decide,show(1:Int)<2 by decide,and_self,AF,q1k _ hd.st.w.rd.1,iW T hT _ hd.st hN];exact(ev _).trans rfl}
def z1l (s:C) (id:Int) (hN:10<N) (k:KD R):Mu N s (stZ id) k=k [.bool (UY s id)] []:=by
 have g0:(stZ id).get 0= .int id:=rfl;have g1:(stZ id).get 1= .int 0:=rfl;have g2:(stZ id).get 2=zz:=rfl;have g3:(stZ id).get 3=zz:=rfl;have g4:(stZ id).get 4= .slice []:=rfl;rw[kS];unfold Xw UY;simp only[AP,g0,g1,g2,g3,g4,AB,AI];by_cases h0:(s.get 0).toInt=id
 case neg=>simp[h0,AO,Ag]
 by_cases h1:(s.get 1).toInt=0
 case neg=>simp[h0,h1,AO,Ag]
 cases h2:mz (s.get 2) zz;{simp[h0,h1,h2,AO,Ag]};cases h3:mz (s.get 3) zz;{simp[h0,h1,h2,h3,AO,Ag]};by_cases h4:(s.get 4).elems.length=0
 case neg=>
  have h4':¬(((s.get 4).elems.length:Nat):Int)=0:=by omega
  simp only[h0,h1,h2,h3,h4,h4',de,wv,xz,AE,AO,Ag,and_self,and_false]
 obtain⟨M,rfl⟩:∃M,N=M+1:=⟨N-1,by omega⟩;simp only[h0,h1,h2,h3,h4,de,AE,AF,AK,AO,Ag,and_self];rw[Bq];unfold Xv;simp only[AF,AK,AO,AB,h4];rfl
def z5g (rts d:C) (id:Int) (hd:NS d) (hr:rts.get 1= .int (rts.get 1).toInt) (ht:(rts.get 1).toInt<=10) (hN:5000<N) (hN2:N<4611686018427387904) (k:KD R):
  JQ N rts d (.int id) k=k [.bool (DD rts d id)] []:=by
 rw[sC];unfold aX DD;by_cases h0:((d.get 0).get 0).toInt=id
 case neg=>simp[h0,AB]
 by_cases h1:((d.get 0).get 1).toInt=0;{simp only[AB,h0,h1,AE,X2,AF,q3n _ _ (show 10<N by omega),Ag]};{have t0:aq 0=0:=rfl;have t1:aq 1=1:=rfl;have r0:=fun k:KD R=>q1m (N:=N) rts d 0 (by omega) hd hr ht hN hN2 k;have r1:=fun k:KD R=>q1m (N:=N) rts d 1 (by omega) hd hr ht hN hN2 k;rw[show aw ((0:Nat):Int)=aw 0 from rfl]at r0;rw[show aw ((1:Nat):Int)=aw 1 from rfl]at r1;simp only[AP,AB,h0,h1,t0,t1,AE,r0,r1,AF,Ag];cases QJ rts d 0 <;> rfl}
def z33 (T rts d:C) (hT:DH T) (id:Int) (hd:NS d) (hr:rts.get 1= .int (rts.get 1).toInt) (ht:(rts.get 1).toInt<=10) (hN:5000<N) (k:KD R):
  Jg N T rts d (.int id) k=k [.bool (DD rts d id)] []:=by
 rw[q0M];unfold lC DD;by_cases h0:((d.get 0).get 0).toInt=id
 case neg=>simp[h0,AB]
 by_cases h1:((d.get 0).get 1).toInt=0;{have z:dh [.int id,AJ (bn av),AJ (cq 2 (bn av)),AJ (cq 2 (bn av)),bc []]=stZ id:=rfl;simp only[AB,h0,h1,z,AE,z1l _ _ (show 10<N by omega),AF,Ag]};{have t0:aq 0=0:=rfl;have t1:aq 1=1:=rfl;have r0:=fun k:KD R=>J1 (N:=N) T rts d hT 0 (by omega) hd hr ht hN k;have r1:=fun k:KD R=>J1 (N:=N) T rts d hT 1 (by omega) hd hr ht hN k;rw[show aw ((0:Nat):Int)=aw 0 from rfl]at r0;rw[show aw ((1:Nat):Int)=aw 1 from rfl]at r1;simp only[AP,AB,h0,h1,t0,t1,AE,r0,r1,AF,Ag];cases QJ rts d 0 <;> rfl}
end
section
variable {R:Type} {N:Nat}
section
variable {T:C} (hT:DH T)
include hT
def q3h (s sa sb:C) (hsa:Ao 32 sa) (hsb:Ao 32 sb) (a0 a1 a2 b0 b1 b2:List C) (ga0:∀y∈a0,Ao 32 y) (ga1:∀y∈a1,Ao 32 y) (gb0:∀y∈b0,Ao 32 y) (gb1:∀y∈b1,Ao 32 y) (ha0:a0.length=4) (ha1:a1.length=2) (ha2:a2.length=1) (hb0:b0.length=4) (hb1:b1.length=2) (hb2:b2.length=1) (h:StB s) (hN:20000<N):
  ∃x y,JI x/\JI y/\∀k:KD R,Ry N (.agg [T,.agg [sa,sb],.agg [.slice [.slice a0,.slice a1,.slice a2],.slice [.slice b0,.slice b1,.slice b2]]]) s k=k [.agg [s,.agg [x,y]]] []:=by
 have z16:Ao 16 (.agg (ay 16 (.int 0))):=⟨_,rfl,by simp,fun c hc=>by rw[ik hc];exact⟨rfl,by decide,by decide⟩⟩;have zb:JH (dh [dh (ay 32 (dh (ay 16 (aw 0)))),dh (ay 32 (dh (ay 16 (aw 0))))]):=⟨_,_,rfl,by simp,by simp,fun p hp=>by rw[ik hp];exact z16,fun p hp=>by rw[ik hp];exact z16⟩;have zs:JI (AJ Cd):=⟨rfl,zb,⟨by decide,by decide⟩,(fun _ h=>nomatch h),by decide⟩;have zz:AJ (cq 2 Cd)= .agg [AJ Cd,AJ Cd]:=rfl;by_cases z:0<(s.get 1).toInt
 case neg=>
  refine⟨_,_,zs,zs,fun k=>?_⟩;rw[Wd];unfold Rz;simp only[AP,z,AE,AF,AK,AO,AV,Ac,Ag,zz]
 by_cases z2:(s.get 1).toInt<4
 case neg=>
  refine⟨_,_,zs,zs,fun k=>?_⟩;rw[Wd];unfold Rz;simp only[AP,z,z2,AE,AF,AK,AO,AV,Ac,Ag,zz]
 have h1:=fun k:KD R=>iW (N:=N) T hT s h (by omega) k;have wr:IntKind.i64.wrap (s.get 1).toInt=(s.get 1).toInt:=wrap_i64 (by omega) (by omega);obtain⟨x,hx,h2⟩:=J3 (R:=R) (N:=N) hT sa (QL s) hsa (Uh s) a0 a1 a2 ga0 ga1 ha0 ha1 ha2 (s.get 1).toInt (by omega) hN;obtain⟨y,hy,h3⟩:=J3 (R:=R) (N:=N) hT sb (QL s) hsb (Uh s) b0 b1 b2 gb0 gb1 hb0 hb1 hb2 (s.get 1).toInt (by omega) hN;refine⟨x,y,hx,hy,fun k=>?_⟩;rw[Wd];unfold Rz;simp only[AP,z,z2,AE,AF,AK,AO,AV,Ac,Ag,zz];obtain⟨n,rfl⟩:∃n,N=n+3:=⟨N-3,by omega⟩;have w0:IntKind.i64.wrap ((0:Int)+1)=1:=by rw[wrap_i64 (by omega) (by omega)];rfl
 have w1:IntKind.i64.wrap ((1:Int)+1)=2:=by rw[wrap_i64 (by omega) (by omega)];rfl
 have i0:(0:Int)<2:=by decide
 have i1:(1:Int)<2:=by decide
 have i2:¬(2:Int)<2:=by decide
 have j1:(0:Int)<=1:=by decide
 have t0:aq 0=0:=rfl;have t1:aq 1=1:=rfl;rw[Bq];unfold yF;simp only[AF,AK,AO,AV,Ac,AB,Eg,GR,Kt,Hf,IM,t0,i0,Int.le_refl,AE,and_self,h1,h2,wr,w0];rw[Bq];simp only[AF,AK,AO,AV,Ac,AB,Eg,GR,Kt,Hf,IM,t1,i1,j1,AE,and_self,h1,h3,wr,w1];rw[Bq];simp only[AF,AK,AO,AV,Ac,AB,i2,AE]
end
end
def Xh {R:Type} (N:Nat) (a0 a1:C) (k1:KD R):Option R:=bif decide (al av (18446744073709551615-aj a0)<aj a1)then(k1 [aw 0,aw 11] [])else(k1 [aw (al av (aj a0+aj a1)),aw 0] [])
def Fv:=lid "" (@Xh R N)
def jD {R N a0 a1 k}:@Fv R N a0 a1 k=Xh N a0 a1 k:=by unfold Fv;rw[AW]
def z1u:OvG R:=Af [.int .u64,.int .u64] (Bl (Fv N)) fun a K d1 m1=>K (ou [V.d (bn av) (dk d1 0),V.d (bn ar) (dk d1 1)]) []
def LS:okX 24 (@z1u R N):=Ai AZ N [] [(24,[([9],(Ah [(4,.d (.int .u64)),(5,.d (.int .i64))]))])] (fun _ _=>jD)
def Xi {R:Type} (N:Nat) (a0 a1:C) (k1:KD R):Option R:=bif decide (aj a0<aj a1)then(k1 [aw 0,aw 12] [])else(k1 [aw (al av (aj a0-aj a1)),aw 0] [])
def LU:=lid "" (@Xi R N)
def jG {R N a0 a1 k}:@LU R N a0 a1 k=Xi N a0 a1 k:=by unfold LU;rw[AW]
def z1x:OvG R:=Af [.int .u64,.int .u64] (Bl (LU N)) fun a K d1 m1=>K (ou [V.d (bn av) (dk d1 0),V.d (bn ar) (dk d1 1)]) []
def jF:okX 105 (@z1x R N):=Ai AZ N [] [(105,[([9],(Ah [(4,.d (.int .u64)),(5,.d (.int .i64))]))])] (fun _ _=>jG)
def kP (k2:KD R):KD R->KD R:=fun k3 d1 m1=>(jn (fun d2 m2=>(bif cz (dk d2 5)then(if 0<=aj (dk d2 4)/\aj (dk d2 4)<(↑(ak (ao (ax (dk d2 1) 4))):Int)then(jn (fun d3 m3=>(k3 [dk d3 0,dk d3 1,dk d3 3,dk d3 4,aw (al ar (aj (dk d3 2)+1))] [])) (fun k4=>(bif decide (aj (ax (bj (ao (ax (dk d2 1) 4)) (aq (aj (dk d2 4))) du) 1)=aj (dk d2 0))then(if 0<=aj (dk d2 4)/\aj (dk d2 4)<(↑(ak (ao (ax (dk d2 1) 4))):Int)then(Fv N (dk d2 2) (ax (bj (ao (ax (dk d2 1) 4)) (aq (aj (dk d2 4))) du) 2) (fun d3 m3=>(k4 [dk d2 0,dk d2 1,dk d2 4,dk d3 0,dk d3 1] [])))else none)else(k4 [dk d2 0,dk d2 1,dk d2 4,dk d2 2,dk d2 3] []))))else none)else(k2 [dk d2 2,dk d2 3] []))) (fun k4=>(bif decide (aj (dk d1 4)<(↑(ak (ao (ax (dk d1 1) 4))):Int))then(k4 [dk d1 0,dk d1 1,dk d1 2,dk d1 3,dk d1 4,cd (decide (aj (dk d1 3)=0))] [])else(k4 [dk d1 0,dk d1 1,dk d1 2,dk d1 3,dk d1 4,cd false] []))))
def kQ (a0 a1:C) (k1:KD R):Option R:=jn (fun d1 m1=>(k1 [dk d1 0,dk d1 1] [])) (fun k2=>(Ae N (kP N k2) [a1,a0,aw 0,aw 0,aw 0] []))
def Tt:=lid "" (@kQ R N)
def q0A {R N a0 a1 k}:@Tt R N a0 a1 k=kQ N a0 a1 k:=by unfold Tt;rw[AW]
def z2A:OvG R:=Af [Bk,.int .i64] (Bl (Tt N)) fun a K d1 m1=>K (ou [V.d (bn av) (dk d1 0),V.d (bn ar) (dk d1 1)]) []
def z2B:okX 129 (@z2A R N):=Ai (AH (LS N) <| AZ) N [(129,[(0,[(2,5)])])] [(129,[([1,0,1,1],(Ah [(6,.d (.int .u64)),(7,.d (.int .i64))])),
  ([4,1,0,1,1],(AY [1,2] [(6,.d (.int .u64)),(7,.d (.int .i64)),(8,.d (.int .i64))])),
  ([0,0,5,4,1,0,1,1],(AY [1,2,6,7,8] [(17,.d .bool)])),
  ([1,4,0,1,5,4,1,0,1,1],(AY [1,2,8] [(6,.d (.int .u64)),(7,.d (.int .i64))])),
  ([9],(Ah [(4,.d (.int .u64)),(5,.d (.int .i64))]))])] (fun _ _=>q0A)
def Xu (k1:KD R) (k2:KD R):KD R->KD R:=fun k3 d4 m4=>(bif decide (aj (dk d4 1)<3)then(if 0<=aj (dk d4 1)/\aj (dk d4 1)<3 then(LU N (dk d4 0) (ax (dk d4 2) (aq (aj (dk d4 1)))) (fun d5 m5=>(bif !decide (aj (dk d5 1)=0)then(k1 [aw 0,dk d5 1] [])else(k3 [dk d5 0,aw (al ar (aj (dk d4 1)+1)),dk d4 2] []))))else none)else(k2 [dk d4 0] []))
def kO (a0 a1 a2:C) (k1:KD R):Option R:=jn (fun d1 m1=>(bif cz (dk d1 3)then(k1 [aw 0,aw 1] [])else(Tt N (dk d1 1) (dk d1 0) (fun d2 m2=>(bif !decide (aj (dk d2 1)=0)then(k1 [aw 0,dk d2 1] [])else(if 0<=aj (dk d1 0)/\aj (dk d1 0)<2 then(if 0<=al ar (1-aj (dk d1 0))/\al ar (1-aj (dk d1 0))<2 then(Fv N (ax (dk d1 2) (aq (aj (dk d1 0)))) (ax (ax (dk d1 1) 2) (aq (al ar (1-aj (dk d1 0))))) (fun d3 m3=>(bif !decide (aj (dk d3 1)=0)then(k1 [aw 0,dk d3 1] [])else(if 0<=aj (dk d1 0)/\aj (dk d1 0)<2 then(if 0<=aj (dk d1 0)/\aj (dk d1 0)<2 then(jn (fun d4 m4=>(k1 [dk d4 0,aw 0] [])) (fun k2=>(Ae N (Xu N k1 k2) [dk d3 0,aw 0,ct (ct (ct (AJ (cq 3 (bn av))) 0 (ax (ax (dk d1 1) 2) (aq (aj (dk d1 0))))) 1 (ax (ax (dk d1 1) 3) (aq (aj (dk d1 0))))) 2 (dk d2 0)] [])))else none)else none))))else none)else none)))))) (fun k2=>(bif !decide (aj a2=0)then(k2 [a2,a0,a1,cd !decide (aj a2=1)] [])else(k2 [a2,a0,a1,cd false] [])))
def Pt:=lid "" (@kO R N)
def q0z {R N a0 a1 a2 k}:@Pt R N a0 a1 a2 k=kO N a0 a1 a2 k:=by unfold Pt;rw[AW]
def z2z:OvG R:=Af [Bk,.arr 2 (.int .u64),.int .i64] (Ds (Pt N)) fun a K d1 m1=>K (ou [V.d (bn av) (dk d1 0),V.d (bn ar) (dk d1 1)]) []
def q0y:okX 104 (@z2z R N):=Ai (AH (LS N) <| AH (jF N) <| AH (z2B N) <| AZ) N [(104,[(0,[(3,5),(4,5)]),(6,[(38,7)])])] [(104,[([0,0,1],(AY [2,3,4] [(19,.d .bool)])),
  ([1,0,1,1,1,1,1,1,1],(Ah [(10,.d (.int .u64))])),
  ([4,1,0,1,1,1,1,1,1,1],(AY [12] [(10,.d (.int .u64)),(13,.d (.int .i64))])),
  ([9],(Ah [(6,.d (.int .u64)),(7,.d (.int .i64))]))])] (fun _ _=>q0z)
def Xt {R:Type} (N:Nat) (k1:KD R) (k2:KD R):KD R->KD R:=fun k3 d1 m1=>(bif decide (aj (dk d1 2)<(↑(ak (ao (ax (dk d1 1) 4))):Int))then(if 0<=aj (dk d1 2)/\aj (dk d1 2)<(↑(ak (ao (ax (dk d1 1) 4))):Int)then(bif decide (aj (ax (bj (ao (ax (dk d1 1) 4)) (aq (aj (dk d1 2))) du) 0)=aj (dk d1 0))then(k1 [dk d1 2] [])else(k3 [dk d1 0,dk d1 1,aw (al ar (aj (dk d1 2)+1))] []))else none)else(k2 [] []))
def kN (a0 a1:C) (k1:KD R):Option R:=jn (fun d1 m1=>(k1 [aw (-1)] [])) (fun k2=>(Ae N (Xt N k1 k2) [a1,a0,aw 0] []))
def Tr:=lid "" (@kN R N)
def q0x {R N a0 a1 k}:@Tr R N a0 a1 k=kN N a0 a1 k:=by unfold Tr;rw[AW]
def z2x:OvG R:=Af [Bk,.int .u64] (Bl (Tr N)) (BD (bn ar))
def z2y:okX 125 (@z2x R N):=Ai AZ N [(125,[(0,[(2,5)])])] [(125,[([1,0,1],(Ah [])),
  ([4,1,0,1],(AY [1,2] [(5,.d (.int .i64))])),
  ([9],(Ah [(4,.d (.int .i64))]))])] (fun _ _=>q0x)
def Tu (k1:KD R) (k2:KD R):KD R->KD R:=fun k3 d3 m3=>(bif decide (aj (dk d3 2)<2)then(Pt N (dk d3 0) (dk d3 1) (dk d3 2) (fun d4 m4=>(bif !decide (aj (dk d4 1)=0)then(k1 [dk d4 1] [])else(k3 [dk d3 0,dk d3 1,aw (al ar (aj (dk d3 2)+1))] []))))else(k2 [] []))
def Xx (k1:KD R) (k2:KD R):KD R->KD R:=fun k3 d2 m2=>(bif decide (aj (dk d2 2)<(↑(ak (ao (ax (dk d2 0) 4))):Int))then(if 0<=aj (dk d2 2)/\aj (dk d2 2)<(↑(ak (ao (ax (dk d2 0) 4))):Int)then(jn (fun d3 m3=>(bif cz (dk d3 3)then(k1 [aw 1] [])else(Tr N (dk d3 0) (ax (dk d3 4) 0) (fun d4 m4=>(bif decide (aj (dk d4 0)<aj (dk d3 2))then(k1 [aw 7] [])else(k3 [dk d3 0,dk d3 1,aw (al ar (aj (dk d3 2)+1))] [])))))) (fun k4=>(bif !decide (aj (ax (bj (ao (ax (dk d2 0) 4)) (aq (aj (dk d2 2))) du) 1)=0)then(bif !decide (aj (ax (bj (ao (ax (dk d2 0) 4)) (aq (aj (dk d2 2))) du) 1)=1)then(k4 [dk d2 0,dk d2 1,dk d2 2,cd true,bj (ao (ax (dk d2 0) 4)) (aq (aj (dk d2 2))) du] [])else(k4 [dk d2 0,dk d2 1,dk d2 2,cd (decide (aj (ax (bj (ao (ax (dk d2 0) 4)) (aq (aj (dk d2 2))) du) 2)=0)),bj (ao (ax (dk d2 0) 4)) (aq (aj (dk d2 2))) du] []))else(k4 [dk d2 0,dk d2 1,dk d2 2,cd (decide (aj (ax (bj (ao (ax (dk d2 0) 4)) (aq (aj (dk d2 2))) du) 2)=0)),bj (ao (ax (dk d2 0) 4)) (aq (aj (dk d2 2))) du] []))))else none)else(k2 [dk d2 0,dk d2 1] []))
def kT (a0 a1:C) (k1:KD R):Option R:=jn (fun d1 m1=>(bif cz (dk d1 2)then(k1 [aw 8] [])else(jn (fun d2 m2=>(jn (fun d3 m3=>(k1 [aw 0] [])) (fun k2=>(Ae N (Tu N k1 k2) [dk d2 0,dk d2 1,aw 0] [])))) (fun k2=>(Ae N (Xx N k1 k2) [dk d1 0,dk d1 1,aw 0] []))))) (fun k2=>(bif decide (200<aj (ax a0 1))then(k2 [a0,a1,cd true] [])else(k2 [a0,a1,cd (decide (8<(↑(ak (ao (ax a0 4))):Int)))] [])))
def Pu:=lid "" (@kT R N)
def q0D {R N a0 a1 k}:@Pu R N a0 a1 k=kT N a0 a1 k:=by unfold Pu;rw[AW]
def z2D:OvG R:=Af [Bk,.arr 2 (.int .u64)] (Bl (Pu N)) (BD (bn ar))
def q0C:okX 102 (@z2D R N):=Ai (AH (q0y N) <| AH (z2y N) <| AZ) N [(102,[(0,[(2,5),(3,5)])])] [(102,[([0,0,1],(AY [2,3] [(18,.d .bool)])),
  ([1,0,1,1],(AY [2,3] [])),
  ([4,1,0,1,1],(AY [2,3] [(5,.d (.int .i64))])),
  ([0,0,1,4,0,1,5,4,1,0,1,1],(AY [2,3,5,6] [(43,.d .bool)])),
  ([1,0,1,1,1],(Ah [])),
  ([4,1,0,1,1,1],(AY [2,3] [(7,.d (.int .i64))])),
  ([9],(Ah [(4,.d (.int .i64))]))])] (fun _ _=>q0D)
def Xy (k4:KD R):KD R->KD R:=fun k5 d6 m6=>(jn (fun d7 m7=>(bif cz (dk d7 8)then(if 0<=aj (dk d7 7)/\aj (dk d7 7)<(↑(ak (ao (ax (dk d7 1) 4))):Int)then(if 0<=aj (dk d7 7)/\aj (dk d7 7)<(↑(ak (ao (dk d7 0))):Int)then(jn (fun d8 m8=>(jn (fun d9 m9=>(k5 [dk d9 0,dk d9 1,dk d9 2,dk d9 3,dk d9 4,dk d9 6,dk d9 7,aw (al ar (aj (dk d9 5)+1)),dk d9 8,dk d9 9] [])) (fun k6=>(bif decide (aj (dk d8 8)=aj (dk d8 4))then(if 0<=aj (dk d8 7)/\aj (dk d8 7)<(↑(ak (ao (ax (dk d8 1) 4))):Int)then(Fv N (dk d8 5) (ax (bj (ao (ax (dk d8 1) 4)) (aq (aj (dk d8 7))) du) 2) (fun d9 m9=>(k6 [dk d8 0,dk d8 1,dk d8 2,dk d8 3,dk d8 4,dk d8 7,dk d9 0,dk d9 1,dk d8 9,dk d8 10] [])))else none)else(k6 [dk d8 0,dk d8 1,dk d8 2,dk d8 3,dk d8 4,dk d8 7,dk d8 5,dk d8 6,dk d8 9,dk d8 10] []))))) (fun k6=>(bif cz (bj (ao (dk d7 0)) (aq (aj (dk d7 7))) du)then(k6 [dk d7 0,dk d7 1,dk d7 2,dk d7 3,dk d7 4,dk d7 5,dk d7 6,dk d7 7,aw (al ar (1-aj (ax (bj (ao (ax (dk d7 1) 4)) (aq (aj (dk d7 7))) du) 1))),dk d7 9,dk d7 10] [])else(k6 [dk d7 0,dk d7 1,dk d7 2,dk d7 3,dk d7 4,dk d7 5,dk d7 6,dk d7 7,ax (bj (ao (ax (dk d7 1) 4)) (aq (aj (dk d7 7))) du) 1,dk d7 9,dk d7 10] []))))else none)else none)else(k4 [dk d7 0,dk d7 1,dk d7 2,dk d7 3,dk d7 4,dk d7 5,dk d7 6,dk d7 9,dk d7 10] []))) (fun k6=>(bif decide (aj (dk d6 7)<(↑(ak (ao (ax (dk d6 1) 4))):Int))then(k6 [dk d6 0,dk d6 1,dk d6 2,dk d6 3,dk d6 4,dk d6 5,dk d6 6,dk d6 7,cd (decide (aj (dk d6 6)=0)),dk d6 8,dk d6 9] [])else(k6 [dk d6 0,dk d6 1,dk d6 2,dk d6 3,dk d6 4,dk d6 5,dk d6 6,dk d6 7,cd false,dk d6 8,dk d6 9] []))))
def Xz (k1:KD R) (k2:KD R):KD R->KD R:=fun k3 d2 m2=>(bif decide (aj (dk d2 4)<2)then(Pt N (dk d2 1) (dk d2 2) (dk d2 4) (fun d3 m3=>(if 0<=aj (dk d2 4)/\aj (dk d2 4)<2 then(if 0<=aj (dk d2 4)/\aj (dk d2 4)<2 then(LU N (ax (ax (dk d2 1) 3) (aq (aj (dk d2 4)))) (ax (dk d2 3) (aq (aj (dk d2 4)))) (fun d4 m4=>(bif !decide (aj (dk d4 1)=0)then(k1 [dk d4 1,AJ (cq 2 (bn av))] [])else(Fv N (dk d3 0) (dk d4 0) (fun d5 m5=>(jn (fun d6 m6=>(bif !decide (aj (dk d6 6)=0)then(k1 [dk d6 6,AJ (cq 2 (bn av))] [])else(if 0<=aj (dk d6 4)/\aj (dk d6 4)<2 then(k3 [dk d6 0,dk d6 1,dk d6 2,dk d6 3,aw (al ar (aj (dk d6 4)+1)),dk d6 7,ct (dk d6 8) (aq (aj (dk d6 4))) (dk d6 5)] [])else none))) (fun k4=>(Ae N (Xy N k4) [dk d2 0,dk d2 1,dk d2 2,dk d2 3,dk d2 4,dk d5 0,dk d5 1,aw 0,dk d2 5,dk d2 6] []))))))))else none)else none)))else(k2 [dk d2 5,dk d2 6] []))
def kU (a0 a1 a2 a3:C) (k1:KD R):Option R:=Pu N a0 a1 (fun d1 m1=>(bif !decide (aj (dk d1 0)=0)then(k1 [dk d1 0,AJ (cq 2 (bn av))] [])else(bif !decide ((↑(ak (ao a3)):Int)=(↑(ak (ao (ax a0 4))):Int))then(k1 [aw 1,AJ (cq 2 (bn av))] [])else(jn (fun d2 m2=>(k1 [aw 0,dk d2 1] [])) (fun k2=>(Ae N (Xz N k1 k2) [a3,a0,a1,a2,aw 0,AJ (cq 2 (bn av)),AJ (cq 2 (bn av))] []))))))
def Tv:=lid "" (@kU R N)
def q0E {R N a0 a1 a2 a3 k}:@Tv R N a0 a1 a2 a3 k=kU N a0 a1 a2 a3 k:=by unfold Tv;rw[AW]
def z2E:OvG R:=Af [Bk,.arr 2 (.int .u64),.arr 2 (.int .u64),.slice 1 .bool] (fun a=>Tv N (a 0) (a 1) (a 2) (a 3)) fun a K d1 m1=>K (ou [V.d (cq 2 (bn av)) (dk d1 1),V.d (bn ar) (dk d1 0)]) []
def z2F:okX 79 (@z2E R N):=Ai (AH (LS N) <| AH (q0C N) <| AH (q0y N) <| AH (jF N) <| AZ) N [(79,[(0,[(4,5),(5,5),(6,5)]),(11,[(52,7)])])] [(79,[([1,0,1,1,1,1,1],(AY [8,11] [])),
  ([4,1,0,1,1,1,1,1],(AY [3,4,5,6,8,11] [(12,.d (.int .i64))])),
  ([1,0,1,1,1,1,4,0,1,5,4,1,0,1,1,1,1,1],(AY [3,4,5,6,8,11,12] [(13,.d (.int .u64)),(16,.d (.int .i64))])),
  ([4,1,0,1,1,1,1,4,0,1,5,4,1,0,1,1,1,1,1],(AY [3,4,5,6,8,11,12] [(13,.d (.int .u64)),(16,.d (.int .i64)),(17,.d (.int .i64))])),
  ([0,0,5,4,1,0,1,1,1,1,4,0,1,5,4,1,0,1,1,1,1,1],(AY [3,4,5,6,8,11,12,13,16,17] [(73,.d .bool)])),
  ([1,0,1,4,0,1,5,4,1,0,1,1,1,1,4,0,1,5,4,1,0,1,1,1,1,1],(AY [3,4,5,6,8,11,12,13,16,17] [(18,.d (.int .i64))])),
  ([1,1,1,4,0,1,5,4,1,0,1,1,1,1,4,0,1,5,4,1,0,1,1,1,1,1],(AY [3,4,5,6,8,11,12,17] [(13,.d (.int .u64)),(16,.d (.int .i64))])),
  ([9],⟨[],[(8,.as (.ptr (.l 8) [] (.arr 2 (.int .u64)))),(9,.d (.int .i64))],[],[(.l 8,.box (.d (.arr 2 (.int .u64))))],[],[]⟩)])] (fun _ _=>q0E)
section
variable {R:Type} {N:Nat}
def NZ {a b:Int}:W64 (Ap a b).1:=by unfold Ap;split;{exact⟨Int.emod_nonneg _ (by decide),Int.emod_lt_of_pos _ (by decide)⟩};{exact⟨by decide,by decide⟩}
def q2b {a b:Int} (ha:W64 a) (hb:W64 b):W64 (BT a b).1:=by unfold BT;obtain⟨a1,a2⟩:=ha;obtain⟨b1,b2⟩:=hb;split;{exact⟨by decide,by decide⟩};{rw[wrap_u64 (by omega) (by omega)];exact⟨by omega,by omega⟩}
def Je (a b:C) (ha:W64 a.toInt) (hb:W64 b.toInt) (k:KD R):Fv N a b k=k [.int (Ap a.toInt b.toInt).1,.int (Ap a.toInt b.toInt).2] []:=by obtain⟨a1,a2⟩:=ha;obtain⟨b1,b2⟩:=hb;rw[jD];unfold Xh;rw[wrap_u64 (by omega) (by omega)];by_cases h:a.toInt+b.toInt<18446744073709551616;{rw[ZK a1 b1 h,show decide (18446744073709551615-a.toInt<b.toInt)=false from by rw[decide_eq_false_iff_not];omega,wrap_u64 (by omega) h];rfl};{rw[pC (by omega),show decide (18446744073709551615-a.toInt<b.toInt)=true from by rw[decide_eq_true_iff];omega];rfl}
def q1p (a b:C) (k:KD R):LU N a b k=k [.int (BT a.toInt b.toInt).1,.int (BT a.toInt b.toInt).2] []:=by rw[jG];unfold Xi BT;by_cases h:a.toInt<b.toInt <;> simp[h]
def ZG:∀(l:List C) (i:Nat) (n:Int),Ax Gh i n l=Ax Gh 0 n l
 | [],_,_=>rfl|c::l,i,n=>by simp only[Ax,Gh];by_cases h:(Ap n c.toInt).2=0;{simp only[h,if_true];rw[ZG l (i+1),ZG l (0+1)]};{simp only[h,if_false]}
def onP (n:Int) (l:List C):Int × Int:=Jk (Ax Gh 0 n l)
def gX (n:Int) (c:C) (l:List C):onP n (c::l)=if(Ap n c.toInt).2=0 then onP (Ap n c.toInt).1 l else(0,(Ap n c.toInt).2):=by unfold onP;simp only[Ax,Gh];by_cases h:(Ap n c.toInt).2=0;{simp only[h,if_true];rw[ZG l (0+1)]};{simp only[h,if_false];rfl}
def q3q {a b:Int} (h:¬(Ap a b).2=0):(Ap a b).1=0:=by unfold Ap at h ⊢;split;{rename_i h2;rw[if_pos h2]at h;exact absurd rfl h};{rfl}
def q7d (side:Int) (c:C) (l:List C):DW side (c::l)=if(c.get 1).toInt=side then c.get 2::DW side l else DW side l:=by unfold DW;by_cases h:(c.get 1).toInt=side <;> simp[h]
def onE (n e:Int) (l:List C):Int × Int:=if e=0 then onP n l else(n,e)
def sW {l:List C} {i:Nat} (h:i<l.length):l.drop i=l.getD i .nil::l.drop (i+1):=by rw[List.drop_eq_getElem_cons h,bh,bg h];rfl
def XL (n:Int) (c:C) (l:List C):onP n (c::l)=onE (Ap n c.toInt).1 (Ap n c.toInt).2 l:=by rw[gX];unfold onE;by_cases h:(Ap n c.toInt).2=0;{rw[if_pos h,if_pos h]};{rw[if_neg h,if_neg h,q3q h]}
def z3s (s side:C) (hl:(AU s).length<1099511627776) (ha:∀c∈AU s,W64 (c.get 2).toInt) (hN:2199023255552<N) (k:KD R):Tt N s side k=k [.int (EW s side.toInt).1,.int (EW s side.toInt).2] []:=by
 rw[q0A];unfold kQ;rw[AP]
 refine(Hy (F:=kP N _) (ι:=Nat × Int × Int) (fun x=>[side,s,.int x.2.1,.int x.2.2,.int x.1]) (fun _=>[]) (fun x=>(AU s).length-x.1+(if x.2.2=0 then 1 else 0)) (fun x=>x.1<=(AU s).length/\W64 x.2.1)
  (fun x=>k [.int (onE x.2.1 x.2.2 (DW side.toInt ((AU s).drop x.1))).1,.int (onE x.2.1 x.2.2 (DW side.toInt ((AU s).drop x.1))).2] []) ?_ N (0,0,0) ⟨Nat.zero_le _,by decide,by decide⟩ (by simp;omega)).trans ?_
 ·rintro⟨i,n,e⟩ ⟨hi,hn⟩ rec zd;dsimp only at hi hn zd ⊢;have hs:(s.get 4).elems=AU s:=rfl;unfold kP;rw[AP];by_cases h:i<(AU s).length
  ·have h1:(i:Int)<((AU s).length:Int):=by omega
   by_cases he:e=0;{subst he;have hw:=ha _ (CT h);rw[sW h,q7d];simp only[AP,AF,AK,AO,AV,Ac,Av,AB,Ag,hs,h1,AE,bq,and_self,bf,BK (show i<4611686018427387904 by omega)];by_cases z7l:(((AU s).getD i .nil).get 1).toInt=side.toInt;{simp only[z7l,AE];rw[Je (.int n) _ hn hw];simp only[AF,AK,AB];have:=zd (i+1,(Ap n (((AU s).getD i .nil).get 2).toInt).1,(Ap n (((AU s).getD i .nil).get 2).toInt).2) ⟨by omega,NZ⟩ (by dsimp only;split <;> simp <;> omega);refine this.trans ?_;show _=k [.int (onE n 0 _).1,.int (onE n 0 _).2] [];rw[show ∀l,onE n 0 l=onP n l from fun l=>rfl,XL]};{simp only[z7l,AE];exact zd (i+1,n,0) ⟨by omega,hn⟩ (by simp;omega)}};{simp only[AP,AF,AK,AO,AV,Ac,Av,AB,Ag,hs,h1,he,AE];unfold onE;simp only[he,if_false]}
  ·have h1:¬(i:Int)<((AU s).length:Int):=by omega
   have h2:(AU s).drop i=[]:=oe (by omega);simp only[AP,AF,AK,AO,AV,Ac,Av,AB,Ag,hs,h1,AE,h2];unfold onE;by_cases he:e=0;{subst he;rfl};{rw[if_neg he]}
 ·rfl
def q2d {a:C} (ha:W64 a.toInt) (l:List C):CM (a::l)=onP a.toInt l:=by show onP 0 (a::l)=_;rw[gX,ZK (by omega) ha.1 (by have:=ha.2;omega)];simp
def StN (s put:C):Prop:=(∀i<2,W64 (put.get i).toInt/\W64 ((s.get 2).get i).toInt/\W64 ((s.get 3).get i).toInt)/\∀c∈AU s,W64 (c.get 2).toInt
def NL:W64 0:=⟨by decide,by decide⟩
def q2a:∀(l:List C) (i:Nat) (n:Int),W64 n->(∀c∈l,W64 c.toInt)->W64 (Jk (Ax JB i n l)).1
 | [],_,_,h,_=>h|c::l,i,n,h,hl=>by simp only[Ax,JB];by_cases h1:(BT n c.toInt).2=0;{simp only[h1,if_true];exact q2a l _ _ (q2b h (hl c (fl ..))) fun d hd=>hl d (ez _ hd)};{simp only[h1,if_false];exact NL}
def gY:∀(l:List C) (n:Int),W64 n->W64 (onP n l).1
 | [],_,h=>h|c::l,n,h=>by rw[gX];split;{exact gY l _ NZ};{exact NL}
def q6K {s put} (h:StN s put) (side:Int):W64 (Bw s put side).1:=by obtain⟨h1,h2⟩:=h;unfold Bw;split;{exact NL};{split;{exact NL};{split;{exact NL};{refine q2a _ _ _ (gY _ 0 NL) fun c hc=>?_;simp only[fz,ic,or_false]at hc;rcases hc with rfl|rfl|rfl;{exact(h1 _ (by omega)).2.1};{exact(h1 _ (by omega)).2.2};{exact gY _ 0 NL}}}}
def q1h (s put side:C) (hs:StN s put) (hl:(AU s).length<1099511627776) (hN:2199023255552<N) (k:KD R):Pt N s put side k=k [.int (Bw s put side.toInt).1,.int (Bw s put side.toInt).2] []:=by
 rw[q0z];unfold kO Bw;by_cases hsd:side.toInt≠0/\side.toInt≠1;{simp[AP,hsd.1,hsd.2,go_sem,AB,Ag]}
 ·have hs':side.toInt=0\/side.toInt=1:=by omega
  have h2:0<=side.toInt/\side.toInt<2:=by omega
  have h3:0<=(1-side.toInt)/\(1-side.toInt)<2:=by omega
  have w:IntKind.i64.wrap (1-side.toInt)=1-side.toInt:=df _ (by omega);rw[if_neg hsd];obtain⟨hs1,hs2⟩:=hs;have n1:=(hs1 side.toInt.toNat (by omega)).1;have n2:=(hs1 (1-side.toInt).toNat (by omega)).2.1;refine(Oh [side,s,put,.bool false] [] fun k=>?_).trans ?_;{rcases hs' with h|h <;> simp[h]};simp only[go_sem,AB,Ag,z3s s side hl hs2 hN,AE,h2,and_self,w,h3];by_cases h4:(EW s side.toInt).2=0
  ·simp only[h4,AE,ne_eq,not_true];have e2:CM [put.get side.toInt.toNat,(s.get 2).get (1-side.toInt).toNat]=onE (Ap (put.get side.toInt.toNat).toInt ((s.get 2).get (1-side.toInt).toNat).toInt).1 (Ap (put.get side.toInt.toNat).toInt ((s.get 2).get (1-side.toInt).toNat).toInt).2 []:=by rw[q2d n1,XL]
   rw[Je _ _ n1 n2,e2];simp only[go_sem,AB,AI];by_cases h5:(Ap (put.get side.toInt.toNat).toInt ((s.get 2).get (1-side.toInt).toNat).toInt).2=0
   ·have e3:∀x:Int,onE x 0 []=(x,0):=fun x=>rfl;simp only[h5,e3,AE,ne_eq,not_true,h2,and_self]
    refine(Hz (F:=Xu N k _) (fun i (x:Int)=>[.int x,.int i,.agg [(s.get 2).get side.toInt.toNat,(s.get 3).get side.toInt.toNat,.int (EW s side.toInt).1]]) (fun _ _=>[])
     [(s.get 2).get side.toInt.toNat,(s.get 3).get side.toInt.toNat,.int (EW s side.toInt).1] JB (fun s=>k [.int s,.int 0] []) (fun e=>k [.int 0,.int e] []) ?_ ?_ (by simp;omega)).trans ?_
    ·intro i x c hx hi rec;have hi3:i<3:=hi;have h1:(i:Int)<3:=by omega
     unfold Xu JB;simp only[go_sem,AB,AI,Fh,h1,q1p,BK (show i<4611686018427387904 by omega),bq,and_self,if_true,HK hx];by_cases h:(BT x c.toInt).2=0 <;> simp[h]
    ·intro x rec;unfold Xu;simp only[go_sem,AB,AI];simp
    ·unfold EI Jk;cases Ax JB 0 (Ap (put.get side.toInt.toNat).toInt ((s.get 2).get (1-side.toInt).toNat).toInt).1 [(s.get 2).get side.toInt.toNat,(s.get 3).get side.toInt.toNat,.int (EW s side.toInt).1] <;> rfl
   ·unfold onE;simp[h5]
  ·simp[h4]
def z3q (s id:C) (hl:(AU s).length<1099511627776) (hN:2199023255552<N) (k:KD R):Tr N s id k=k [.int (Fm s id.toInt)] []:=by
 rw[q0x];unfold kN;rw[AP];refine(Hz (F:=Xt N k _) (fun i (_:Unit)=>[id,s,.int i]) (fun _ _=>[]) (AU s) (findF id.toInt) (fun _=>k [.int (-1)] []) (fun i=>k [.int i] []) (s0:=()) ?_ ?_ (by omega)).trans ?_
 ·intro i _ c hx hi rec;have h1:(i:Int)<((AU s).length:Int):=by omega
  have hd:(s.get 4).elems.getD i .nil=c:=HK hx;have hs:(s.get 4).elems.length=(AU s).length:=rfl;unfold Xt findF;simp only[go_sem,AB,Ag,hs,h1,hd,BK (show i<4611686018427387904 by omega),bq,and_self,if_true];by_cases h:(c.get 0).toInt=id.toInt <;> simp[h]
 ·intro _ rec;unfold Xt;have hs:(s.get 4).elems.length=(AU s).length:=rfl;simp only[go_sem,AB,hs,fa,if_false]
 ·unfold Fm EI XZ;cases Ax (findF id.toInt) 0 () (AU s) <;> rfl
def vD {id:Int}:∀{l:List C} {i m:Nat} {c:C},l[i]? =some c->(c.get 0).toInt=id->∃j,j<=m+i/\Ax (findF id) m () l= .inr j
 | [],_,_,_,h,_=>by simp at h
 |d::l,0,m,c,h,hc=>by simp at h;subst h;exact⟨m,by omega,by simp[Ax,findF,hc]⟩
 |d::l,i+1,m,c,h,hc=>by by_cases hd:(d.get 0).toInt=id;{exact⟨m,by omega,by simp[Ax,findF,hd]⟩};{obtain⟨j,h1,h2⟩:=vD (l:=l) (i:=i) (m:=m+1) (by simpa using h) hc;exact⟨j,by omega,by simp[Ax,findF,hd];exact h2⟩}
def q6B {s c:C} {i:Nat} (h:(AU s)[i]? =some c):0<=Fm s (c.get 0).toInt/\Fm s (c.get 0).toInt<=i:=by obtain⟨j,h1,h2⟩:=vD (m:=0) h rfl;unfold Fm;rw[h2];unfold XZ;dsimp only;omega
def q1o (s put:C) (hst:StN s put) (hN:2199023255552<N) (k:KD R):Pu N s put k=k [.int (ED s put)] []:=by
 rw[q0D];unfold kT ED;rw[AP];by_cases h1:200<(s.get 1).toInt;{simp[h1,go_sem,AB,Ag]};have h8e:((8:Int)<(((s.get 4).elems.length:Nat):Int))=(8<(AU s).length):=by show((8:Int)<(((AU s).length:Nat):Int))=_;exact propext ⟨fun h=>by omega,fun h=>by omega⟩
 by_cases h2:8<(AU s).length;{simp only[h1,h2,go_sem,AB,Ag,h8e,or_true,if_true]};have hl:(AU s).length<1099511627776:=by omega
 have key:∀k':KD R,Ae N (Tu N k k') [s,put,.int 0] []=EI (fun _=>k' [] []) (fun e=>k [.int e] []) (Ax (Hv s put) 0 () [0,1]):=by
  intro k';refine Hz (F:=Tu N k k') (fun i (_:Unit)=>[s,put,.int i]) (fun _ _=>[]) [0,1] (Hv s put) (fun _=>k' [] []) (fun e=>k [.int e] []) (s0:=()) ?_ ?_ (by simp;omega)
  ·intro i _ c hx hi rec;have hi2:i<2:=hi;have h1:(i:Int)<2:=by omega
   have hc:c=(i:Int):=by
    have:i=0\/i=1:=by omega
    rcases this with rfl|rfl <;> simp at hx <;> subst hx <;> rfl
   subst hc;unfold Tu Hv;simp only[go_sem,AB,h1,q1h s put _ hst hl hN,BK (show i<4611686018427387904 by omega),bq,and_self,if_true];by_cases h:(Bw s put i).2=0 <;> simp[h]
  ·intro _ rec;unfold Tu;simp[go_sem,AB]
 have hor:¬(200<(s.get 1).toInt\/8<(AU s).length):=by omega
 rw[if_neg hor];simp only[AP,h1,h2,go_sem,AB,Ag,h8e,AE];refine(Hz (F:=Xx N k _) (fun i (_:Unit)=>[s,put,.int i]) (fun _ _=>[]) (AU s) (Hj s) (fun _=>k [.int (okE (Ax (Hv s put) 0 () [0,1]))] []) (fun e=>k [.int e] []) (s0:=()) ?_ ?_ (by omega)).trans ?_
 ·intro i _ c hx hi rec;have h1:(i:Int)<((AU s).length:Int):=by omega
  have hd:(s.get 4).elems.getD i .nil=c:=HK hx;have hs:(s.get 4).elems.length=(AU s).length:=rfl;obtain⟨f1,f2⟩:=q6B hx;unfold Xx Hj;rw[AP];simp only[go_sem,AB,Ag,hs,h1,hd,BK (show i<4611686018427387904 by omega),bq,and_self,if_true,z3q s _ hl hN];have hlt:(Fm s (c.get 0).toInt<(i:Int))=¬Fm s (c.get 0).toInt=i:=propext ⟨fun h=>by omega,fun h=>by omega⟩;by_cases h3:(c.get 1).toInt=0;{by_cases h4:(c.get 2).toInt=0;{simp[h3,h4]};{by_cases h5:Fm s (c.get 0).toInt=i <;> simp[h3,h4,h5,hlt]}};{by_cases h3':(c.get 1).toInt=1;{by_cases h4:(c.get 2).toInt=0;{simp[h3',h4]};{by_cases h5:Fm s (c.get 0).toInt=i <;> simp[h3',h4,h5,hlt]}};{simp[h3,h3']}}
 ·intro _ rec;unfold Xx;have hs:(s.get 4).elems.length=(AU s).length:=rfl;simp only[AP,go_sem,AB,hs,fa,AE,key];unfold EI okE;cases Ax (Hv s put) 0 () [0,1] <;> rfl
 ·unfold EI;cases Ax (Hj s) 0 () (AU s) <;> rfl
def Ga (done:List C) (side:Int):Nat->List C->List C
 |_,[]=>[]|j,c::l=>if(!(decide ((c.get 1).toInt=side)==(done.getD j .nil).toBool))=true then c.get 2::Ga done side (j+1) l else Ga done side (j+1) l
def q11 {done} {side:Int}:∀(l:List C) (j:Nat) (acc:List C),JZ (Ax (Gt done side) j acc l)=acc++Ga done side j l
 | [],_,acc=>by simp[Ax,JZ,Ga]
 |c::l,j,acc=>by simp only[Ax,Gt,Ga];rw[q11 l];split;{rw[dp];rfl};{rfl}
def z4s {s l}:∀{i:Nat},Ax (Hj s) i () l= .inl ()->∀c∈l,(c.get 1).toInt=0\/(c.get 1).toInt=1:=by
 induction l with
 |nil=>intro i _ c hc;cases hc
 |cons d l ih=>
  intro i h c hc;simp only[Ax,Hj]at h;by_cases h1:((d.get 1).toInt≠0/\(d.get 1).toInt≠1)\/(d.get 2).toInt=0;{rw[if_pos h1]at h;cases h};{rw[if_neg h1]at h;by_cases h2:Fm s (d.get 0).toInt=i;{rw[if_pos h2]at h;rcases fz.1 hc with rfl|hc;{omega};{exact ih h c hc}};{rw[if_neg h2]at h;cases h}}
def z4t {s put} (h:ED s put=0):∀c∈AU s,(c.get 1).toInt=0\/(c.get 1).toInt=1:=by
 unfold ED at h;split at h;{cases h}
 ·cases h2:Ax (Hj s) 0 () (AU s)with
  |inl u=>exact z4s h2|inr e=>
   rw[h2]at h;dsimp only at h;subst h;exfalso
   revert h2
   generalize AU s=l;generalize (0:Nat)=m
   induction l generalizing m with
   |nil=>intro h2;cases h2
   |cons d l ih=>
    intro h2;simp only[Ax,Hj]at h2;split at h2;{rename_i h3;split at h3;{cases h3};{split at h3;{exact ih _ h2};{cases h3}}};{rename_i h3;split at h3;{cases h3;cases h2};{split at h3;{cases h3};{cases h3;cases h2}}}
def z3M {done:List C} {s} (hd:done.length=(AU s).length) (hl:(AU s).length<=8) (ha:∀c∈AU s,W64 (c.get 2).toInt) (hby:∀c∈AU s,(c.get 1).toInt=0\/(c.get 1).toInt=1) (hN:2199023255552<N) (put yi b out:C) (side:Nat) (hsd:side<2) (n e:Int) (hn:W64 n) (k4:KD R):
  Ae N (Xy N k4) [.slice done,s,put,yi,.int side,.int n,.int e,.int 0,b,out] []=k4 [.slice done,s,put,yi,.int side,.int (onE n e (Ga done side 0 (AU s))).1,.int (onE n e (Ga done side 0 (AU s))).2,b,out] []:=by
 refine(Hy (F:=Xy N k4) (ι:=Nat × Int × Int) (fun x=>[.slice done,s,put,yi,.int side,.int x.2.1,.int x.2.2,.int x.1,b,out]) (fun _=>[]) (fun x=>(AU s).length-x.1+(if x.2.2=0 then 1 else 0)) (fun x=>x.1<=(AU s).length/\W64 x.2.1)
  (fun x=>k4 [.slice done,s,put,yi,.int side,.int (onE x.2.1 x.2.2 (Ga done side x.1 ((AU s).drop x.1))).1,.int (onE x.2.1 x.2.2 (Ga done side x.1 ((AU s).drop x.1))).2,b,out] []) ?_ N (0,n,e) ⟨Nat.zero_le _,hn⟩ (by dsimp only;split <;> omega)).trans ?_
 ·rintro⟨i,n,e⟩ ⟨hi,hn⟩ rec zd;dsimp only at hi hn zd ⊢;have hs:(s.get 4).elems=AU s:=rfl;unfold Xy;rw[AP];by_cases h:i<(AU s).length
  ·have h1:(i:Int)<((AU s).length:Int):=by omega
   have h1d:(i:Int)<(done.length:Int):=by omega
   by_cases he:e=0
   ·subst he;have hw:=ha _ (CT h);have hb:=hby _ (CT h);rw[sW h];unfold Ga;simp only[AP,AF,AK,AO,AV,Ac,Av,BW,Cm,DK,Ee,Fj,AB,Ag,AI,hs,h1,h1d,AE,bq,and_self,bf,BK (show i<4611686018427387904 by omega)];generalize hc:(AU s).getD i .nil=c at*;have w1:IntKind.i64.wrap (1-(c.get 1).toInt)=1-(c.get 1).toInt:=wrap_i64 (by omega) (by omega);have add:rec [.slice done,s,put,yi,.int side,.int (Ap n (c.get 2).toInt).1,.int (Ap n (c.get 2).toInt).2,.int ((i+1:Nat):Int),b,out] []=k4 [.slice done,s,put,yi,.int side,.int (onE n 0 (c.get 2::Ga done side (i+1) ((AU s).drop (i+1)))).1,.int (onE n 0 (c.get 2::Ga done side (i+1) ((AU s).drop (i+1)))).2,b,out] []:=by refine(zd (i+1,(Ap n (c.get 2).toInt).1,(Ap n (c.get 2).toInt).2) ⟨by omega,NZ⟩ (by dsimp only;split <;> simp <;> omega)).trans ?_;dsimp only;rw[show ∀l,onE n 0 l=onP n l from fun l=>rfl,XL]
    have non:=zd (i+1,n,0) ⟨by omega,hn⟩ (by simp;omega);dsimp only at non;cases hb0:(done.getD i .nil).toBool <;> by_cases hs1:(c.get 1).toInt=(side:Int);{simp only[AP,AF,AK,AO,AV,Ac,Av,BW,Cm,DK,Ee,Fj,AB,hs,h1,hc,hs1,AE,bq,and_self,bf,xh,fe,pt,ox,Je (.int n) (c.get 2) hn hw];exact add};{simp only[AP,AF,AK,AO,AV,Ac,Av,BW,Cm,DK,Ee,Fj,AB,hs,h1,hc,hs1,AE,bq,and_self,bf,xh,fe,pt,ox];exact non}
    ·have q:¬1-(side:Int)=side:=by omega
     have w2:IntKind.i64.wrap (1-(side:Int))=1-side:=wrap_i64 (by omega) (by omega);simp only[w2,AP,AF,AK,AO,AV,Ac,Av,BW,Cm,DK,Ee,Fj,AB,w1,hs,h1,hc,hs1,q,AE,bq,and_self,bf,xh,fe,pt,ox];exact non
    ·have q:1-(c.get 1).toInt=(side:Int):=by omega
     have w2:IntKind.i64.wrap (side:Int)=side:=wrap_i64 (by omega) (by omega);simp only[w2,AP,AF,AK,AO,AV,Ac,Av,BW,Cm,DK,Ee,Fj,AB,w1,hs,h1,hc,hs1,q,AE,bq,and_self,bf,xh,fe,pt,ox,Je (.int n) (c.get 2) hn hw];exact add
   ·simp only[AP,AF,AK,AO,AV,Ac,Av,BW,Cm,DK,Ee,Fj,AB,Ag,hs,h1,he,AE];unfold onE;simp only[he,if_false]
  ·have h1:¬(i:Int)<((AU s).length:Int):=by omega
   have h2:(AU s).drop i=[]:=oe (by omega);simp only[AP,AF,AK,AO,AV,Ac,Av,BW,Cm,DK,Ee,Fj,AB,Ag,hs,h1,AE,h2];unfold onE Ga;by_cases he:e=0;{subst he;rfl};{rw[if_neg he]}
 ·rfl
def z3L (s put yi:C) (done:C) (hd:done= .slice done.elems) (hst:StN s put) (hp:∀i<2,W64 (yi.get i).toInt) (hN:2199023255552<N) (k:KD R):Tv N s put yi done k=k [.int (Ci s put yi done.elems).1,(Ci s put yi done.elems).2] []:=by
 obtain⟨dl,rfl⟩:∃dl:List C,done= .slice dl:=⟨_,hd⟩;rw[AI];rw[q0E];have hz:AJ (cq 2 (bn av))=zz:=rfl;unfold kU Ci;rw[hz,q1o s put hst hN];by_cases h1:ED s put=0
 case neg=>simp[h1,go_sem,AB]
 by_cases h2:dl.length=(AU s).length
 case neg=>
  have h2':¬((dl.length:Int)=((s.get 4).elems.length:Int)):=fun h=>h2 (by show _=(s.get 4).elems.length;omega);simp only[h1,h2,h2',go_sem,AB,AE,ne_eq,not_true,not_false_iff]
 have hs:(s.get 4).elems.length=(AU s).length:=rfl;simp only[AP,h1,h2,hs,go_sem,AB,AE,ne_eq,not_true];obtain⟨hl,_⟩:=q1Z h1;have hby:=z4t h1;refine(Hz (F:=Xz N k _) (fun i (out:C)=>[.slice dl,s,put,yi,.int i,zz,out]) (fun _ _=>[]) ([0,1]:List Nat) (Le dl s put yi) (fun out=>k [.int 0,out] []) (fun e=>k [.int e,zz] []) ?_ ?_ (show 2<N by omega)).trans ?_
 ·intro i out c hx hi rec;have hi2:i<2:=hi;have h1:(i:Int)<2:=by omega
  have hc:c=i:=by
   have:i=0\/i=1:=by omega
   rcases this with rfl|rfl <;> simp at hx <;> exact hx.symm
  subst hc;obtain⟨hs1,hs2⟩:=hst;have wf:W64 (Bw s put c).1:=q6K ⟨hs1,hs2⟩ _;have wr:=q2b (hs1 c hi2).2.2 (hp c hi2);unfold Xz Le;simp only[AP,go_sem,AB,h1,q1h s put _ ⟨hs1,hs2⟩ (by omega) hN,BK (show c<4611686018427387904 by omega),bq,and_self,if_true,q1p];by_cases h3:(BT ((s.get 3).get c).toInt (yi.get c).toInt).2=0
  case neg=>simp[h3,hz]
  simp only[h3,AE,ne_eq,not_true];rw[Je (.int (Bw s put c).1) (.int (BT ((s.get 3).get c).toInt (yi.get c).toInt).1) wf wr];simp only[go_sem,AB];rw[z3M h2 hl hs2 hby hN put yi zz out c hi2 _ _ NZ];have es:CM (JA dl c [.int (Bw s put c).1,.int (BT ((s.get 3).get c).toInt (yi.get c).toInt).1] (AU s))=onE (Ap (Bw s put c).1 (BT ((s.get 3).get c).toInt (yi.get c).toInt).1).1 (Ap (Bw s put c).1 (BT ((s.get 3).get c).toInt (yi.get c).toInt).1).2 (Ga dl c 0 (AU s)):=by unfold JA;rw[q11,ji,ji,fx,q2d (a:=.int (Bw s put c).1) wf,XL];rfl
  rw[es];simp only[go_sem,AB,AI,h1,bq,and_self,if_true,BK (show c<4611686018427387904 by omega)];by_cases h4:(onE (Ap (Bw s put c).1 (BT ((s.get 3).get c).toInt (yi.get c).toInt).1).1 (Ap (Bw s put c).1 (BT ((s.get 3).get c).toInt (yi.get c).toInt).1).2 (Ga dl c 0 (AU s))).2=0 <;> simp[h4,hz]
 ·intro out rec;unfold Xz;simp[go_sem,AB]
 ·unfold EI mQ;cases Ax (Le dl s put yi) 0 zz [0,1] <;> rfl
end
def TN {R:Type} (N:Nat) (k4:KD R):KD R->KD R:=fun k5 d2 m2=>(bif decide (aj (dk d2 4)<2)then(if 0<=al ar (aj (dk d2 2)+aj (dk d2 4))/\al ar (aj (dk d2 2)+aj (dk d2 4))<4 then(if 0<=aj (dk d2 2)/\aj (dk d2 2)<2 then(if 0<=aj (dk d2 4)/\aj (dk d2 4)<2 then(if 0<=al ar (aj (dk d2 2)+aj (dk d2 4))/\al ar (aj (dk d2 2)+aj (dk d2 4))<4 then(k5 [dk d2 0,dk d2 1,dk d2 2,aw (al av (dx (al av (al av (aj (ax (dk d2 6) (aq (al ar (aj (dk d2 2)+aj (dk d2 4)))))+al av (aj (ax (dk d2 0) (aq (aj (dk d2 2))))*aj (ax (dk d2 1) (aq (aj (dk d2 4))))))+aj (dk d2 3))) 4294967296)),aw (al ar (aj (dk d2 4)+1)),dk d2 5,ct (dk d2 6) (aq (al ar (aj (dk d2 2)+aj (dk d2 4)))) (aw (bm (al av (al av (aj (ax (dk d2 6) (aq (al ar (aj (dk d2 2)+aj (dk d2 4)))))+al av (aj (ax (dk d2 0) (aq (aj (dk d2 2))))*aj (ax (dk d2 1) (aq (aj (dk d2 4))))))+aj (dk d2 3))) 4294967296))] [])else none)else none)else none)else none)else(k4 [dk d2 0,dk d2 1,dk d2 2,dk d2 3,dk d2 5,dk d2 6] []))
def TP (k2:KD R):KD R->KD R:=fun k3 d1 m1=>(bif decide (aj (dk d1 2)<2)then(jn (fun d2 m2=>(if 0<=al ar (aj (dk d2 2)+2)/\al ar (aj (dk d2 2)+2)<4 then(if 0<=al ar (aj (dk d2 2)+2)/\al ar (aj (dk d2 2)+2)<4 then(k3 [dk d2 0,dk d2 1,aw (al ar (aj (dk d2 2)+1)),dk d2 4,ct (dk d2 5) (aq (al ar (aj (dk d2 2)+2))) (aw (al av (aj (ax (dk d2 5) (aq (al ar (aj (dk d2 2)+2))))+aj (dk d2 3))))] [])else none)else none)) (fun k4=>(Ae N (TN N k4) [dk d1 0,dk d1 1,dk d1 2,aw 0,aw 0,dk d1 3,dk d1 4] [])))else(k2 [dk d1 3,dk d1 4] []))
def jI (a0 a1:C) (k1:KD R):Option R:=jn (fun d1 m1=>(k1 [dk d1 1] [])) (fun k2=>(Ae N (TP N k2) [ct (ct (AJ (cq 2 (bn av))) 0 (aw (bm (aj a0) 4294967296))) 1 (aw (al av (dx (aj a0) 4294967296))),ct (ct (AJ (cq 2 (bn av))) 0 (aw (bm (aj a1) 4294967296))) 1 (aw (al av (dx (aj a1) 4294967296))),aw 0,AJ (cq 4 (bn av)),AJ (cq 4 (bn av))] []))
def TQ:=lid "" (@jI R N)
def H3 {R N a0 a1 k}:@TQ R N a0 a1 k=jI N a0 a1 k:=by unfold TQ;rw[AW]
def z1A:OvG R:=Af [.int .u64,.int .u64] (Bl (TQ N)) (BD (cq 4 (bn av)))
def z1B:okX 153 (@z1A R N):=Ai AZ N [(153,[(4,[(6,6),(7,6)]),(11,[])])] [(153,[([1,0,1,1,1,1],(AY [4,5] [])),
  ([4,1,0,1,1,1,1],(AY [4,5,6,7] [(8,.d (.int .i64))])),
  ([1,0,1,4,0,1,5,4,1,0,1,1,1,1],(AY [4,5,6,7,8] [(9,.d (.int .u64))])),
  ([4,1,0,1,4,0,1,5,4,1,0,1,1,1,1],(AY [4,5,6,7,8] [(9,.d (.int .u64)),(10,.d (.int .i64))])),
  ([9],⟨[],[(4,.as (.ptr (.l 4) [] (.arr 4 (.int .u64))))],[],[(.l 4,.box (.d (.arr 4 (.int .u64))))],[],[]⟩)])] (fun _ _=>H3)
def jE (a0 a1:C) (k1:KD R):Option R:=TQ N a0 a1 (fun d1 m1=>(jn (fun d2 m2=>(bif cz (dk d2 0)then(k1 [aw 0,aw 11] [])else(k1 [aw (al av (al av (aj (ax (dk d2 1) (aq 1))*4294967296)+aj (ax (dk d2 1) (aq 0)))),aw 0] []))) (fun k2=>(bif !decide (aj (ax (dk d1 0) (aq 2))=0)then(k2 [cd true,dk d1 0] [])else(k2 [cd !decide (aj (ax (dk d1 0) (aq 3))=0),dk d1 0] [])))))
def TM:=lid "" (@jE R N)
def H0 {R N a0 a1 k}:@TM R N a0 a1 k=jE N a0 a1 k:=by unfold TM;rw[AW]
def z1v:OvG R:=Af [.int .u64,.int .u64] (Bl (TM N)) fun a K d1 m1=>K (ou [V.d (bn av) (dk d1 0),V.d (bn ar) (dk d1 1)]) []
def z1w:okX 142 (@z1v R N):=Ai (AH (z1B N) <| AZ) N [] [(142,[([0,0,1,1],(AY [6] [(17,.d .bool)])),
  ([9],(Ah [(4,.d (.int .u64)),(5,.d (.int .i64))]))])] (fun _ _=>H0)
section
variable {R:Type} {N:Nat}
def U64 (a:Int):Prop:=0<=a/\a<18446744073709551616
def ZO {a:Int} (h:U64 a):Aj .and .u64 a 4294967295=a%4294967296:=by
 obtain⟨x,rfl⟩:=Int.eq_ofNat_of_zero_le h.1;have hx:x<18446744073709551616:=by have:=h.2;omega
 show IntKind.u64.wrap (((dt 64 ((x:Nat):Int))&&&(dt 64 ((4294967295:Nat):Int))).toNat:Int)=_;simp only[BitVec.toNat_and,BitVec.ofInt_natCast,BitVec.toNat_ofNat];rw[qg (by omega),qg (by omega)];have key:x&&&4294967295=x%4294967296:=Nat.and_two_pow_sub_one_eq_mod x 32;rw[key,wrap_u64 (by omega) (by omega)];omega
def LJ {a b:Int} (ha:0<=a/\a<4294967296) (hb:0<=b/\b<4294967296):0<=a*b/\a*b<=18446744065119617025:=by refine⟨oz ha.1 hb.1,?_⟩;have h1:a*b<=4294967295*b:=Int.mul_le_mul_of_nonneg_right (by omega) hb.1;omega
def v7 (a b:Int):a*b=(a / 4294967296*(b / 4294967296))*18446744073709551616+(a / 4294967296*(b%4294967296)+a%4294967296*(b / 4294967296))*4294967296+a%4294967296*(b%4294967296):=by
 have e1:a=a / 4294967296*4294967296+a%4294967296:=by omega
 have e2:b=b / 4294967296*4294967296+b%4294967296:=by omega
 generalize a / 4294967296=a1 at*;generalize a%4294967296=a0 at*;generalize b / 4294967296=b1 at*;generalize b%4294967296=b0 at*;subst e1;subst e2;rw[show(18446744073709551616:Int)=4294967296*4294967296 from rfl];simp only[Int.add_mul,Int.mul_add,Int.mul_assoc,Int.mul_comm,Int.mul_left_comm];omega
def q7g {a b:Int} (ha:U64 a) (hb:U64 b):hiM a b=a*b / 18446744073709551616:=by
 have e:=v7 a b;unfold hiM;rw[ZO ha,ZO hb];have p2:((2:Int)^min (aq 32) 64)=4294967296:=by decide
 have fd:∀x:Int,Int.fdiv x 4294967296=x / 4294967296:=fun x=>Int.fdiv_eq_ediv_of_nonneg x (by omega);simp only[p2,fd];have u1:0<=a / 4294967296/\a / 4294967296<4294967296:=by unfold U64 at ha;omega
 have u0:0<=a%4294967296/\a%4294967296<4294967296:=by omega
 have v1:0<=b / 4294967296/\b / 4294967296<4294967296:=by unfold U64 at hb;omega
 have v0:0<=b%4294967296/\b%4294967296<4294967296:=by omega
 have hP:=LJ u1 v1;have hQ:=LJ u1 v0;have hT:=LJ u0 v1;have hS:=LJ u0 v0;generalize a / 4294967296*(b / 4294967296)=P at*;generalize a / 4294967296*(b%4294967296)=Q at*;generalize a%4294967296*(b / 4294967296)=T at*;generalize a%4294967296*(b%4294967296)=S at*;rw[e];rw[wrap_u64 (n:=P) (by omega) (by omega),wrap_u64 (n:=Q) (by omega) (by omega),wrap_u64 (n:=S) (by omega) (by omega),wrap_u64 (n:=T) (by omega) (by omega)];rw[wrap_u64 (n:=Q+S / 4294967296) (by omega) (by omega)];rw[ZO (a:=Q+S / 4294967296) ⟨by omega,by omega⟩];rw[wrap_u64 (n:=P+(Q+S / 4294967296) / 4294967296) (by omega) (by omega)];rw[wrap_u64 (n:=(Q+S / 4294967296)%4294967296+T) (by omega) (by omega)];rw[wrap_u64 (by omega) (by omega)];omega
def v5 {a b:Int} (ha:U64 a) (hb:U64 b):mulR a b=if a*b<18446744073709551616 then(a*b,0)else(0,11):=by have h0:0<=a*b:=oz ha.1 hb.1;unfold mulR;rw[q7g ha hb];by_cases h:a*b<18446744073709551616;{rw[if_pos (by omega),if_pos h,wrap_u64 h0 h]};{rw[if_neg (by omega),if_neg h]}
def PU (n:Int):C:=.agg [.int (n%4294967296),.int (n / 4294967296%4294967296),.int (n / 18446744073709551616%4294967296),.int (n / 79228162514264337593543950336)]
def q21 (x y sh out:C) (i j:Nat) (hi:i<2) (hj:j<2) (cy m n:Int) (hm:(x.get i).toInt*(y.get j).toInt=m) (h1:U64 m) (h2:U64 ((out.get (i+j)).toInt+m)) (hn:n=(out.get (i+j)).toInt+m+cy) (h3:U64 n) (k4 rec:KD R):
  TN N k4 rec [x,y,.int i,.int cy,.int j,sh,out] []=rec [x,y,.int i,.int (n / 4294967296),.int ((j+1:Nat):Int),sh,out.set (i+j) (.int (n%4294967296))] []:=by
 unfold TN;unfold U64 at*;have w1:IntKind.i64.wrap ((i:Int)+(j:Int))=((i+j:Nat):Int):=by rw[df _ (by omega)];rfl
 have w2:IntKind.i64.wrap ((j:Int)+1)=((j+1:Nat):Int):=by rw[df _ (by omega)];rfl
 have b1:(j:Int)<2:=by omega
 have b2:(0:Int)<=((i+j:Nat):Int)/\((i+j:Nat):Int)<4:=by omega
 have b3:(0:Int)<=(i:Int)/\(i:Int)<2:=by omega
 have b4:(0:Int)<=(j:Int)/\(j:Int)<2:=by omega
 simp only[go_sem,AB,w1,w2,b1,b2,b3,b4,AE,and_self,bf,hm];rw[wrap_u64 (n:=m) h1.1 h1.2,wrap_u64 h2.1 h2.2,<-hn,wrap_u64 h3.1 h3.2];have q1:dx n 4294967296=n / 4294967296:=ei h3.1;have q2:bm n 4294967296=n%4294967296:=dj h3.1;rw[q1,q2,wrap_u64 (by omega) (by omega)]
def z5j (x y sh out:C) (i:Nat) (cy:Int) (k4 rec:KD R):
  TN N k4 rec [x,y,.int i,.int cy,.int 2,sh,out] []=k4 [x,y,.int i,.int cy,sh,out] []:=by
 unfold TN;simp only[go_sem,AB,fa,AE]
def zT {M:Nat} (F:KD R->List C->List Es->Option R) (s:List C) (m:List Es):Ae (M+3) F s m=F (F (F (Ae M F))) s m:=by rw[Bq];congr 1;funext s m;rw[Bq];congr 1;funext s m;rw[Bq]
def q3o {a b:Int} (ha:U64 a) (hb:U64 b) (hN:10<N) (k:KD R):TQ N (.int a) (.int b) k=k [PU (a*b)] []:=by
 obtain⟨M,rfl⟩:∃M,N=M+3:=⟨N-3,by omega⟩;have e:=v7 a b;have h0:0<=a*b:=oz ha.1 hb.1;have u1:0<=a / 4294967296/\a / 4294967296<4294967296:=by unfold U64 at ha;omega
 have u0:0<=a%4294967296/\a%4294967296<4294967296:=by omega
 have v1:0<=b / 4294967296/\b / 4294967296<4294967296:=by unfold U64 at hb;omega
 have v0:0<=b%4294967296/\b%4294967296<4294967296:=by omega
 have hP:=LJ u1 v1;have hQ:=LJ u1 v0;have hT:=LJ u0 v1;have hS:=LJ u0 v0;have q1:dx a 4294967296=a / 4294967296:=ei ha.1;have q2:bm a 4294967296=a%4294967296:=dj ha.1;have q3:dx b 4294967296=b / 4294967296:=ei hb.1;have q4:bm b 4294967296=b%4294967296:=dj hb.1;have z2:∀p q:C,ct (ct (AJ (cq 2 (bn av))) 0 p) 1 q= .agg [p,q]:=fun _ _=>rfl;have z4:AJ (cq 4 (bn av))= .agg [.int 0,.int 0,.int 0,.int 0]:=rfl;rw[H3];unfold jI;rw[AP];simp only[AB,q1,q2,q3,q4,z2,z4,wrap_u64 u1.1 (by omega:a / 4294967296<18446744073709551616),wrap_u64 v1.1 (by omega:b / 4294967296<18446744073709551616)];generalize a / 4294967296=a1 at*;generalize a%4294967296=a0 at*;generalize b / 4294967296=b1 at*;generalize b%4294967296=b0 at*
 -- one round of the outer loop
 have round:∀(i:Nat) (hi:i<2) (sh out:C) (m0 m1 n0 n1:Int) (k2 rec:KD R),((dh [.int a0,.int a1]).get i).toInt*b0=m0->((dh [.int a0,.int a1]).get i).toInt*b1=m1->U64 m0->U64 m1->
   U64 ((out.get i).toInt+m0)->n0=(out.get i).toInt+m0+0->U64 n0->U64 (((out.set i (.int (n0%4294967296))).get (i+1)).toInt+m1)->n1=((out.set i (.int (n0%4294967296))).get (i+1)).toInt+m1+n0 / 4294967296->U64 n1->
   U64 ((((out.set i (.int (n0%4294967296))).set (i+1) (.int (n1%4294967296))).get (i+2)).toInt+n1 / 4294967296)->
   ∀Z:Option R,rec [.agg [.int a0,.int a1],.agg [.int b0,.int b1],.int ((i+1:Nat):Int),sh,((out.set i (.int (n0%4294967296))).set (i+1) (.int (n1%4294967296))).set (i+2) (.int ((((out.set i (.int (n0%4294967296))).set (i+1) (.int (n1%4294967296))).get (i+2)).toInt+n1 / 4294967296))] []=Z->TP (M+3) k2 rec [.agg [.int a0,.int a1],.agg [.int b0,.int b1],.int i,sh,out] []=Z:=by
  intro i hi sh out m0 m1 n0 n1 k2 rec hm0 hm1 g0 g1 g2 g3 g4 g5 g6 g7 g8 Z hZ;unfold TP;have c1:(i:Int)<2:=by omega
  have c2:IntKind.i64.wrap ((i:Int)+2)=((i+2:Nat):Int):=by rw[df _ (by omega)];rfl
  have c3:IntKind.i64.wrap ((i:Int)+1)=((i+1:Nat):Int):=by rw[df _ (by omega)];rfl
  have c4:(0:Int)<=((i+2:Nat):Int)/\((i+2:Nat):Int)<4:=by omega
  simp only[go_sem,AB,c1,AE,AP,zT];have s0:=fun k4 rec:KD R=>q21 (R:=R) (N:=M+3) (.agg [.int a0,.int a1]) (.agg [.int b0,.int b1]) sh out i 0 hi (by omega) 0 m0 n0 hm0 g0 g2 g3 g4 k4 rec;simp only[Nat.add_zero]at s0;rw[show(aw ((0:Nat):Int))=aw 0 from rfl]at s0;rw[s0];have s1:=fun k4 rec:KD R=>q21 (R:=R) (N:=M+3) (.agg [.int a0,.int a1]) (.agg [.int b0,.int b1]) sh (out.set i (.int (n0%4294967296))) i 1 hi (by omega) (n0 / 4294967296) m1 n1 hm1 g1 g5 g6 g7 k4 rec;rw[s1];rw[show(((1+1:Nat):Nat):Int)=2 from rfl,z5j];rw[<-hZ];clear hZ;generalize (out.set i (.int (n0%4294967296))).set (i+1) (.int (n1%4294967296))=O at g8 ⊢;simp only[go_sem,AB,c2,c3,c4,if_true,and_self,bf];rw[wrap_u64 g8.1 g8.2]
 have stop:∀(sh out:C) (k2 rec:KD R),TP (M+3) k2 rec [.agg [.int a0,.int a1],.agg [.int b0,.int b1],.int 2,sh,out] []=k2 [sh,out] []:=by intro sh out k2 rec;unfold TP;simp only[go_sem,AB,fa,AE]
 unfold U64 at round;generalize hS':a0*b0=S at*;generalize hT':a0*b1=T at*;generalize hQ':a1*b0=Q at*;generalize hP':a1*b1=P at*;rw[zT]
 have r0:=fun k2 rec=>round 0 (by omega) (.agg [.int 0,.int 0,.int 0,.int 0]) (.agg [.int 0,.int 0,.int 0,.int 0]) S T S (T+S / 4294967296) k2 rec hS' hT' (by omega) (by omega)
  (by show 0<=0+S/\0+S<_;omega) (by show S=0+S+0;omega) (by omega) (by show 0<=0+T/\0+T<_;omega) (by show _=0+T+_;omega) (by omega) (by show 0<=0+_/\0+_<_;omega) _ rfl
 have r1:=fun k2 rec=>round 1 (by omega) (.agg [.int 0,.int 0,.int 0,.int 0]) (.agg [.int (S%4294967296),.int ((T+S / 4294967296)%4294967296),.int (0+(T+S / 4294967296) / 4294967296),.int 0]) Q P
  ((T+S / 4294967296)%4294967296+Q) ((T+S / 4294967296) / 4294967296+P+((T+S / 4294967296)%4294967296+Q) / 4294967296) k2 rec hQ' hP' (by omega) (by omega)
  (by show 0<=(T+S / 4294967296)%4294967296+Q/\(T+S / 4294967296)%4294967296+Q<_;omega) (by show _=(T+S / 4294967296)%4294967296+Q+0;omega) (by omega)
  (by show 0<=0+(T+S / 4294967296) / 4294967296+P/\0+(T+S / 4294967296) / 4294967296+P<_;omega)
  (by show _=0+(T+S / 4294967296) / 4294967296+P+_;omega) (by omega) (by show 0<=0+_/\0+_<_;omega) _ rfl
 refine(r0 _ _).trans ((r1 _ _).trans ((stop _ _ _ _).trans ?_))
 show k [dh [aw (S%4294967296),aw (((T+S / 4294967296)%4294967296+Q)%4294967296),aw (((T+S / 4294967296) / 4294967296+P+((T+S / 4294967296)%4294967296+Q) / 4294967296)%4294967296),
  aw (0+((T+S / 4294967296) / 4294967296+P+((T+S / 4294967296)%4294967296+Q) / 4294967296) / 4294967296)]] []=_
 unfold PU;rw[e];have f0:S%4294967296=(P*18446744073709551616+(Q+T)*4294967296+S)%4294967296:=by omega
 have f1:((T+S / 4294967296)%4294967296+Q)%4294967296=(P*18446744073709551616+(Q+T)*4294967296+S) / 4294967296%4294967296:=by omega
 have f2:((T+S / 4294967296) / 4294967296+P+((T+S / 4294967296)%4294967296+Q) / 4294967296)%4294967296=(P*18446744073709551616+(Q+T)*4294967296+S) / 18446744073709551616%4294967296:=by omega
 have f3:0+((T+S / 4294967296) / 4294967296+P+((T+S / 4294967296)%4294967296+Q) / 4294967296) / 4294967296=(P*18446744073709551616+(Q+T)*4294967296+S) / 79228162514264337593543950336:=by omega
 rw[f0,f1,f2,f3]
def z3z {a b:Int} (ha:U64 a) (hb:U64 b) (hN:10<N) (k:KD R):TM N (.int a) (.int b) k=k [.int (mulR a b).1,.int (mulR a b).2] []:=by
 rw[H0];unfold jE;rw[q3o ha hb hN,v5 ha hb];have h0:0<=a*b:=oz ha.1 hb.1;have p0:(PU (a*b)).get 0= .int (a*b%4294967296):=rfl;have p1:(PU (a*b)).get 1= .int (a*b / 4294967296%4294967296):=rfl;have p2:(PU (a*b)).get 2= .int (a*b / 18446744073709551616%4294967296):=rfl;have p3:(PU (a*b)).get 3= .int (a*b / 79228162514264337593543950336):=rfl;simp only[AP,AF,AK,Ag,AB,show aq 2=2 from rfl,show aq 3=3 from rfl,show aq 1=1 from rfl,show aq 0=0 from rfl,p0,p1,p2,p3];generalize a*b=n at*;by_cases h:n<18446744073709551616
 ·have g2:n / 18446744073709551616%4294967296=0:=by omega
  have g3:n / 79228162514264337593543950336=0:=by omega
  rw[wrap_u64 (n:=n / 4294967296%4294967296*4294967296) (by omega) (by omega),wrap_u64 (by omega) (by omega)];have g:n / 4294967296%4294967296*4294967296+n%4294967296=n:=by omega
  simp[g2,g3,h,g]
 ·simp only[h,if_false];by_cases g2:n / 18446744073709551616%4294967296=0
  ·have g3:¬n / 79228162514264337593543950336=0:=by omega
   simp[g2,g3]
  ·simp[g2]
def z1o {a b:Int} (ha:U64 a) (hb:U64 b) (k:KD R):Fv N (.int a) (.int b) k=k [.int (Ap a b).1,.int (Ap a b).2] []:=by unfold U64 at*;rw[jD];unfold Xh;have w:IntKind.u64.wrap (18446744073709551615-a)=18446744073709551615-a:=wrap_u64 (by omega) (by omega);by_cases h:18446744073709551615-a<b;{rw[pC (by omega)];simp only[AB,w,h,AE]};{have w2:IntKind.u64.wrap (a+b)=a+b:=wrap_u64 (by omega) (by omega);rw[ZK (by omega) (by omega) (by omega)];simp only[AB,w,w2,h,AE]}
def z3N {a b:Int} (k:KD R):LU N (.int a) (.int b) k=k [.int (BT a b).1,.int (BT a b).2] []:=by rw[jG];unfold Xi BT;by_cases h:a<b;{simp only[AB,h,AE]};{simp only[AB,h,AE]}
end
def kH {R:Type} (N:Nat) (a0:C) (k1:KD R):Option R:=bif decide (aj a0=1)then(k1 [aw 8] [])else(jn (fun d1 m1=>(bif cz (dk d1 1)then(k1 [aw 1] [])else(jn (fun d2 m2=>(bif cz (dk d2 0)then(k1 [aw 2] [])else(k1 [aw 0] []))) (fun k2=>(bif decide (aj (dk d1 0)=11)then(k2 [Dz (cd (decide (aj (dk d1 0)=11))) true] [])else(k2 [cd (decide (aj (dk d1 0)=12))] [])))))) (fun k2=>(bif decide (aj a0=2)then(k2 [a0,Dz (cd (decide (aj a0=2))) true] [])else(k2 [a0,cd (decide (aj a0=16))] []))))
def Mt:=lid "" (@kH R N)
def q0r {R N a0 k}:@Mt R N a0 k=kH N a0 k:=by unfold Mt;rw[AW]
def z2m:OvG R:=Af [.int .i64] (Bs (Mt N)) (BD (bn ar))
def q0q:okX 74 (@z2m R N):=Ai AZ N [] [(74,[([1,0,3,1,4,1,0,1],(AY [3] [(6,.d .bool)])),
  ([1,0,3,1,3,1,4,1,0,1],(Ah [(9,.d .bool)])),
  ([9],(Ah [(2,.d (.int .i64))]))])] (fun _ _=>q0r)
def Tl (k2:KD R):KD R->KD R:=fun k3 d2 m2=>(Mt N (dk d2 2) (fun d3 m3=>(bif decide (aj (dk d2 4)<aj (dk d3 0))then(if 0<=al ar (al ar (aj (dk d2 1)+1)+aj (dk d2 4))/\al ar (al ar (aj (dk d2 1)+1)+aj (dk d2 4))<(↑(ak (ao (dk d2 0))):Int)then(k3 [dk d2 0,dk d2 1,dk d2 2,aw (al av (al av (aj (dk d2 3)*256)+al av (aj (bj (ao (dk d2 0)) (aq (al ar (al ar (aj (dk d2 1)+1)+aj (dk d2 4)))) du)))),aw (al ar (aj (dk d2 4)+1))] [])else none)else(k2 [dk d2 2,dk d2 3] []))))
def kI (a0 a1:C) (k1:KD R):Option R:=bif decide ((↑(ak (ao a0)):Int)<=aj a1)then(k1 [aw 0,aw 0,aw 9] [])else(if 0<=aj a1/\aj a1<(↑(ak (ao a0)):Int)then(bif decide (17<al ar (aj (bj (ao a0) (aq (aj a1)) du)))then(k1 [aw 0,aw 0,aw 33] [])else(Mt N (aw (al ar (aj (bj (ao a0) (aq (aj a1)) du)))) (fun d1 m1=>(bif decide ((↑(ak (ao a0)):Int)<al ar (al ar (aj a1+1)+aj (dk d1 0)))then(k1 [aw 0,aw 0,aw 9] [])else(jn (fun d2 m2=>(k1 [dk d2 0,dk d2 1,aw 0] [])) (fun k2=>(Ae N (Tl N k2) [a0,a1,aw (al ar (aj (bj (ao a0) (aq (aj a1)) du))),aw 0,aw 0] [])))))))else none)
def Tm:=lid "" (@kI R N)
def q0s {R N a0 a1 k}:@Tm R N a0 a1 k=kI N a0 a1 k:=by unfold Tm;rw[AW]
def z2n:OvG R:=Af [.slice 1 (.int .u8),.int .i64] (Bl (Tm N)) fun a K d1 m1=>K (ou [V.d (bn ar) (dk d1 0),V.d (bn av) (dk d1 1),V.d (bn ar) (dk d1 2)]) []
def z2o:okX 73 (@z2n R N):=Ai (AH (q0q N) <| AZ) N [] [(73,[([1,0,1,1,1,1,1,1],(AY [7] [(8,.d (.int .u64))])),
  ([4,1,0,1,1,1,1,1,1],(AY [0,1,7] [(8,.d (.int .u64)),(9,.d (.int .i64))])),
  ([9],(Ah [(4,.d (.int .i64)),(5,.d (.int .u64)),(6,.d (.int .i64))]))])] (fun _ _=>q0s)
def kG {R:Type} (N:Nat) (a0:C) (k1:KD R):Option R:=bif decide (aj a0=5)then(k1 [aw 3] [])else(bif decide (aj a0=16)then(k1 [aw 10] [])else(k1 [aw 1] []))
def Ps:=lid "" (@kG R N)
def q0p {R N a0 k}:@Ps R N a0 k=kG N a0 k:=by unfold Ps;rw[AW]
def z2k:OvG R:=Af [.int .i64] (Bs (Ps N)) (BD (bn ar))
def z2l:okX 126 (@z2k R N):=Ai AZ N [] [(126,[([9],(Ah [(2,.d (.int .i64))]))])] (fun _ _=>q0p)
def kK {R:Type} (N:Nat) (a0:C) (k1:KD R):Option R:=jn (fun d1 m1=>(bif cz (dk d1 1)then(k1 [aw 1] [])else(jn (fun d2 m2=>(bif cz (dk d2 0)then(k1 [aw 2] [])else(k1 [aw 0] []))) (fun k2=>(bif decide (aj (dk d1 0)=3)then(k2 [Dz (cd (decide (aj (dk d1 0)=3))) true] [])else(jn (fun d2 m2=>(k2 [cd (cz (dk d2 0))] [])) (fun k3=>(bif decide (aj (dk d1 0)=4)then(k3 [Dz (cd (decide (aj (dk d1 0)=4))) true] [])else(jn (fun d2 m2=>(k3 [cd (cz (dk d2 0))] [])) (fun k4=>(bif decide (aj (dk d1 0)=5)then(k4 [Dz (cd (decide (aj (dk d1 0)=5))) true] [])else(jn (fun d2 m2=>(k4 [cd (cz (dk d2 0))] [])) (fun k5=>(bif decide (aj (dk d1 0)=6)then(k5 [Dz (cd (decide (aj (dk d1 0)=6))) true] [])else(jn (fun d2 m2=>(k5 [cd (cz (dk d2 0))] [])) (fun k6=>(bif decide (aj (dk d1 0)=7)then(k6 [Dz (cd (decide (aj (dk d1 0)=7))) true] [])else(jn (fun d2 m2=>(k6 [cd (cz (dk d2 0))] [])) (fun k7=>(bif decide (aj (dk d1 0)=9)then(k7 [Dz (cd (decide (aj (dk d1 0)=9))) true] [])else(jn (fun d2 m2=>(k7 [cd (cz (dk d2 0))] [])) (fun k8=>(bif decide (aj (dk d1 0)=10)then(k8 [Dz (cd (decide (aj (dk d1 0)=10))) true] [])else(k8 [cd (decide (aj (dk d1 0)=14))] [])))))))))))))))))))))))) (fun k2=>(bif decide (aj a0=0)then(k2 [a0,Dz (cd (decide (aj a0=0))) true] [])else(jn (fun d1 m1=>(k2 [dk d1 0,cd (cz (dk d1 1))] [])) (fun k3=>(bif decide (aj a0=8)then(k3 [a0,Dz (cd (decide (aj a0=8))) true] [])else(jn (fun d1 m1=>(k3 [dk d1 0,cd (cz (dk d1 1))] [])) (fun k4=>(bif decide (aj a0=12)then(k4 [a0,Dz (cd (decide (aj a0=12))) true] [])else(jn (fun d1 m1=>(k4 [dk d1 0,cd (cz (dk d1 1))] [])) (fun k5=>(bif decide (aj a0=13)then(k5 [a0,Dz (cd (decide (aj a0=13))) true] [])else(k5 [a0,cd (decide (aj a0=15))] []))))))))))))
def LX:=lid "" (@kK R N)
def q0u {R N a0 k}:@LX R N a0 k=kK N a0 k:=by unfold LX;rw[AW]
def z2r:OvG R:=Af [.int .i64] (Bs (LX N)) (BD (bn ar))
def z2s:okX 127 (@z2r R N):=Ai AZ N [] [(127,[([1,0,4,1,0,1],(AY [3] [(4,.d .bool)])),
  ([1,3,1,0,4,1,0,1],(AY [3] [(4,.d .bool)])),
  ([1,3,1,3,1,0,4,1,0,1],(AY [3] [(4,.d .bool)])),
  ([1,3,1,3,1,3,1,0,4,1,0,1],(AY [3] [(4,.d .bool)])),
  ([1,0,3,1,4,1,0,1],(Ah [(10,.d .bool)])),
  ([1,3,1,0,3,1,4,1,0,1],(Ah [(10,.d .bool)])),
  ([1,3,1,3,1,0,3,1,4,1,0,1],(Ah [(10,.d .bool)])),
  ([1,3,1,3,1,3,1,0,3,1,4,1,0,1],(Ah [(10,.d .bool)])),
  ([1,3,1,3,1,3,1,3,1,0,3,1,4,1,0,1],(Ah [(10,.d .bool)])),
  ([1,3,1,3,1,3,1,3,1,3,1,0,3,1,4,1,0,1],(Ah [(10,.d .bool)])),
  ([1,3,1,3,1,3,1,3,1,3,1,3,1,0,3,1,4,1,0,1],(Ah [(10,.d .bool)])),
  ([9],(Ah [(2,.d (.int .i64))]))])] (fun _ _=>q0u)
def kM {R:Type} (N:Nat) (a0:C) (k1:KD R):Option R:=bif cz a0 then(k1 [aw 1] [])else(k1 [aw 0] [])
def II:=lid "" (@kM R N)
def q0w {R N a0 k}:@II R N a0 k=kM N a0 k:=by unfold II;rw[AW]
def z2v:OvG R:=Af [.bool] (Bs (II N)) (BD (bn av))
def z2w:okX 143 (@z2v R N):=Ai AZ N [] [(143,[([9],(Ah [(2,.d (.int .u64))]))])] (fun _ _=>q0w)
def kL (a0 a1 a2 a3 a4:C) (k1:KD R):Option R:=jn (fun d1 m1=>(bif !decide (aj (dk d1 1)=0)then(k1 [bc [],dk d1 1] [])else(k1 [bc [dk d1 0],aw 0] []))) (fun k2=>(bif decide (aj a0=1)then(k2 [a1,aw 0] [])else(jn (fun d1 m1=>(k2 [dk d1 0,dk d1 1] [])) (fun k3=>(bif decide (aj a0=2)then(bif decide (al av (↑(ak (ao (ax a2 0))):Int)<=aj a1)then(k1 [bc [],aw 1] [])else(if 0<=aj a1/\aj a1<(↑(ak (ao (ax a2 0))):Int)then(k3 [bj (ao (ax a2 0)) (aq (aj a1)) du,aw 0] [])else none))else(jn (fun d1 m1=>(k3 [dk d1 0,dk d1 1] [])) (fun k4=>(bif decide (aj a0=3)then(Fv N a3 a4 (fun d1 m1=>(k4 [dk d1 0,dk d1 1] [])))else(jn (fun d1 m1=>(k4 [dk d1 0,dk d1 1] [])) (fun k5=>(bif decide (aj a0=4)then(LU N a3 a4 (fun d1 m1=>(k5 [dk d1 0,dk d1 1] [])))else(jn (fun d1 m1=>(k5 [dk d1 0,dk d1 1] [])) (fun k6=>(bif decide (aj a0=5)then(TM N a3 a4 (fun d1 m1=>(k6 [dk d1 0,dk d1 1] [])))else(jn (fun d1 m1=>(k6 [dk d1 1,dk d1 0] [])) (fun k7=>(bif decide (aj a0=6)then(II N (cd (decide (aj a3<aj a4))) (fun d1 m1=>(k7 [aw 0,dk d1 0] [])))else(jn (fun d1 m1=>(k7 [dk d1 0,dk d1 1] [])) (fun k8=>(bif decide (aj a0=7)then(II N (cd (decide (aj a3=aj a4))) (fun d1 m1=>(k8 [aw 0,dk d1 0] [])))else(jn (fun d1 m1=>(k8 [dk d1 0,dk d1 1] [])) (fun k9=>(bif decide (aj a0=8)then(II N (cd (decide (aj a4=0))) (fun d1 m1=>(k9 [aw 0,dk d1 0] [])))else(jn (fun d1 m1=>(k9 [dk d1 0,dk d1 1] [])) (fun k10=>(bif decide (aj a0=9)then(jn (fun d1 m1=>(k10 [dk d1 0,dk d1 1] [])) (fun k11=>(bif !decide (aj a3=0)then(II N (cd !decide (aj a4=0)) (fun d1 m1=>(k11 [aw 0,dk d1 0] [])))else(II N (cd false) (fun d1 m1=>(k11 [aw 0,dk d1 0] []))))))else(jn (fun d1 m1=>(k10 [dk d1 0,dk d1 1] [])) (fun k11=>(bif decide (aj a0=10)then(jn (fun d1 m1=>(k11 [dk d1 0,dk d1 1] [])) (fun k12=>(bif !decide (aj a3=0)then(II N (cd true) (fun d1 m1=>(k12 [aw 0,dk d1 0] [])))else(II N (cd !decide (aj a4=0)) (fun d1 m1=>(k12 [aw 0,dk d1 0] []))))))else(bif decide (aj a0=13)then(k1 [bc [a4,a4],aw 0] [])else(bif decide (aj a0=14)then(k1 [bc [a4,a3],aw 0] [])else(jn (fun d1 m1=>(k11 [dk d1 0,dk d1 1] [])) (fun k12=>(bif decide (aj a0=16)then(bif decide (al av (↑(ak (ao (ax a2 1))):Int)<=aj a1)then(k1 [bc [],aw 1] [])else(if 0<=aj a1/\aj a1<(↑(ak (ao (ax a2 1))):Int)then(II N (bj (ao (ax a2 1)) (aq (aj a1)) du) (fun d1 m1=>(k12 [aw 0,dk d1 0] [])))else none))else(bif decide (aj a0=17)then(k12 [aw 0,ax a2 2] [])else(k1 [bc [],aw 0] []))))))))))))))))))))))))))))))))))))
def Tq:=lid "" (@kL R N)
def q0v {R N a0 a1 a2 a3 a4 k}:@Tq R N a0 a1 a2 a3 a4 k=kL N a0 a1 a2 a3 a4 k:=by unfold Tq;rw[AW]
def z2t:OvG R:=Af [.int .i64,.int .u64,Yg,.int .u64,.int .u64] (fun a=>Tq N (a 0) (a 1) (a 2) (a 3) (a 4)) fun a K d1 m1=>K (ou [V.d (Ty.slice 8 (bn av)) (dk d1 0),V.d (bn ar) (dk d1 1)]) []
def z2u:okX 128 (@z2t R N):=Ai (AH (LS N) <| AH (jF N) <| AH (z1w N) <| AH (z2w N) <| AZ) N [(128,[(0,[(7,5)])])] [(128,[([1,4,1,0,1,1],(Ah [(12,.d (.int .u64)),(13,.d (.int .i64))])),
  ([1,3,1,4,1,0,1,1],(Ah [(12,.d (.int .u64)),(13,.d (.int .i64))])),
  ([1,3,1,3,1,4,1,0,1,1],(Ah [(12,.d (.int .u64)),(13,.d (.int .i64))])),
  ([1,3,1,3,1,3,1,4,1,0,1,1],(Ah [(12,.d (.int .u64)),(13,.d (.int .i64))])),
  ([1,3,1,3,1,3,1,3,1,4,1,0,1,1],(Ah [(12,.d (.int .u64)),(13,.d (.int .i64))])),
  ([1,3,1,3,1,3,1,3,1,3,1,4,1,0,1,1],(AY [13] [(12,.d (.int .u64))])),
  ([1,3,1,3,1,3,1,3,1,3,1,3,1,4,1,0,1,1],(AY [13] [(12,.d (.int .u64))])),
  ([1,3,1,3,1,3,1,3,1,3,1,3,1,3,1,4,1,0,1,1],(AY [13] [(12,.d (.int .u64))])),
  ([1,3,1,3,1,3,1,3,1,3,1,3,1,3,1,3,1,4,1,0,1,1],(AY [13] [(12,.d (.int .u64))])),
  ([2,1,3,1,3,1,3,1,3,1,3,1,3,1,3,1,3,1,4,1,0,1,1],(AY [13] [(12,.d (.int .u64))])),
  ([1,3,1,3,1,3,1,3,1,3,1,3,1,3,1,3,1,3,1,4,1,0,1,1],(AY [13] [(12,.d (.int .u64))])),
  ([2,1,3,1,3,1,3,1,3,1,3,1,3,1,3,1,3,1,3,1,4,1,0,1,1],(AY [13] [(12,.d (.int .u64))])),
  ([1,3,1,3,1,3,1,3,1,3,1,3,1,3,1,3,1,3,1,3,1,3,1,3,1,4,1,0,1,1],(AY [13] [(12,.d (.int .u64))])),
  ([9],(Ah [(10,.d (.slice 8 (.int .u64))),(11,.d (.int .i64))]))])] (fun _ _=>q0v)
def Tn (k1:KD R):KD R->KD R:=fun k2 d2 m2=>(Tm N (dk d2 0) (dk d2 4) (fun d3 m3=>(bif !decide (aj (dk d3 2)=0)then(k1 [aw 0,dk d2 5,dk d3 2] [])else(Ps N (dk d3 0) (fun d4 m4=>(bif decide (aj (dk d2 1)<al ar (aj (dk d2 5)+aj (dk d4 0)))then(k1 [aw 0,dk d2 5,aw 24] [])else(Ps N (dk d3 0) (fun d5 m5=>(LX N (dk d3 0) (fun d6 m6=>(bif decide ((↑(ak (ao (dk d2 3))):Int)<aj (dk d6 0))then(k1 [aw 0,aw (al ar (aj (dk d2 5)+aj (dk d5 0))),aw 12] [])else(LX N (dk d3 0) (fun d7 m7=>(jn (fun d8 m8=>(LX N (dk d8 5) (fun d9 m9=>(jn (fun d10 m10=>(LX N (dk d10 5) (fun d11 m11=>(if Int.ofNat 0<=0/\0<=al ar ((↑(ak (ao (dk d10 8))):Int)-aj (dk d11 0))/\al ar ((↑(ak (ao (dk d10 8))):Int)-aj (dk d11 0))<=(↑(ak (ao (dk d10 8))):Int)then(bif decide (aj (dk d10 5)=0)then(k1 [dk d10 7,dk d10 4,aw 0] [])else(Tq N (dk d10 5) (dk d10 6) (dk d10 2) (dk d10 9) (dk d10 7) (fun d12 m12=>(bif !decide (aj (dk d12 1)=0)then(k1 [aw 0,dk d10 4,dk d12 1] [])else(bif decide (32<al ar ((↑(ak (cut (ao (dk d10 8)) 0 (al ar ((↑(ak (ao (dk d10 8))):Int)-aj (dk d11 0))))):Int)+(↑(ak (ao (dk d12 0))):Int)))then(k1 [aw 0,dk d10 4,aw 4] [])else(bif bw (ak (cut (ao (dk d10 8)) 0 (al ar ((↑(ak (ao (dk d10 8))):Int)-aj (dk d11 0))))) (ak (cut (ao (dk d10 8)) 0 (al ar ((↑(ak (ao (dk d10 8))):Int)-aj (dk d11 0)))))then(if(ak (cut (ao (dk d10 8)) 0 (al ar ((↑(ak (ao (dk d10 8))):Int)-aj (dk d11 0))))+ak (ao (dk d12 0)))*8<=140737488355328/\ak (cut (ao (dk d10 8)) 0 (al ar ((↑(ak (ao (dk d10 8))):Int)-aj (dk d11 0))))+ak (ao (dk d12 0))<=9223372036854775807 then(Mt N (dk d10 5) (fun d13 m13=>(jn (fun d14 m14=>(jn (fun d15 m15=>(bif bw (ak (ao (dk d15 4))) (ak (ao (dk d15 4)))then(k2 [dk d15 0,dk d15 1,dk d15 2,bc (ao (dk d15 4)),dk d15 5,dk d15 3] [])else none)) (fun k3=>(bif cz (dk d14 7)then(bif bw (ak (ao (dk d14 6))) (ak (ao (dk d14 6)))then(k3 [dk d14 0,dk d14 1,dk d14 2,dk d14 4,bc (ao (dk d14 6)),aw (al ar (aj (dk d14 5)))] [])else none)else(bif bw (ak (ao (dk d14 6))) (ak (ao (dk d14 6)))then(k3 [dk d14 0,dk d14 1,dk d14 2,dk d14 4,bc (ao (dk d14 6)),dk d14 3] [])else none))))) (fun k3=>(bif decide (aj (dk d10 5)=11)then(bif bw (ak (cut (ao (dk d10 8)) 0 (al ar ((↑(ak (ao (dk d10 8))):Int)-aj (dk d11 0))))+ak (ao (dk d12 0))) (ak (cut (ao (dk d10 8)) 0 (al ar ((↑(ak (ao (dk d10 8))):Int)-aj (dk d11 0)))++ao (dk d12 0)))then(k3 [dk d10 0,dk d10 1,dk d10 2,aw (al ar (al ar (aj (dk d10 3)+1)+aj (dk d13 0))),dk d10 4,dk d10 6,bc (cut (ao (dk d10 8)) 0 (al ar ((↑(ak (ao (dk d10 8))):Int)-aj (dk d11 0)))++ao (dk d12 0)),cd true] [])else none)else(bif decide (aj (dk d10 5)=12)then(bif bw (ak (cut (ao (dk d10 8)) 0 (al ar ((↑(ak (ao (dk d10 8))):Int)-aj (dk d11 0))))+ak (ao (dk d12 0))) (ak (cut (ao (dk d10 8)) 0 (al ar ((↑(ak (ao (dk d10 8))):Int)-aj (dk d11 0)))++ao (dk d12 0)))then(k3 [dk d10 0,dk d10 1,dk d10 2,aw (al ar (al ar (aj (dk d10 3)+1)+aj (dk d13 0))),dk d10 4,dk d10 6,bc (cut (ao (dk d10 8)) 0 (al ar ((↑(ak (ao (dk d10 8))):Int)-aj (dk d11 0)))++ao (dk d12 0)),cd !decide (aj (dk d10 7)=0)] [])else none)else(bif bw (ak (cut (ao (dk d10 8)) 0 (al ar ((↑(ak (ao (dk d10 8))):Int)-aj (dk d11 0))))+ak (ao (dk d12 0))) (ak (cut (ao (dk d10 8)) 0 (al ar ((↑(ak (ao (dk d10 8))):Int)-aj (dk d11 0)))++ao (dk d12 0)))then(k3 [dk d10 0,dk d10 1,dk d10 2,aw (al ar (al ar (aj (dk d10 3)+1)+aj (dk d13 0))),dk d10 4,dk d10 6,bc (cut (ao (dk d10 8)) 0 (al ar ((↑(ak (ao (dk d10 8))):Int)-aj (dk d11 0)))++ao (dk d12 0)),cd false] [])else none)))))))else none)else none))))))else none)))) (fun k3=>(bif decide (aj (dk d9 0)=2)then(if 0<=al ar ((↑(ak (ao (dk d8 8))):Int)-2)/\al ar ((↑(ak (ao (dk d8 8))):Int)-2)<(↑(ak (ao (dk d8 8))):Int)then(bif bw (ak (ao (dk d8 8))) (ak (ao (dk d8 8)))then(k3 [dk d8 0,dk d8 1,dk d8 2,dk d8 3,dk d8 4,dk d8 5,dk d8 6,dk d8 9,bc (ao (dk d8 8)),bj (ao (dk d8 8)) (aq (al ar ((↑(ak (ao (dk d8 8))):Int)-2))) du] [])else none)else none)else(bif bw (ak (ao (dk d8 8))) (ak (ao (dk d8 8)))then(k3 [dk d8 0,dk d8 1,dk d8 2,dk d8 3,dk d8 4,dk d8 5,dk d8 6,dk d8 9,bc (ao (dk d8 8)),dk d8 7] [])else none))))))) (fun k3=>(bif decide (1<=aj (dk d7 0))then(if 0<=al ar ((↑(ak (ao (dk d2 3))):Int)-1)/\al ar ((↑(ak (ao (dk d2 3))):Int)-1)<(↑(ak (ao (dk d2 3))):Int)then(bif bw (ak (ao (dk d2 3))) (ak (ao (dk d2 3)))then(k3 [dk d2 0,dk d2 1,dk d2 2,dk d2 4,aw (al ar (aj (dk d2 5)+aj (dk d5 0))),dk d3 0,dk d3 1,aw 0,bc (ao (dk d2 3)),bj (ao (dk d2 3)) (aq (al ar ((↑(ak (ao (dk d2 3))):Int)-1))) du] [])else none)else none)else(bif bw (ak (ao (dk d2 3))) (ak (ao (dk d2 3)))then(k3 [dk d2 0,dk d2 1,dk d2 2,dk d2 4,aw (al ar (aj (dk d2 5)+aj (dk d5 0))),dk d3 0,dk d3 1,aw 0,bc (ao (dk d2 3)),aw 0] [])else none)))))))))))))))))
def kJ (a0 a1 a2:C) (k1:KD R):Option R:=jn (fun d1 m1=>(bif cz (dk d1 3)then(k1 [aw 0,aw 0,aw 1] [])else(Ae N (Tn N k1) [dk d1 0,dk d1 1,dk d1 2,bc [],aw 0,aw 0] []))) (fun k2=>(bif decide (256<(↑(ak (ao a0)):Int))then(k2 [a0,a2,a1,cd true] [])else(bif decide (aj a2<0)then(k2 [a0,a2,a1,cd true] [])else(k2 [a0,a2,a1,cd (decide (4096<aj a2))] []))))
def Tp:=lid "" (@kJ R N)
def q0t {R N a0 a1 a2 k}:@Tp R N a0 a1 a2 k=kJ N a0 a1 a2 k:=by unfold Tp;rw[AW]
def z2p:OvG R:=Af [.slice 1 (.int .u8),Yg,.int .i64] (Ds (Tp N)) fun a K d1 m1=>K (ou [V.d (bn av) (dk d1 0),V.d (bn ar) (dk d1 1),V.d (bn ar) (dk d1 2)]) []
def z2q:okX 103 (@z2p R N):=Ai (AH (z2o N) <| AH (q0q N) <| AH (z2l N) <| AH (z2s N) <| AH (z2u N) <| AZ) N [(103,[(0,[(4,5)])])] [(103,[([0,0,1],(AY [0,2,4] [(29,.d .bool)])),
  ([4,1,1,1,1],(AY [0,2,4] [(9,.sl 8 (.int .u64) 5009),(10,.d (.int .i64)),(11,.d (.int .i64))])),
  ([1,0,1,1,1,1,1,1,4,5,4,1,1,1,1],(AY [0,2,4,10,11,12,13,15] [(9,.sl 8 (.int .u64) 5009),(16,.d (.int .u64))])),
  ([1,0,1,1,1,1,1,1,1,4,5,4,1,1,1,1],(AY [0,2,4,10,11,12,13,16] [(9,.sl 8 (.int .u64) 5009),(15,.d (.int .u64))])),
  ([0,1,1,1,1,1,1,1,1,1,1,1,1,1,1,1,4,5,4,1,1,1,1],(AY [0,2,4,10,11,13] [(9,.sl 8 (.int .u64) 5009),(126,.d .bool)])),
  ([1,1,1,1,1,1,1,1,1,1,1,1,1,1,1,1,4,5,4,1,1,1,1],(AY [0,2,4,11] [(9,.sl 8 (.int .u64) 5009),(10,.d (.int .i64))])),
  ([9],(Ah [(6,.d (.int .u64)),(7,.d (.int .i64)),(8,.d (.int .i64))]))])] (fun _ _=>q0t)
end Go.Proofs.YtgdonkaoajbclaaGreatDoor
