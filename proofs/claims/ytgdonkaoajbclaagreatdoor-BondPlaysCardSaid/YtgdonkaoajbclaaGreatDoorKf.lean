/-
 What the functions on the way compute, part 6.
 Conditions: none.
-/
import Derived.Test.YtgdonkaoajbclaaGreatDoorKe
set_option linter.all false
noncomputable section
set_option maxRecDepth 100000
set_option maxHeartbeats 4000000
open BEq renaming rfl->xg
open BitVec renaming ofInt->dv
open Bool renaming false_beq->oy,false_eq_true->fj,true_beq->pw
open Go.BinOp renaming and->dr
open Go.E.C renaming agg->dj,beq->na,bool->cg,elems->au,get->bc,int->az,nil->dw,set->db,slice->bj,toBool->cz,toInt->ao
open Go.E.Ty renaming arr->ct,int->br
open Go.E.V renaming tup->ow
open Go.IntKind renaming i64->aw,u32->cm,u64->ay,u8->bt,wrap->ar
open Go.IntWalk renaming i64_in->dh
open Int renaming lt_irrefl->fb,mul_nonneg->pc,natCast_nonneg->bu,natCast_zero->wx,ofNat_zero->xy,tdiv->dz,tdiv_eq_ediv_of_nonneg->ek,tmod->bq,tmod_eq_emod_of_nonneg->dp,toNat->av,toNat_natCast->bh
open List renaming append_assoc->dq,cons_append->ji,drop_of_length_le->og,eq_of_mem_replicate->ij,flatMap_cons->jv,getD->bp,getD_eq_getElem?_getD->bn,getElem?_eq_getElem->bm,length->aq,length_append->bx,length_cons->cn,length_nil->df,mem_append->dy,mem_cons->gr,mem_cons_of_mem->fq,mem_cons_self->fy,mem_singleton->ft,nil_append->fz,not_mem_nil->jd,replicate->bf,take_length->ir
open Nat renaming beq->bo,beq_refl->bw,mod_eq_of_lt->qh,zero_add->cq
namespace Go.Proofs.YtgdonkaoajbclaaGreatDoor
open Go Go.E
variable {R:Type} (N:Nat)
section
variable {R:Type} {N:Nat}
theorem q1Y {l:List C} {i:Nat} (hi:i<l.length):l.take (i+1)=l.take i++[l.getD i .nil]:=by rw[List.take_add_one,bm hi,bn,bm hi];rfl
def Yu (c:C):Prop:=c= .agg [c.get 0,c.get 1,c.get 2,c.get 3,c.get 4]
theorem q7F (c:C) (h:Yu c) (k:KD R):Rp N c k=k [c] []:=by
 rw[xH];unfold dM;simp only[HY,IC,YT,q1u,mG];rw[<-h]
theorem q7C (c:C) (h:Yu c) (k:KD R):Ro N c k=k [c] []:=by
 rw[xG];unfold dL;simp only[HY,IC,YT,q1u,mG];rw[<-h]
structure StE (s:C):Prop where
 eta:SOk s
 cs:∀c∈AY s,Yu c
 ln:(AY s).length<=12
theorem q7L (s:C) (h:StE s) (hN:2000<N) (k:KD R):Rr N s k=k [s] []:=by
 have he:=h.eta;have hc:=h.cs;have hl:=h.ln;unfold SOk at he;rw[xJ];unfold dP;rw[AQ];unfold AY at he hc hl;generalize hcs:au (bc s 4)=cs at*;generalize (dj [AI (br cm),AI (br ay),AI (ct 2 (br ay)),AI (ct 2 (br ay)),bj []])=Z;have key:=Dd (F:=WX N fun d1 m1=>k [dj [dk d1 0,dk d1 1,dk d1 2,dk d1 3,bj (au (dk d1 4))]] []) (fun i=>[s.get 4,.int cs.length,.int i,s.get 0,s.get 1,s.get 2,s.get 3,.slice (cs.take i),Z]) (fun _=>[]) cs.length (k [s] []) ?_ ?_ (N:=N) (by omega)
 ·simpa using key
 ·intro i hi rec;have h1:(i:Int)<(cs.length:Int):=by omega
  have h2:=hc _ (CR hi);have h3:(cs.take i).length<=12:=by simp;omega
  have g1:((cs.take i).length+1)*64<=140737488355328/\(cs.take i).length+1<=9223372036854775807:=by omega
  unfold WX;simp only[AF,AL,AP,AU,Ab,Av,Ba,DD,Da,AB,AJ,hcs,h1,g1,AE,bu,and_self,bw,bh,q7F _ h2,bx,cn,df,cq,BM (show i<4611686018427387904 by omega),q1Y hi]
 ·intro rec;unfold WX;simp only[AF,AL,AP,AU,Ab,Av,Ba,DD,Da,AB,AJ,fb,AE,ir];rw[<-he]
theorem q7I (s:C) (h:StE s) (hN:2000<N) (k:KD R):Rq N s k=k [s] []:=by
 have he:=h.eta;have hc:=h.cs;have hl:=h.ln;unfold SOk at he;rw[xI];unfold dN;rw[AQ];unfold AY at he hc hl;generalize hcs:au (bc s 4)=cs at*;generalize (dj [AI (br cm),AI (br ay),AI (ct 2 (br ay)),AI (ct 2 (br ay)),bj []])=Z;have key:=Dd (F:=WW N fun d1 m1=>k [dj [dk d1 0,dk d1 1,dk d1 2,dk d1 3,bj (au (dk d1 4))]] []) (fun i=>[s.get 4,.int cs.length,.int i,s.get 0,s.get 1,s.get 2,s.get 3,.slice (cs.take i),Z]) (fun _=>[]) cs.length (k [s] []) ?_ ?_ (N:=N) (by omega)
 ·simpa using key
 ·intro i hi rec;have h1:(i:Int)<(cs.length:Int):=by omega
  have h2:=hc _ (CR hi);have h3:(cs.take i).length<=12:=by simp;omega
  have g1:((cs.take i).length+1)*64<=140737488355328/\(cs.take i).length+1<=9223372036854775807:=by omega
  unfold WW;simp only[AF,AL,AP,AU,Ab,Av,Ba,DD,Da,AB,AJ,hcs,h1,g1,AE,bu,and_self,bw,bh,q7C _ h2,bx,cn,df,cq,BM (show i<4611686018427387904 by omega),q1Y hi]
 ·intro rec;unfold WW;simp only[AF,AL,AP,AU,Ab,Av,Ba,DD,Da,AB,AJ,fb,AE,ir];rw[<-he]
def stZ (id:Int):C:=.agg [.int id,.int 0,zz,zz,.slice []]
theorem z4b (id:Int):SOk (stZ id):=rfl
theorem Z5 (a:Int) (k:KD R):PJ N (.int a) k=k [stZ a] []:=by
 rw[Z8];rfl
def UU (s:C) (id:Int):Bool:=decide ((s.get 0).toInt=id/\(s.get 1).toInt=0/\na (s.get 2) zz=true/\na (s.get 3) zz=true/\(s.get 4).elems.length=0)
theorem q21 (s:C) (id:Int) (hN:10<N) (k:KD R):Sr N s (stZ id) k=k [.bool (UU s id)] []:=by
 have he:∀k:KD R,Ua N (s.get 4) (.slice []) k=k [.bool (decide ((s.get 4).elems.length=0))] []:=fun k=>by
  obtain⟨M,rfl⟩:∃M,N=M+1:=⟨N-1,by omega⟩;rw[q1D];unfold mL;by_cases z:(s.get 4).elems.length=0
  ·have z':((s.get 4).elems.length:Int)=(([]:List C).length:Int):=by simp[z]
   simp only[AJ,z,z',AQ,Bm,AE];unfold q1C;simp[AB,AP,AU]
  ·have z':¬((s.get 4).elems.length:Int)=(([]:List C).length:Int):=by simpa using z
   simp only[AJ,z,z',AE]
 have g0:(stZ id).get 0= .int id:=rfl;have g1:(stZ id).get 1= .int 0:=rfl;have g2:(stZ id).get 2=zz:=rfl;have g3:(stZ id).get 3=zz:=rfl;have g4:(stZ id).get 4= .slice []:=rfl;rw[Y0];unfold gY UU;simp only[AQ,g0,g1,g2,g3,g4,he,AB,AF,Ah];by_cases a0:(s.get 0).toInt=id
 case neg=>simp[a0,Ah,AF]
 by_cases a1:(s.get 1).toInt=0
 case neg=>simp[a1,Ah,AF]
 cases a2:na (s.get 2) zz
 ·simp[a0,a1,Ah,AF]
 cases a3:na (s.get 3) zz
 ·simp[a0,a1,Ah,AF]
 simp[a0,a1,Ah,AF]
end
def Xr {R:Type} (N:Nat) (k1:KD R) (k2:KD R):KD R->KD R:=fun k3 d2 m2=>(bif decide (ao (dk d2 2)<(↑(aq (au (bc (dk d2 0) 4))):Int))then(if 0<=ao (dk d2 2)/\ao (dk d2 2)<(↑(aq (au (bc (dk d2 0) 4))):Int)then(if 0<=ao (dk d2 2)/\ao (dk d2 2)<(↑(aq (au (bc (dk d2 1) 4))):Int)then(bif !na (bp (au (bc (dk d2 0) 4)) (av (ao (dk d2 2))) dw) (bp (au (bc (dk d2 1) 4)) (av (ao (dk d2 2))) dw)then(k1 [cg false] [])else(k3 [dk d2 0,dk d2 1,az (ar aw (ao (dk d2 2)+1))] []))else none)else none)else(k2 [] []))
def Xs (a0 a1:C) (k1:KD R):Option R:=jn (fun d1 m1=>(bif cz (dk d1 2)then(k1 [cg false] [])else(jn (fun d2 m2=>(k1 [cg true] [])) (fun k2=>(Ac N (Xr N k1 k2) [dk d1 0,dk d1 1,az 0] []))))) (fun k2=>(bif !decide (ao (bc a0 0)=ao (bc a1 0))then(k2 [a0,a1,cg true] [])else(bif !decide (ao (bc a0 1)=ao (bc a1 1))then(k2 [a0,a1,cg true] [])else(bif !na (bc a0 2) (bc a1 2)then(k2 [a0,a1,cg true] [])else(bif !na (bc a0 3) (bc a1 3)then(k2 [a0,a1,cg true] [])else(k2 [a0,a1,cg !decide ((↑(aq (au (bc a0 4))):Int)=(↑(aq (au (bc a1 4))):Int))] []))))))
def Mr:=lid "" (@Xs R N)
theorem kH {R N a0 a1 k}:@Mr R N a0 a1 k=Xs N a0 a1 k:=by unfold Mr;rw[AV]
def z2d:OvG R:=Ae [Bi,Bi] (Bq (Mr N)) Gz
theorem q0k:okX 16 (@z2d R N):=Ai AW N [(16,[(0,[(2,5),(3,5)])])] [(16,[([0,0,1],(AX [2,3] [(40,.d .bool)])),
  ([1,0,1,1],(Af [])),
  ([4,1,0,1,1],(AX [2,3] [(5,.d (.int .i64))])),
  ([9],(Af [(4,.d .bool)]))])] (fun _ _=>kH)
def kL {R:Type} (N:Nat) (a0:C) (k1:KD R):Option R:=bif decide (2147483648<ao a0)then(k1 [az 2147483648] [])else(k1 [az (ar cm (ao a0))] [])
def Pq:=lid "" (@kL R N)
theorem q0p {R N a0 k}:@Pq R N a0 k=kL N a0 k:=by unfold Pq;rw[AV]
def z2j:OvG R:=Ae [.int .u64] (Bw (Pq N)) (BD (br cm))
theorem z2k:okX 141 (@z2j R N):=Ai AW N [] [(141,[([9],(Af [(2,.d (.int .u32))]))])] (fun _ _=>q0p)
def kM (a0 a1 a2 a3 a4:C) (k1:KD R):Option R:=jn (fun d1 m1=>(k1 [cg (cz (dk d1 0))] [])) (fun k2=>(bif decide (ao a2=0)then(if 0<=Aj dr aw (ao a2) 1/\Aj dr aw (ao a2) 1<2 then(Pq N (bc a3 1) (fun d1 m1=>(Ms N a0 a3 (fun d2 m2=>(Pl N a0 a4 (bc (bc a1 0) (av (Aj dr aw (ao a2) 1))) (bc a1 1) (dk d1 0) (dk d2 0) (fun d3 m3=>(k2 [cg (cz (dk d3 0))] [])))))))else none)else(bif decide (ao a2=1)then(if 0<=Aj dr aw (ao a2) 1/\Aj dr aw (ao a2) 1<2 then(Pq N (bc a3 1) (fun d1 m1=>(Ms N a0 a3 (fun d2 m2=>(Pl N a0 a4 (bc (bc a1 0) (av (Aj dr aw (ao a2) 1))) (bc a1 1) (dk d1 0) (dk d2 0) (fun d3 m3=>(k2 [cg (cz (dk d3 0))] [])))))))else none)else(k2 [cg false] []))))
def Pr:=lid "" (@kM R N)
theorem q0q {R N a0 a1 a2 a3 a4 k}:@Pr R N a0 a1 a2 a3 a4 k=kM N a0 a1 a2 a3 a4 k:=by unfold Pr;rw[AV]
def z2l:OvG R:=Ae [Bo,Gl,.int .i64,Bi,Ca] (fun a=>Pr N (a 0) (a 1) (a 2) (a 3) (a 4)) Gz
theorem z2m:okX 124 (@z2l R N):=Ai (AH (q0s N) <| AH (z1G N) <| AH (z2k N) <| AW) N [(124,[(0,[(5,5),(6,5),(8,5),(9,5)]),(1,[(29,7),(32,7),(33,7)])])] [(124,[([0,1],(Af [(10,.d .bool)])),
  ([9],(Af [(10,.d .bool)]))])] (fun _ _=>q0q)
def kQ (a0 a1 a2 a3:C) (k1:KD R):Option R:=bif !decide (ao (bc (bc a2 0) 0)=ao a3)then(k1 [cg false] [])else(bif decide (ao (bc (bc a2 0) 1)=0)then(Mr N (bc a2 0) (dj [a3,AI (br ay),AI (ct 2 (br ay)),AI (ct 2 (br ay)),bj []]) (fun d1 m1=>(k1 [cg (cz (dk d1 0))] [])))else(jn (fun d1 m1=>(k1 [cg (cz (dk d1 0))] [])) (fun k2=>(Pr N a0 a1 (az 0) (bc a2 0) (bc (bc a2 1) (av 0)) (fun d1 m1=>(bif cz (dk d1 0)then(Pr N a0 a1 (az 1) (bc a2 0) (bc (bc a2 1) (av 1)) (fun d2 m2=>(k2 [cg (cz (dk d2 0))] [])))else(k2 [cg false] [])))))))
def JZ:=lid "" (@kQ R N)
theorem q0v {R N a0 a1 a2 a3 k}:@JZ R N a0 a1 a2 a3 k=kQ N a0 a1 a2 a3 k:=by unfold JZ;rw[AV]
def z2s:OvG R:=Ae [Bo,Gl,Dw,.int .u32] (fun a=>JZ N (a 0) (a 1) (a 2) (a 3)) Gz
theorem z2t:okX 101 (@z2s R N):=Ai (AH (q0k N) <| AH (z2m N) <| AW) N [(101,[(0,[(4,5),(5,5),(6,5)])])] [(101,[([0,1,1,1],(Af [(8,.d .bool)])),
  ([9],(Af [(8,.d .bool)]))])] (fun _ _=>q0v)
section
variable {R:Type} {N:Nat}
theorem Hv:∀(k:Nat) (n:Int),∀c∈BK k n,BO c
 |0,_,_,h=>nomatch h
 |k+1,n,c,h=>by
  rcases dy.1 h with h|h
  ·exact Hv k _ c h
  ·rw[ft.1 h];exact⟨rfl,by show 0<=n%256;omega,by show n%256<256;omega⟩
structure StB (s:C):Prop where
 w:StW s
 e:StE s
 hb:∀c∈(s.get 4).elems,Ao 32 (c.get 3)
 ch:(s.get 0).toInt<4294967296
theorem q4t {c:C} (h:Ao 32 (c.get 3)):∀x∈Fz c,BO x:=by
 intro x hx;unfold Fz at hx;simp only[dy]at hx;rcases hx with(((hx|hx)|hx)|hx)|hx
 ·exact Hv _ _ x hx
 ·rw[ft.1 hx];exact⟨rfl,by show 0<=_%256;omega,by show _%256<256;omega⟩
 ·exact Hv _ _ x hx
 ·exact(FI h).2.2 x hx
 ·exact Hv _ _ x hx
def Ff (s:C):List C:=BK 4 (s.get 0).toInt++BK 8 (s.get 1).toInt++BK 8 ((s.get 2).get 0).toInt++BK 8 ((s.get 2).get 1).toInt++BK 8 ((s.get 3).get 0).toInt++BK 8 ((s.get 3).get 1).toInt
def II (s:C):List C:=Ff s++[az (IntKind.u8.wrap ((s.get 4).elems.length:Int))]++(s.get 4).elems.flatMap Fz
theorem Rb (s:C):(Ff s).length=44:=by simp[Ff,De]
theorem aA:∀{l:List C},(∀c∈l,QP c)->(l.flatMap Fz).length=57*l.length
 | [],_=>rfl
 |c::l,h=>by
  have:=aA (l:=l) fun x hx=>h x (fq _ hx);have h1:=q4u (h c (fy ..));simp only[jv,bx,cn]at this ⊢;omega
theorem q1O {s:C} (h:StW s):(II s).length<=800:=by
 have h1:=aA h.cs;have h2:=h.ln;unfold II;simp only[bx,Rb,cn,df,h1];omega
theorem q1N {s:C} (h:StB s):∀c∈II s,BO c:=by
 intro c hc;unfold II Ff at hc;simp only[dy]at hc;rcases hc with((((((hc|hc)|hc)|hc)|hc)|hc)|hc)|hc
 ·exact Hv _ _ c hc
 ·exact Hv _ _ c hc
 ·exact Hv _ _ c hc
 ·exact Hv _ _ c hc
 ·exact Hv _ _ c hc
 ·exact Hv _ _ c hc
 ·rw[ft.1 hc];exact Nl _
 ·obtain⟨x,hx,hc⟩:=List.mem_flatMap.1 hc;exact q4t (h.hb x hx) c hc
theorem rB {s:C} (h:StW s) (i:Nat):((s.get 4).elems.take i |>.flatMap Fz).length<=57*i:=by
 rw[aA fun c hc=>h.cs c (List.mem_of_mem_take hc),List.length_take];exact Nat.mul_le_mul_left _ (by omega)
theorem z00 (s:C) (h:StW s) (hc:(s.get 0).toInt<4294967296) (hN:1000<N) (k:KD R):Tt N (.slice []) s k=k [.slice (II s)] []:=by
 have hl:(s.get 4).elems.length<=12:=h.ln;have num:∀(out:List C) (c:C) (S:Nat),W64 c.toInt->S<=8->out.length<=1000->∀k:KD R,FF N (.slice out) c (.int S) k=k [.slice (out++BK S c.toInt)] []:=fun out c S hc hS ho k=>PZ out c hc S hS (by omega) (by omega) k;have w0:IntKind.u64.wrap (s.get 0).toInt=(s.get 0).toInt:=wrap_u64 h.ch.1 h.ch.2;have n1:=num [] (.int (s.get 0).toInt) 4 h.ch (by omega) (by simp);have n2:=num _ (s.get 1) 8 h.rd (by omega) (show([]++BK 4 (s.get 0).toInt:List C).length<=1000 by simp[De]);have n3:=num _ ((s.get 2).get 0) 8 h.p0 (by omega) (show([]++BK 4 (s.get 0).toInt++BK 8 (s.get 1).toInt:List C).length<=1000 by simp[De]);have n4:=num _ ((s.get 2).get 1) 8 h.p1 (by omega) (show([]++BK 4 (s.get 0).toInt++BK 8 (s.get 1).toInt++BK 8 ((s.get 2).get 0).toInt:List C).length<=1000 by simp[De]);have n5:=num _ ((s.get 3).get 0) 8 h.q0 (by omega) (show([]++BK 4 (s.get 0).toInt++BK 8 (s.get 1).toInt++BK 8 ((s.get 2).get 0).toInt++BK 8 ((s.get 2).get 1).toInt:List C).length<=1000 by simp[De]);have n6:=num _ ((s.get 3).get 1) 8 h.q1 (by omega) (show([]++BK 4 (s.get 0).toInt++BK 8 (s.get 1).toInt++BK 8 ((s.get 2).get 0).toInt++BK 8 ((s.get 2).get 1).toInt++BK 8 ((s.get 3).get 0).toInt:List C).length<=1000 by simp[De]);have hd:[]++BK 4 (s.get 0).toInt++BK 8 (s.get 1).toInt++BK 8 ((s.get 2).get 0).toInt++BK 8 ((s.get 2).get 1).toInt++BK 8 ((s.get 3).get 0).toInt++BK 8 ((s.get 3).get 1).toInt=Ff s:=by unfold Ff;rw[fz]
 simp only[AB]at n1 n2 n3 n4 n5 n6;rw[hd]at n6
 obtain⟨d,rfl,hh⟩:=FO (R:=R) (F:=fun k2=>Xw N k2) (s.get 4).elems.length (fun i st=>st=[s,.slice (Ff s++[az (IntKind.u8.wrap ((s.get 4).elems.length:Int))]++((s.get 4).elems.take i).flatMap Fz),.int i]) (fun d=>d=[.slice (II s)])
  (fun i st hi hst=>by
   subst hst;have e1:(i:Int)<((s.get 4).elems.length:Int):=by omega
   have hcw:=h.cs _ (CR hi);have hl2:=rB h i;refine⟨_,rfl,fun k rec=>?_⟩;unfold Xw;rw[uV hi,<-dq];simp only[AF,AL,AP,AB,AJ,e1,decide_true,cond_true,bu,and_self,if_true,bh,bw,z0W _ _ hcw (show(Ff s++[az (IntKind.u8.wrap ((s.get 4).elems.length:Int))]++((s.get 4).elems.take i).flatMap Fz).length<=100000000 by simp only[bx,Rb,cn,df];omega) (show 200<N by omega),BM (show i<4611686018427387904 by omega)])
  (fun st hst=>by
   subst hst;refine⟨_,rfl,fun k rec=>?_⟩;unfold Xw;simp only[AF,AL,AP,AB,AJ,fb,AE,bw,ir];rfl)
  (N:=N) (by omega) (st:=[s,.slice (Ff s++[az (IntKind.u8.wrap ((s.get 4).elems.length:Int))]),.int (0:Nat)]) (by simp)
 rw[q0r];unfold kN;have e4:az 4=az ((4:Nat):Int):=rfl;have e8:az 8=az ((8:Nat):Int):=rfl;have t0:av 0=0:=rfl;have t1:av 1=1:=rfl;simp only[AQ,e4,e8,t0,t1,w0,n1,n2,n3,n4,n5,n6,AF,AJ,bw,cond_true,Rb,bx,cn,df,cq];refine(if_pos (by omega)).trans ?_;refine(hh _).trans ?_;simp only[AF,AJ,bw,cond_true]
theorem q2X (s:C) (h:StW s) (hN:4000<N) (k:KD R):Qp N (.slice []) s k=k [.slice (II s)] []:=by
 have hl:(s.get 4).elems.length<=12:=h.ln;have four:∀k:KD R,LJ N (.slice []) (.slice [s.get 0]) k=k [.slice ([]++DS 4 [s.get 0])] []:=fun k=>Q7 _ _ (fun c hc=>by rw[ft.1 hc];exact h.ch) (by simp) (by simp;omega) k;generalize hv:([bc s 1,bc (bc s 2) (av 0),bc (bc s 2) (av 1),bc (bc s 3) (av 0),bc (bc s 3) (av 1)]:List C)=v;have hv0:∀c∈v,0<=c.toInt:=by
  subst hv;intro c hc;simp only[gr,jd,or_false]at hc;rcases hc with rfl|rfl|rfl|rfl|rfl
  ·exact h.rd.1
  ·exact h.p0.1
  ·exact h.p1.1
  ·exact h.q0.1
  ·exact h.q1.1
 have hvl:v.length=5:=by subst hv;rfl
 have ln4:([]++DS 4 [s.get 0]:List C).length=4:=by simp[Sg,De]
 have eight:∀k:KD R,KF N (.slice ([]++DS 4 [s.get 0])) (.slice v) k=k [.slice ([]++DS 4 [s.get 0]++DS 8 v)] []:=fun k=>XL _ _ hv0 (by omega) (by omega) k;have hd:[]++DS 4 [s.get 0]++DS 8 v=Ff s:=by
  subst hv;unfold Ff;simp only[fz,DS,jv,List.flatMap_nil,List.append_nil,dq];rfl
 rw[hd]at eight;have one:∀k:KD R,Mj N (.slice (Ff s)) (.slice [az (ar bt ((s.get 4).elems.length:Int))]) k=k [.slice (Ff s++[az (ar bt ((s.get 4).elems.length:Int))])] []:=fun k=>Q8 _ _ (by simp[Rb]) k
 obtain⟨d,rfl,h1⟩:=FO (R:=R) (F:=fun k2=>Va N k2) (s.get 4).elems.length (fun i st=>st=[bc s 4,.int (s.get 4).elems.length,.slice (Ff s++[az (IntKind.u8.wrap ((s.get 4).elems.length:Int))]++((s.get 4).elems.take i).flatMap Fz),.int i]) (fun d=>d=[.slice (II s)])
  (fun i st hi hst=>by
   subst hst;have e1:(i:Int)<((s.get 4).elems.length:Int):=by omega
   have hcw:=h.cs _ (CR hi);have hl2:=rB h i;refine⟨_,rfl,fun k rec=>?_⟩;unfold Va;rw[uV hi,<-dq];simp only[AF,AL,AP,AU,AB,AJ,e1,decide_true,cond_true,bu,and_self,if_true,bh,bw,q8e _ _ hcw (show(Ff s++[az (IntKind.u8.wrap ((s.get 4).elems.length:Int))]++((s.get 4).elems.take i).flatMap Fz).length<=100000000 by simp only[bx,Rb,cn,df];omega) (show 200<N by omega),BM (show i<4611686018427387904 by omega)])
  (fun st hst=>by
   subst hst;refine⟨_,rfl,fun k rec=>?_⟩;unfold Va;simp only[AF,AL,AP,AU,AB,AJ,fb,AE,bw,ir];rfl)
  (N:=N) (by omega) (st:=[bc s 4,.int (s.get 4).elems.length,.slice (Ff s++[az (IntKind.u8.wrap ((s.get 4).elems.length:Int))]),.int (0:Nat)]) (by simp)
 rw[rN];unfold aL;simp only[AQ,AJ,bw,cond_true,four,AF,hv,eight,one];refine(h1 _).trans ?_;simp only[AF,AJ,bw,cond_true]
def QH (s:C):C:=HZ (CH (.int 4) [.slice (BK 4 (s.get 0).toInt),.slice (II s)])
theorem Ue (s:C):Ao 32 (QH s):=KM _
theorem q4A (s:C) (h:StB s) (hN:5000<N) (hN2:N<4611686018427387904) (k:KD R):Qq N s k=k [QH s] []:=by
 have four:∀k:KD R,LJ N (.slice []) (.slice [s.get 0]) k=k [.slice ([]++DS 4 [s.get 0])] []:=fun k=>Q7 _ _ (fun c hc=>by rw[ft.1 hc];exact h.w.ch) (by simp) (by simp;omega) k;rw[Sg,fz]at four;have l1:=De 4 (s.get 0).toInt;have l2:=q1O h.w;have h2:=QR (R:=R) (N:=N) (.int 4) uX [bj (BK 4 (s.get 0).toInt),bj (II s)] 900 (XU 900 _ _ (Hv _ _) (q1N h) (by omega) (by omega)) (by simp;omega) (by omega) hN2 (by rw[Ov];omega);rw[rQ];unfold aQ;simp only[four,AF,AJ,q2X s h.w (show 4000<N by omega),h2];rfl
theorem iK (T:C) (hT:Cz T) (s:C) (h:StB s) (hN:5000<N) (k:KD R):Ms N T s k=k [QH s] []:=by
 have w0:IntKind.u64.wrap (s.get 0).toInt=(s.get 0).toInt:=wrap_u64 h.w.ch.1 h.w.ch.2;have n1:∀k:KD R,FF N (.slice []) (.int (s.get 0).toInt) (.int ((4:Nat):Int)) k=k [.slice ([]++BK 4 (s.get 0).toInt)] []:=fun k=>PZ [] (.int (s.get 0).toInt) h.w.ch 4 (by omega) (by simp) (by omega) k;rw[fz]at n1;have l1:=De 4 (s.get 0).toInt;have l2:=q1O h.w;have hp:=XU 900 _ _ (Hv 4 (s.get 0).toInt) (q1N h) (by omega) (by omega);have h2:=fun k:KD R=>oD (R:=R) (N:=N) (.int 4) [bj (BK 4 (s.get 0).toInt),bj (II s)] 900 hp (by omega) (by simp) (by simp;omega) k;have hm:∀c∈CH (.int 4) [bj (BK 4 (s.get 0).toInt),bj (II s)],BO c:=q9o uX hp;have h3:=fun k:KD R=>oA (R:=R) (N:=N) T hT _ hm (by rw[Ov];omega) (by rw[Ov];omega) k;rw[q0t];unfold kO;rw[q0u];unfold kP;rw[w0,show(az 4:C)=az ((4:Nat):Int) from rfl,n1];simp only[AF,AJ,z00 s h.w h.ch (show 1000<N by omega)];rw[show(az ((4:Nat):Int):C)=az 4 from rfl,h2];simp only[AF,AJ,h3];rfl
def Kt (r:Int):Int:=if 2147483648<r then 2147483648 else r
theorem WL {r:Int} (h:0<=r):0<=Kt r/\Kt r<4294967296:=by unfold Kt;split <;> omega
theorem q2J {n:Int} (h:0<=n) (h2:n<4294967296):IntKind.u32.wrap n=n:=by
 have:IntKind.u32.wrap n=n%4294967296:=by simp[ar,IntKind.bits,IntKind.signed]
 rw[this];omega
theorem q61 (r:C) (h:0<=r.toInt) (k:KD R):Qr N r k=k [.int (Kt r.toInt)] []:=by
 rw[rR];unfold aR;have:IntKind.u32.wrap (if 2147483648<r.toInt then 2147483648 else r.toInt)=Kt r.toInt:=q2J (WL h).1 (WL h).2;rw[this]
theorem q04 (r:C) (h:0<=r.toInt) (k:KD R):Pq N r k=k [.int (Kt r.toInt)] []:=by
 rw[q0p];unfold kL Kt;by_cases h1:2147483648<r.toInt
 ·simp[h1]
 ·simp only[h1,AE];rw[q2J h (by omega)]
structure NQ (d:C):Prop where
 eta:d= .agg [d.get 0,.agg [(d.get 1).get 0,(d.get 1).get 1]]
 st:StB (d.get 0)
 s0:JB ((d.get 1).get 0)
 s1:JB ((d.get 1).get 1)
def QE (rts d:C) (i:Nat):Bool:=UO ((d.get 1).get i) ((rts.get 0).get i) (rts.get 1).toInt (Kt ((d.get 0).get 1).toInt) (QH (d.get 0))
def Cv (rts d:C) (id:Int):Bool:=if((d.get 0).get 0).toInt=id then(if((d.get 0).get 1).toInt=0 then UU (d.get 0) id else(QE rts d 0&&QE rts d 1))else false
theorem q06 (rts d:C) (i:Nat) (hi:i<2) (hd:NQ d) (hr:rts.get 1= .int (rts.get 1).toInt) (ht:(rts.get 1).toInt<=10) (hN:5000<N) (hN2:N<4611686018427387904) (k:KD R):
  Nu N rts (.int i) (d.get 0) ((d.get 1).get i) k=k [.bool (QE rts d i)] []:=by
 have hk:=WL hd.st.w.rd.1;have hs:JB ((d.get 1).get i):=by rcases(by omega:i=0\/i=1)with rfl|rfl;exact hd.s0;exact hd.s1
 have e1:(0:Int)<=(i:Int)/\(i:Int)<2:=by omega
 rw[rO];unfold aO;refine(Oc [.int i,rts,d.get 0,(d.get 1).get i,.bool false] [] fun K=>?_).trans ?_
 ·rcases(by omega:i=0\/i=1)with rfl|rfl <;> rfl
 simp only[AB,Ah,AE,AF,AL,AP,AU,Ab,e1,and_self,q61 _ hd.st.w.rd.1,q4A _ hd.st hN hN2,bh];rw[hr,z3R _ _ _ _ _ hs (Ue (d.get 0)) ht hk hN hN2];rfl
theorem W5 (T rts d:C) (hT:Cz T) (i:Nat) (hi:i<2) (hd:NQ d) (hr:rts.get 1= .int (rts.get 1).toInt) (ht:(rts.get 1).toInt<=10) (hN:5000<N) (k:KD R):
  Pr N T rts (.int i) (d.get 0) ((d.get 1).get i) k=k [.bool (QE rts d i)] []:=by
 have hk:=WL hd.st.w.rd.1;have b0:Aj dr aw 0 1=0:=by decide
 have b1:Aj dr aw 1 1=1:=by decide
 rw[q0q];unfold kM;rcases(by omega:i=0\/i=1)with rfl|rfl
 ·have ev:=fun k:KD R=>q2s (N:=N) T hT _ ((rts.get 0).get 0) _ _ _ hd.s0 (Ue (d.get 0)) ht hk hN k;rw[<-hr]at ev;simp only[AQ,AB,Ah,wx,xy,AE,b0,Int.le_refl,show(0:Int)<2 by decide,and_self,AF,q04 _ hd.st.w.rd.1,iK T hT _ hd.st hN,Int.toNat_zero];exact(ev _).trans rfl
 ·have ev:=fun k:KD R=>q2s (N:=N) T hT _ ((rts.get 0).get 1) _ _ _ hd.s1 (Ue (d.get 0)) ht hk hN k;rw[<-hr]at ev;simp only[AQ,AB,Ah,Int.natCast_one,Int.ofNat_one,show ¬(1:Int)=0 by decide,AE,b1,show(0:Int)<=1 by decide,show(1:Int)<2 by decide,and_self,AF,q04 _ hd.st.w.rd.1,iK T hT _ hd.st hN];exact(ev _).trans rfl
theorem z0Y (s:C) (id:Int) (hN:10<N) (k:KD R):Mr N s (stZ id) k=k [.bool (UU s id)] []:=by
 have g0:(stZ id).get 0= .int id:=rfl;have g1:(stZ id).get 1= .int 0:=rfl;have g2:(stZ id).get 2=zz:=rfl;have g3:(stZ id).get 3=zz:=rfl;have g4:(stZ id).get 4= .slice []:=rfl;rw[kH];unfold Xs UU;simp only[AQ,g0,g1,g2,g3,g4,AB,AJ];by_cases h0:(s.get 0).toInt=id
 case neg=>simp[h0,AP,Ah]
 by_cases h1:(s.get 1).toInt=0
 case neg=>simp[h0,h1,AP,Ah]
 cases h2:na (s.get 2) zz
 ·simp[h0,h1,h2,AP,Ah]
 cases h3:na (s.get 3) zz
 ·simp[h0,h1,h2,h3,AP,Ah]
 by_cases h4:(s.get 4).elems.length=0
 case neg=>
  have h4':¬(((s.get 4).elems.length:Nat):Int)=0:=by omega
  simp only[h0,h1,h2,h3,h4,h4',df,wx,xy,AE,AP,Ah,and_self,and_false]
 obtain⟨M,rfl⟩:∃M,N=M+1:=⟨N-1,by omega⟩;simp only[h0,h1,h2,h3,h4,df,AE,AF,AL,AP,Ah,and_self];rw[Bm];unfold Xr;simp only[AF,AL,AP,AB,h4];rfl
theorem z4R (rts d:C) (id:Int) (hd:NQ d) (hr:rts.get 1= .int (rts.get 1).toInt) (ht:(rts.get 1).toInt<=10) (hN:5000<N) (hN2:N<4611686018427387904) (k:KD R):
  JJ N rts d (.int id) k=k [.bool (Cv rts d id)] []:=by
 rw[rP];unfold aP Cv;by_cases h0:((d.get 0).get 0).toInt=id
 case neg=>simp[h0,AB]
 by_cases h1:((d.get 0).get 1).toInt=0
 ·simp only[AB,h0,h1,AE,Z5,AF,q21 _ _ (show 10<N by omega),Ah]
 ·have t0:av 0=0:=rfl;have t1:av 1=1:=rfl;have r0:=fun k:KD R=>q06 (N:=N) rts d 0 (by omega) hd hr ht hN hN2 k;have r1:=fun k:KD R=>q06 (N:=N) rts d 1 (by omega) hd hr ht hN hN2 k;rw[show az ((0:Nat):Int)=az 0 from rfl]at r0;rw[show az ((1:Nat):Int)=az 1 from rfl]at r1;simp only[AQ,AB,h0,h1,t0,t1,AE,r0,r1,AF,Ah];cases QE rts d 0 <;> rfl
theorem z3F (T rts d:C) (hT:Cz T) (id:Int) (hd:NQ d) (hr:rts.get 1= .int (rts.get 1).toInt) (ht:(rts.get 1).toInt<=10) (hN:5000<N) (k:KD R):
  JZ N T rts d (.int id) k=k [.bool (Cv rts d id)] []:=by
 rw[q0v];unfold kQ Cv;by_cases h0:((d.get 0).get 0).toInt=id
 case neg=>simp[h0,AB]
 by_cases h1:((d.get 0).get 1).toInt=0
 ·have z:dj [.int id,AI (br ay),AI (ct 2 (br ay)),AI (ct 2 (br ay)),bj []]=stZ id:=rfl;simp only[AB,h0,h1,z,AE,z0Y _ _ (show 10<N by omega),AF,Ah]
 ·have t0:av 0=0:=rfl;have t1:av 1=1:=rfl;have r0:=fun k:KD R=>W5 (N:=N) T rts d hT 0 (by omega) hd hr ht hN k;have r1:=fun k:KD R=>W5 (N:=N) T rts d hT 1 (by omega) hd hr ht hN k;rw[show az ((0:Nat):Int)=az 0 from rfl]at r0;rw[show az ((1:Nat):Int)=az 1 from rfl]at r1;simp only[AQ,AB,h0,h1,t0,t1,AE,r0,r1,AF,Ah];cases QE rts d 0 <;> rfl
end
section
variable {R:Type} {N:Nat}
section
variable {T:C} (hT:Cz T)
include hT
theorem q2W (s sa sb:C) (hsa:Ao 32 sa) (hsb:Ao 32 sb) (a0 a1 a2 b0 b1 b2:List C) (ga0:∀y∈a0,Ao 32 y) (ga1:∀y∈a1,Ao 32 y) (gb0:∀y∈b0,Ao 32 y) (gb1:∀y∈b1,Ao 32 y) (ha0:a0.length=4) (ha1:a1.length=2) (ha2:a2.length=1) (hb0:b0.length=4) (hb1:b1.length=2) (hb2:b2.length=1) (h:StB s) (hN:20000<N):
  ∃x y,JB x/\JB y/\∀k:KD R,Rs N (.agg [T,.agg [sa,sb],.agg [.slice [.slice a0,.slice a1,.slice a2],.slice [.slice b0,.slice b1,.slice b2]]]) s k=k [.agg [s,.agg [x,y]]] []:=by
 have z16:Ao 16 (.agg (bf 16 (.int 0))):=⟨_,rfl,by simp,fun c hc=>by rw[ij hc];exact⟨rfl,by decide,by decide⟩⟩;have zb:JA (dj [dj (bf 32 (dj (bf 16 (az 0)))),dj (bf 32 (dj (bf 16 (az 0))))]):=⟨_,_,rfl,by simp,by simp,fun p hp=>by rw[ij hp];exact z16,fun p hp=>by rw[ij hp];exact z16⟩;have zs:JB (AI Ca):=⟨rfl,zb,⟨by decide,by decide⟩,(fun _ h=>nomatch h),by decide⟩;have zz:AI (ct 2 Ca)= .agg [AI Ca,AI Ca]:=rfl;by_cases z:0<(s.get 1).toInt
 case neg=>
  refine⟨_,_,zs,zs,fun k=>?_⟩;rw[Wa];unfold Rt;simp only[AQ,z,AE,AF,AL,AP,AU,Ab,Ah,zz]
 by_cases z2:(s.get 1).toInt<4
 case neg=>
  refine⟨_,_,zs,zs,fun k=>?_⟩;rw[Wa];unfold Rt;simp only[AQ,z,z2,AE,AF,AL,AP,AU,Ab,Ah,zz]
 have h1:=fun k:KD R=>iK (N:=N) T hT s h (by omega) k;have wr:IntKind.i64.wrap (s.get 1).toInt=(s.get 1).toInt:=wrap_i64 (by omega) (by omega);obtain⟨x,hx,h2⟩:=W7 (R:=R) (N:=N) hT sa (QH s) hsa (Ue s) a0 a1 a2 ga0 ga1 ha0 ha1 ha2 (s.get 1).toInt (by omega) hN;obtain⟨y,hy,h3⟩:=W7 (R:=R) (N:=N) hT sb (QH s) hsb (Ue s) b0 b1 b2 gb0 gb1 hb0 hb1 hb2 (s.get 1).toInt (by omega) hN;refine⟨x,y,hx,hy,fun k=>?_⟩;rw[Wa];unfold Rt;simp only[AQ,z,z2,AE,AF,AL,AP,AU,Ab,Ah,zz];obtain⟨n,rfl⟩:∃n,N=n+3:=⟨N-3,by omega⟩;have w0:IntKind.i64.wrap ((0:Int)+1)=1:=by rw[wrap_i64 (by omega) (by omega)];rfl
 have w1:IntKind.i64.wrap ((1:Int)+1)=2:=by rw[wrap_i64 (by omega) (by omega)];rfl
 have i0:(0:Int)<2:=by decide
 have i1:(1:Int)<2:=by decide
 have i2:¬(2:Int)<2:=by decide
 have j1:(0:Int)<=1:=by decide
 have t0:av 0=0:=rfl;have t1:av 1=1:=rfl;rw[Bm];unfold xQ;simp only[AF,AL,AP,AU,Ab,AB,EW,GI,Km,HY,IC,t0,i0,Int.le_refl,AE,and_self,h1,h2,wr,w0];rw[Bm];simp only[AF,AL,AP,AU,Ab,AB,EW,GI,Km,HY,IC,t1,i1,j1,AE,and_self,h1,h3,wr,w1];rw[Bm];simp only[AF,AL,AP,AU,Ab,AB,i2,AE]
end
end
def Xe {R:Type} (N:Nat) (a0 a1:C) (k1:KD R):Option R:=bif decide (ar ay (18446744073709551615-ao a0)<ao a1)then(k1 [az 0,az 11] [])else(k1 [az (ar ay (ao a0+ao a1)),az 0] [])
def HV:=lid "" (@Xe R N)
theorem iU {R N a0 a1 k}:@HV R N a0 a1 k=Xe N a0 a1 k:=by unfold HV;rw[AV]
def z07:OvG R:=Ae [.int .u64,.int .u64] (Bq (HV N)) fun a K d1 m1=>K (ow [V.d (br ay) (dk d1 0),V.d (br aw) (dk d1 1)]) []
theorem Pb:okX 24 (@z07 R N):=Ai AW N [] [(24,[([9],(Af [(4,.d (.int .u64)),(5,.d (.int .i64))]))])] (fun _ _=>iU)
def Xf {R:Type} (N:Nat) (a0 a1:C) (k1:KD R):Option R:=bif decide (ao a0<ao a1)then(k1 [az 0,az 12] [])else(k1 [az (ar ay (ao a0-ao a1)),az 0] [])
def LP:=lid "" (@Xf R N)
theorem iX {R N a0 a1 k}:@LP R N a0 a1 k=Xf N a0 a1 k:=by unfold LP;rw[AV]
def z1a:OvG R:=Ae [.int .u64,.int .u64] (Bq (LP N)) fun a K d1 m1=>K (ow [V.d (br ay) (dk d1 0),V.d (br aw) (dk d1 1)]) []
theorem iW:okX 105 (@z1a R N):=Ai AW N [] [(105,[([9],(Af [(4,.d (.int .u64)),(5,.d (.int .i64))]))])] (fun _ _=>iX)
def kF (k2:KD R):KD R->KD R:=fun k3 d1 m1=>(jn (fun d2 m2=>(bif cz (dk d2 5)then(if 0<=ao (dk d2 4)/\ao (dk d2 4)<(↑(aq (au (bc (dk d2 1) 4))):Int)then(jn (fun d3 m3=>(k3 [dk d3 0,dk d3 1,dk d3 3,dk d3 4,az (ar aw (ao (dk d3 2)+1))] [])) (fun k4=>(bif decide (ao (bc (bp (au (bc (dk d2 1) 4)) (av (ao (dk d2 4))) dw) 1)=ao (dk d2 0))then(if 0<=ao (dk d2 4)/\ao (dk d2 4)<(↑(aq (au (bc (dk d2 1) 4))):Int)then(HV N (dk d2 2) (bc (bp (au (bc (dk d2 1) 4)) (av (ao (dk d2 4))) dw) 2) (fun d3 m3=>(k4 [dk d2 0,dk d2 1,dk d2 4,dk d3 0,dk d3 1] [])))else none)else(k4 [dk d2 0,dk d2 1,dk d2 4,dk d2 2,dk d2 3] []))))else none)else(k2 [dk d2 2,dk d2 3] []))) (fun k4=>(bif decide (ao (dk d1 4)<(↑(aq (au (bc (dk d1 1) 4))):Int))then(k4 [dk d1 0,dk d1 1,dk d1 2,dk d1 3,dk d1 4,cg (decide (ao (dk d1 3)=0))] [])else(k4 [dk d1 0,dk d1 1,dk d1 2,dk d1 3,dk d1 4,cg false] []))))
def kG (a0 a1:C) (k1:KD R):Option R:=jn (fun d1 m1=>(k1 [dk d1 0,dk d1 1] [])) (fun k2=>(Ac N (kF N k2) [a1,a0,az 0,az 0,az 0] []))
def Tn:=lid "" (@kG R N)
theorem q0j {R N a0 a1 k}:@Tn R N a0 a1 k=kG N a0 a1 k:=by unfold Tn;rw[AV]
def z2b:OvG R:=Ae [Bi,.int .i64] (Bq (Tn N)) fun a K d1 m1=>K (ow [V.d (br ay) (dk d1 0),V.d (br aw) (dk d1 1)]) []
theorem z2c:okX 129 (@z2b R N):=Ai (AH (Pb N) <| AW) N [(129,[(0,[(2,5)])])] [(129,[([1,0,1,1],(Af [(6,.d (.int .u64)),(7,.d (.int .i64))])),
  ([4,1,0,1,1],(AX [1,2] [(6,.d (.int .u64)),(7,.d (.int .i64)),(8,.d (.int .i64))])),
  ([0,0,5,4,1,0,1,1],(AX [1,2,6,7,8] [(17,.d .bool)])),
  ([1,4,0,1,5,4,1,0,1,1],(AX [1,2,8] [(6,.d (.int .u64)),(7,.d (.int .i64))])),
  ([9],(Af [(4,.d (.int .u64)),(5,.d (.int .i64))]))])] (fun _ _=>q0j)
def Xq (k1:KD R) (k2:KD R):KD R->KD R:=fun k3 d4 m4=>(bif decide (ao (dk d4 1)<3)then(if 0<=ao (dk d4 1)/\ao (dk d4 1)<3 then(LP N (dk d4 0) (bc (dk d4 2) (av (ao (dk d4 1)))) (fun d5 m5=>(bif !decide (ao (dk d5 1)=0)then(k1 [az 0,dk d5 1] [])else(k3 [dk d5 0,az (ar aw (ao (dk d4 1)+1)),dk d4 2] []))))else none)else(k2 [dk d4 0] []))
def kE (a0 a1 a2:C) (k1:KD R):Option R:=jn (fun d1 m1=>(bif cz (dk d1 3)then(k1 [az 0,az 1] [])else(Tn N (dk d1 1) (dk d1 0) (fun d2 m2=>(bif !decide (ao (dk d2 1)=0)then(k1 [az 0,dk d2 1] [])else(if 0<=ao (dk d1 0)/\ao (dk d1 0)<2 then(if 0<=ar aw (1-ao (dk d1 0))/\ar aw (1-ao (dk d1 0))<2 then(HV N (bc (dk d1 2) (av (ao (dk d1 0)))) (bc (bc (dk d1 1) 2) (av (ar aw (1-ao (dk d1 0))))) (fun d3 m3=>(bif !decide (ao (dk d3 1)=0)then(k1 [az 0,dk d3 1] [])else(if 0<=ao (dk d1 0)/\ao (dk d1 0)<2 then(if 0<=ao (dk d1 0)/\ao (dk d1 0)<2 then(jn (fun d4 m4=>(k1 [dk d4 0,az 0] [])) (fun k2=>(Ac N (Xq N k1 k2) [dk d3 0,az 0,db (db (db (AI (ct 3 (br ay))) 0 (bc (bc (dk d1 1) 2) (av (ao (dk d1 0))))) 1 (bc (bc (dk d1 1) 3) (av (ao (dk d1 0))))) 2 (dk d2 0)] [])))else none)else none))))else none)else none)))))) (fun k2=>(bif !decide (ao a2=0)then(k2 [a2,a0,a1,cg !decide (ao a2=1)] [])else(k2 [a2,a0,a1,cg false] [])))
def Po:=lid "" (@kE R N)
theorem q0i {R N a0 a1 a2 k}:@Po R N a0 a1 a2 k=kE N a0 a1 a2 k:=by unfold Po;rw[AV]
def z2a:OvG R:=Ae [Bi,.arr 2 (.int .u64),.int .i64] (Eb (Po N)) fun a K d1 m1=>K (ow [V.d (br ay) (dk d1 0),V.d (br aw) (dk d1 1)]) []
theorem q0h:okX 104 (@z2a R N):=Ai (AH (Pb N) <| AH (iW N) <| AH (z2c N) <| AW) N [(104,[(0,[(3,5),(4,5)]),(6,[(38,7)])])] [(104,[([0,0,1],(AX [2,3,4] [(19,.d .bool)])),
  ([1,0,1,1,1,1,1,1,1],(Af [(10,.d (.int .u64))])),
  ([4,1,0,1,1,1,1,1,1,1],(AX [12] [(10,.d (.int .u64)),(13,.d (.int .i64))])),
  ([9],(Af [(6,.d (.int .u64)),(7,.d (.int .i64))]))])] (fun _ _=>q0i)
def Xp {R:Type} (N:Nat) (k1:KD R) (k2:KD R):KD R->KD R:=fun k3 d1 m1=>(bif decide (ao (dk d1 2)<(↑(aq (au (bc (dk d1 1) 4))):Int))then(if 0<=ao (dk d1 2)/\ao (dk d1 2)<(↑(aq (au (bc (dk d1 1) 4))):Int)then(bif decide (ao (bc (bp (au (bc (dk d1 1) 4)) (av (ao (dk d1 2))) dw) 0)=ao (dk d1 0))then(k1 [dk d1 2] [])else(k3 [dk d1 0,dk d1 1,az (ar aw (ao (dk d1 2)+1))] []))else none)else(k2 [] []))
def kD (a0 a1:C) (k1:KD R):Option R:=jn (fun d1 m1=>(k1 [az (-1)] [])) (fun k2=>(Ac N (Xp N k1 k2) [a1,a0,az 0] []))
def Tm:=lid "" (@kD R N)
theorem q0g {R N a0 a1 k}:@Tm R N a0 a1 k=kD N a0 a1 k:=by unfold Tm;rw[AV]
def z18:OvG R:=Ae [Bi,.int .u64] (Bq (Tm N)) (BD (br aw))
theorem z19:okX 125 (@z18 R N):=Ai AW N [(125,[(0,[(2,5)])])] [(125,[([1,0,1],(Af [])),
  ([4,1,0,1],(AX [1,2] [(5,.d (.int .i64))])),
  ([9],(Af [(4,.d (.int .i64))]))])] (fun _ _=>q0g)
def Tp (k1:KD R) (k2:KD R):KD R->KD R:=fun k3 d3 m3=>(bif decide (ao (dk d3 2)<2)then(Po N (dk d3 0) (dk d3 1) (dk d3 2) (fun d4 m4=>(bif !decide (ao (dk d4 1)=0)then(k1 [dk d4 1] [])else(k3 [dk d3 0,dk d3 1,az (ar aw (ao (dk d3 2)+1))] []))))else(k2 [] []))
def Xt (k1:KD R) (k2:KD R):KD R->KD R:=fun k3 d2 m2=>(bif decide (ao (dk d2 2)<(↑(aq (au (bc (dk d2 0) 4))):Int))then(if 0<=ao (dk d2 2)/\ao (dk d2 2)<(↑(aq (au (bc (dk d2 0) 4))):Int)then(jn (fun d3 m3=>(bif cz (dk d3 3)then(k1 [az 1] [])else(Tm N (dk d3 0) (bc (dk d3 4) 0) (fun d4 m4=>(bif decide (ao (dk d4 0)<ao (dk d3 2))then(k1 [az 7] [])else(k3 [dk d3 0,dk d3 1,az (ar aw (ao (dk d3 2)+1))] [])))))) (fun k4=>(bif !decide (ao (bc (bp (au (bc (dk d2 0) 4)) (av (ao (dk d2 2))) dw) 1)=0)then(bif !decide (ao (bc (bp (au (bc (dk d2 0) 4)) (av (ao (dk d2 2))) dw) 1)=1)then(k4 [dk d2 0,dk d2 1,dk d2 2,cg true,bp (au (bc (dk d2 0) 4)) (av (ao (dk d2 2))) dw] [])else(k4 [dk d2 0,dk d2 1,dk d2 2,cg (decide (ao (bc (bp (au (bc (dk d2 0) 4)) (av (ao (dk d2 2))) dw) 2)=0)),bp (au (bc (dk d2 0) 4)) (av (ao (dk d2 2))) dw] []))else(k4 [dk d2 0,dk d2 1,dk d2 2,cg (decide (ao (bc (bp (au (bc (dk d2 0) 4)) (av (ao (dk d2 2))) dw) 2)=0)),bp (au (bc (dk d2 0) 4)) (av (ao (dk d2 2))) dw] []))))else none)else(k2 [dk d2 0,dk d2 1] []))
def kI (a0 a1:C) (k1:KD R):Option R:=jn (fun d1 m1=>(bif cz (dk d1 2)then(k1 [az 8] [])else(jn (fun d2 m2=>(jn (fun d3 m3=>(k1 [az 0] [])) (fun k2=>(Ac N (Tp N k1 k2) [dk d2 0,dk d2 1,az 0] [])))) (fun k2=>(Ac N (Xt N k1 k2) [dk d1 0,dk d1 1,az 0] []))))) (fun k2=>(bif decide (200<ao (bc a0 1))then(k2 [a0,a1,cg true] [])else(k2 [a0,a1,cg (decide (8<(↑(aq (au (bc a0 4))):Int)))] [])))
def Pp:=lid "" (@kI R N)
theorem q0m {R N a0 a1 k}:@Pp R N a0 a1 k=kI N a0 a1 k:=by unfold Pp;rw[AV]
def z2e:OvG R:=Ae [Bi,.arr 2 (.int .u64)] (Bq (Pp N)) (BD (br aw))
theorem q0l:okX 102 (@z2e R N):=Ai (AH (q0h N) <| AH (z19 N) <| AW) N [(102,[(0,[(2,5),(3,5)])])] [(102,[([0,0,1],(AX [2,3] [(18,.d .bool)])),
  ([1,0,1,1],(AX [2,3] [])),
  ([4,1,0,1,1],(AX [2,3] [(5,.d (.int .i64))])),
  ([0,0,1,4,0,1,5,4,1,0,1,1],(AX [2,3,5,6] [(43,.d .bool)])),
  ([1,0,1,1,1],(Af [])),
  ([4,1,0,1,1,1],(AX [2,3] [(7,.d (.int .i64))])),
  ([9],(Af [(4,.d (.int .i64))]))])] (fun _ _=>q0m)
def Xu (k4:KD R):KD R->KD R:=fun k5 d6 m6=>(jn (fun d7 m7=>(bif cz (dk d7 8)then(if 0<=ao (dk d7 7)/\ao (dk d7 7)<(↑(aq (au (bc (dk d7 1) 4))):Int)then(if 0<=ao (dk d7 7)/\ao (dk d7 7)<(↑(aq (au (dk d7 0))):Int)then(jn (fun d8 m8=>(jn (fun d9 m9=>(k5 [dk d9 0,dk d9 1,dk d9 2,dk d9 3,dk d9 4,dk d9 6,dk d9 7,az (ar aw (ao (dk d9 5)+1)),dk d9 8,dk d9 9] [])) (fun k6=>(bif decide (ao (dk d8 8)=ao (dk d8 4))then(if 0<=ao (dk d8 7)/\ao (dk d8 7)<(↑(aq (au (bc (dk d8 1) 4))):Int)then(HV N (dk d8 5) (bc (bp (au (bc (dk d8 1) 4)) (av (ao (dk d8 7))) dw) 2) (fun d9 m9=>(k6 [dk d8 0,dk d8 1,dk d8 2,dk d8 3,dk d8 4,dk d8 7,dk d9 0,dk d9 1,dk d8 9,dk d8 10] [])))else none)else(k6 [dk d8 0,dk d8 1,dk d8 2,dk d8 3,dk d8 4,dk d8 7,dk d8 5,dk d8 6,dk d8 9,dk d8 10] []))))) (fun k6=>(bif cz (bp (au (dk d7 0)) (av (ao (dk d7 7))) dw)then(k6 [dk d7 0,dk d7 1,dk d7 2,dk d7 3,dk d7 4,dk d7 5,dk d7 6,dk d7 7,az (ar aw (1-ao (bc (bp (au (bc (dk d7 1) 4)) (av (ao (dk d7 7))) dw) 1))),dk d7 9,dk d7 10] [])else(k6 [dk d7 0,dk d7 1,dk d7 2,dk d7 3,dk d7 4,dk d7 5,dk d7 6,dk d7 7,bc (bp (au (bc (dk d7 1) 4)) (av (ao (dk d7 7))) dw) 1,dk d7 9,dk d7 10] []))))else none)else none)else(k4 [dk d7 0,dk d7 1,dk d7 2,dk d7 3,dk d7 4,dk d7 5,dk d7 6,dk d7 9,dk d7 10] []))) (fun k6=>(bif decide (ao (dk d6 7)<(↑(aq (au (bc (dk d6 1) 4))):Int))then(k6 [dk d6 0,dk d6 1,dk d6 2,dk d6 3,dk d6 4,dk d6 5,dk d6 6,dk d6 7,cg (decide (ao (dk d6 6)=0)),dk d6 8,dk d6 9] [])else(k6 [dk d6 0,dk d6 1,dk d6 2,dk d6 3,dk d6 4,dk d6 5,dk d6 6,dk d6 7,cg false,dk d6 8,dk d6 9] []))))
def Xv (k1:KD R) (k2:KD R):KD R->KD R:=fun k3 d2 m2=>(bif decide (ao (dk d2 4)<2)then(Po N (dk d2 1) (dk d2 2) (dk d2 4) (fun d3 m3=>(if 0<=ao (dk d2 4)/\ao (dk d2 4)<2 then(if 0<=ao (dk d2 4)/\ao (dk d2 4)<2 then(LP N (bc (bc (dk d2 1) 3) (av (ao (dk d2 4)))) (bc (dk d2 3) (av (ao (dk d2 4)))) (fun d4 m4=>(bif !decide (ao (dk d4 1)=0)then(k1 [dk d4 1,AI (ct 2 (br ay))] [])else(HV N (dk d3 0) (dk d4 0) (fun d5 m5=>(jn (fun d6 m6=>(bif !decide (ao (dk d6 6)=0)then(k1 [dk d6 6,AI (ct 2 (br ay))] [])else(if 0<=ao (dk d6 4)/\ao (dk d6 4)<2 then(k3 [dk d6 0,dk d6 1,dk d6 2,dk d6 3,az (ar aw (ao (dk d6 4)+1)),dk d6 7,db (dk d6 8) (av (ao (dk d6 4))) (dk d6 5)] [])else none))) (fun k4=>(Ac N (Xu N k4) [dk d2 0,dk d2 1,dk d2 2,dk d2 3,dk d2 4,dk d5 0,dk d5 1,az 0,dk d2 5,dk d2 6] []))))))))else none)else none)))else(k2 [dk d2 5,dk d2 6] []))
def kJ (a0 a1 a2 a3:C) (k1:KD R):Option R:=Pp N a0 a1 (fun d1 m1=>(bif !decide (ao (dk d1 0)=0)then(k1 [dk d1 0,AI (ct 2 (br ay))] [])else(bif !decide ((↑(aq (au a3)):Int)=(↑(aq (au (bc a0 4))):Int))then(k1 [az 1,AI (ct 2 (br ay))] [])else(jn (fun d2 m2=>(k1 [az 0,dk d2 1] [])) (fun k2=>(Ac N (Xv N k1 k2) [a3,a0,a1,a2,az 0,AI (ct 2 (br ay)),AI (ct 2 (br ay))] []))))))
def Tq:=lid "" (@kJ R N)
theorem q0n {R N a0 a1 a2 a3 k}:@Tq R N a0 a1 a2 a3 k=kJ N a0 a1 a2 a3 k:=by unfold Tq;rw[AV]
def z2f:OvG R:=Ae [Bi,.arr 2 (.int .u64),.arr 2 (.int .u64),.slice 1 .bool] (fun a=>Tq N (a 0) (a 1) (a 2) (a 3)) fun a K d1 m1=>K (ow [V.d (ct 2 (br ay)) (dk d1 1),V.d (br aw) (dk d1 0)]) []
theorem z2g:okX 79 (@z2f R N):=Ai (AH (Pb N) <| AH (q0l N) <| AH (q0h N) <| AH (iW N) <| AW) N [(79,[(0,[(4,5),(5,5),(6,5)]),(11,[(52,7)])])] [(79,[([1,0,1,1,1,1,1],(AX [8,11] [])),
  ([4,1,0,1,1,1,1,1],(AX [3,4,5,6,8,11] [(12,.d (.int .i64))])),
  ([1,0,1,1,1,1,4,0,1,5,4,1,0,1,1,1,1,1],(AX [3,4,5,6,8,11,12] [(13,.d (.int .u64)),(16,.d (.int .i64))])),
  ([4,1,0,1,1,1,1,4,0,1,5,4,1,0,1,1,1,1,1],(AX [3,4,5,6,8,11,12] [(13,.d (.int .u64)),(16,.d (.int .i64)),(17,.d (.int .i64))])),
  ([0,0,5,4,1,0,1,1,1,1,4,0,1,5,4,1,0,1,1,1,1,1],(AX [3,4,5,6,8,11,12,13,16,17] [(73,.d .bool)])),
  ([1,0,1,4,0,1,5,4,1,0,1,1,1,1,4,0,1,5,4,1,0,1,1,1,1,1],(AX [3,4,5,6,8,11,12,13,16,17] [(18,.d (.int .i64))])),
  ([1,1,1,4,0,1,5,4,1,0,1,1,1,1,4,0,1,5,4,1,0,1,1,1,1,1],(AX [3,4,5,6,8,11,12,17] [(13,.d (.int .u64)),(16,.d (.int .i64))])),
  ([9],⟨[],[(8,.as (.ptr (.l 8) [] (.arr 2 (.int .u64)))),(9,.d (.int .i64))],[],[(.l 8,.box (.d (.arr 2 (.int .u64))))],[],[]⟩)])] (fun _ _=>q0n)
section
variable {R:Type} {N:Nat}
theorem NX {a b:Int}:W64 (Ap a b).1:=by
 unfold Ap;split
 ·exact⟨Int.emod_nonneg _ (by decide),Int.emod_lt_of_pos _ (by decide)⟩
 ·exact⟨by decide,by decide⟩
theorem q1R {a b:Int} (ha:W64 a) (hb:W64 b):W64 (Bu a b).1:=by
 unfold Bu;obtain⟨a1,a2⟩:=ha;obtain⟨b1,b2⟩:=hb;split
 ·exact⟨by decide,by decide⟩
 ·rw[wrap_u64 (by omega) (by omega)];exact⟨by omega,by omega⟩
theorem LN (a b:C) (ha:W64 a.toInt) (hb:W64 b.toInt) (k:KD R):HV N a b k=k [.int (Ap a.toInt b.toInt).1,.int (Ap a.toInt b.toInt).2] []:=by
 obtain⟨a1,a2⟩:=ha;obtain⟨b1,b2⟩:=hb;rw[iU];unfold Xe;rw[wrap_u64 (by omega) (by omega)];by_cases h:a.toInt+b.toInt<18446744073709551616
 ·rw[ZD a1 b1 h,show decide (18446744073709551615-a.toInt<b.toInt)=false from by rw[decide_eq_false_iff_not];omega,wrap_u64 (by omega) h];rfl
 ·rw[oM (by omega),show decide (18446744073709551615-a.toInt<b.toInt)=true from by rw[decide_eq_true_iff];omega];rfl
theorem q09 (a b:C) (k:KD R):LP N a b k=k [.int (Bu a.toInt b.toInt).1,.int (Bu a.toInt b.toInt).2] []:=by
 rw[iX];unfold Xf Bu;by_cases h:a.toInt<b.toInt <;> simp[h]
theorem ZB:∀(l:List C) (i:Nat) (n:Int),BG Hd i n l=BG Hd 0 n l
 | [],_,_=>rfl
 |c::l,i,n=>by
  simp only[BG,Hd];by_cases h:(Ap n c.toInt).2=0
  ·simp only[h,if_true];rw[ZB l (i+1),ZB l (0+1)]
  ·simp only[h,if_false]
def onP (n:Int) (l:List C):Int × Int:=Je (BG Hd 0 n l)
theorem gM (n:Int) (c:C) (l:List C):onP n (c::l)=if(Ap n c.toInt).2=0 then onP (Ap n c.toInt).1 l else(0,(Ap n c.toInt).2):=by
 unfold onP;simp only[BG,Hd];by_cases h:(Ap n c.toInt).2=0
 ·simp only[h,if_true];rw[ZB l (0+1)]
 ·simp only[h,if_false];rfl
theorem q24 {a b:Int} (h:¬(Ap a b).2=0):(Ap a b).1=0:=by
 unfold Ap at h ⊢;split
 ·rename_i h2;rw[if_pos h2]at h;exact absurd rfl h
 ·rfl
theorem q6J (side:Int) (c:C) (l:List C):GK side (c::l)=if(c.get 1).toInt=side then c.get 2::GK side l else GK side l:=by
 unfold GK;by_cases h:(c.get 1).toInt=side <;> simp[h]
def onE (n e:Int) (l:List C):Int × Int:=if e=0 then onP n l else(n,e)
theorem sI {l:List C} {i:Nat} (h:i<l.length):l.drop i=l.getD i .nil::l.drop (i+1):=by rw[List.drop_eq_getElem_cons h,bn,bm h];rfl
theorem XI (n:Int) (c:C) (l:List C):onP n (c::l)=onE (Ap n c.toInt).1 (Ap n c.toInt).2 l:=by
 rw[gM];unfold onE;by_cases h:(Ap n c.toInt).2=0
 ·rw[if_pos h,if_pos h]
 ·rw[if_neg h,if_neg h,q24 h]
theorem z25 (s side:C) (hl:(AY s).length<1099511627776) (ha:∀c∈AY s,W64 (c.get 2).toInt) (hN:2199023255552<N) (k:KD R):Tn N s side k=k [.int (GL s side.toInt).1,.int (GL s side.toInt).2] []:=by
 rw[q0j];unfold kG;rw[AQ]
 refine(Hr (F:=kF N _) (ι:=Nat × Int × Int) (fun x=>[side,s,.int x.2.1,.int x.2.2,.int x.1]) (fun _=>[]) (fun x=>(AY s).length-x.1+(if x.2.2=0 then 1 else 0)) (fun x=>x.1<=(AY s).length/\W64 x.2.1)
  (fun x=>k [.int (onE x.2.1 x.2.2 (GK side.toInt ((AY s).drop x.1))).1,.int (onE x.2.1 x.2.2 (GK side.toInt ((AY s).drop x.1))).2] []) ?_ N (0,0,0) ⟨Nat.zero_le _,by decide,by decide⟩ (by simp;omega)).trans ?_
 ·rintro⟨i,n,e⟩ ⟨hi,hn⟩ rec zd;dsimp only at hi hn zd ⊢;have hs:(s.get 4).elems=AY s:=rfl;unfold kF;rw[AQ];by_cases h:i<(AY s).length
  ·have h1:(i:Int)<((AY s).length:Int):=by omega
   by_cases he:e=0
   ·subst he;have hw:=ha _ (CR h);rw[sI h,q6J];simp only[AQ,AF,AL,AP,AU,Ab,Av,AB,Ah,hs,h1,AE,bu,and_self,bh,BM (show i<4611686018427387904 by omega)];by_cases z6T:(((AY s).getD i .nil).get 1).toInt=side.toInt
    ·simp only[z6T,AE];rw[LN (.int n) _ hn hw];simp only[AF,AL,AB];have:=zd (i+1,(Ap n (((AY s).getD i .nil).get 2).toInt).1,(Ap n (((AY s).getD i .nil).get 2).toInt).2) ⟨by omega,NX⟩ (by dsimp only;split <;> simp <;> omega);refine this.trans ?_;show _=k [.int (onE n 0 _).1,.int (onE n 0 _).2] [];rw[show ∀l,onE n 0 l=onP n l from fun l=>rfl,XI]
    ·simp only[z6T,AE];exact zd (i+1,n,0) ⟨by omega,hn⟩ (by simp;omega)
   ·simp only[AQ,AF,AL,AP,AU,Ab,Av,AB,Ah,hs,h1,he,AE];unfold onE;simp only[he,if_false]
  ·have h1:¬(i:Int)<((AY s).length:Int):=by omega
   have h2:(AY s).drop i=[]:=og (by omega);simp only[AQ,AF,AL,AP,AU,Ab,Av,AB,Ah,hs,h1,AE,h2];unfold onE;by_cases he:e=0
   ·subst he;rfl
   ·rw[if_neg he]
 ·rfl
theorem q1S {a:C} (ha:W64 a.toInt) (l:List C):Di (a::l)=onP a.toInt l:=by
 show onP 0 (a::l)=_;rw[gM,ZD (by omega) ha.1 (by have:=ha.2;omega)];simp
def StN (s put:C):Prop:=(∀i<2,W64 (put.get i).toInt/\W64 ((s.get 2).get i).toInt/\W64 ((s.get 3).get i).toInt)/\∀c∈AY s,W64 (c.get 2).toInt
theorem NJ:W64 0:=⟨by decide,by decide⟩
theorem q1Q:∀(l:List C) (i:Nat) (n:Int),W64 n->(∀c∈l,W64 c.toInt)->W64 (Je (BG KR i n l)).1
 | [],_,_,h,_=>h
 |c::l,i,n,h,hl=>by
  simp only[BG,KR];by_cases h1:(Bu n c.toInt).2=0
  ·simp only[h1,if_true];exact q1Q l _ _ (q1R h (hl c (fy ..))) fun d hd=>hl d (fq _ hd)
  ·simp only[h1,if_false];exact NJ
theorem gN:∀(l:List C) (n:Int),W64 n->W64 (onP n l).1
 | [],_,h=>h
 |c::l,n,h=>by
  rw[gM];split
  ·exact gN l _ NX
  ·exact NJ
theorem q6m {s put:C} (h:StN s put) (side:Int):W64 (Cr s put side).1:=by
 obtain⟨h1,h2⟩:=h;unfold Cr;split
 ·exact NJ
 ·split
  ·exact NJ
  ·split
   ·exact NJ
   ·refine q1Q _ _ _ (gN _ 0 NJ) fun c hc=>?_;simp only[gr,jd,or_false]at hc;rcases hc with rfl|rfl|rfl
    ·exact(h1 _ (by omega)).2.1
    ·exact(h1 _ (by omega)).2.2
    ·exact gN _ 0 NJ
theorem q01 (s put side:C) (hs:StN s put) (hl:(AY s).length<1099511627776) (hN:2199023255552<N) (k:KD R):Po N s put side k=k [.int (Cr s put side.toInt).1,.int (Cr s put side.toInt).2] []:=by
 rw[q0i];unfold kE Cr;by_cases hsd:side.toInt≠0/\side.toInt≠1
 ·simp[AQ,hsd.1,hsd.2,go_sem,AB,Ah]
 ·have hs':side.toInt=0\/side.toInt=1:=by omega
  have h2:0<=side.toInt/\side.toInt<2:=by omega
  have h3:0<=(1-side.toInt)/\(1-side.toInt)<2:=by omega
  have w:IntKind.i64.wrap (1-side.toInt)=1-side.toInt:=dh _ (by omega);rw[if_neg hsd];obtain⟨hs1,hs2⟩:=hs;have n1:=(hs1 side.toInt.toNat (by omega)).1;have n2:=(hs1 (1-side.toInt).toNat (by omega)).2.1;refine(Oc [side,s,put,.bool false] [] fun k=>?_).trans ?_
  ·rcases hs' with h|h <;> simp[h]
  simp only[go_sem,AB,Ah,z25 s side hl hs2 hN,AE,h2,and_self,w,h3];by_cases h4:(GL s side.toInt).2=0
  ·simp only[h4,AE,ne_eq,not_true];have e2:Di [put.get side.toInt.toNat,(s.get 2).get (1-side.toInt).toNat]=onE (Ap (put.get side.toInt.toNat).toInt ((s.get 2).get (1-side.toInt).toNat).toInt).1 (Ap (put.get side.toInt.toNat).toInt ((s.get 2).get (1-side.toInt).toNat).toInt).2 []:=by rw[q1S n1,XI]
   rw[LN _ _ n1 n2,e2];simp only[go_sem,AB,AJ];by_cases h5:(Ap (put.get side.toInt.toNat).toInt ((s.get 2).get (1-side.toInt).toNat).toInt).2=0
   ·have e3:∀x:Int,onE x 0 []=(x,0):=fun x=>rfl;simp only[h5,e3,AE,ne_eq,not_true,h2,and_self]
    refine(Hs (F:=Xq N k _) (fun i (x:Int)=>[.int x,.int i,.agg [(s.get 2).get side.toInt.toNat,(s.get 3).get side.toInt.toNat,.int (GL s side.toInt).1]]) (fun _ _=>[])
     [(s.get 2).get side.toInt.toNat,(s.get 3).get side.toInt.toNat,.int (GL s side.toInt).1] KR (fun s=>k [.int s,.int 0] []) (fun e=>k [.int 0,.int e] []) ?_ ?_ (by simp;omega)).trans ?_
    ·intro i x c hx hi rec;have hi3:i<3:=hi;have h1:(i:Int)<3:=by omega
     unfold Xq KR;simp only[go_sem,AB,AJ,Fa,h1,q09,BM (show i<4611686018427387904 by omega),bu,and_self,if_true,HD hx];by_cases h:(Bu x c.toInt).2=0 <;> simp[h]
    ·intro x rec;unfold Xq;simp only[go_sem,AB,AJ];simp
    ·unfold EA Je;cases BG KR 0 (Ap (put.get side.toInt.toNat).toInt ((s.get 2).get (1-side.toInt).toNat).toInt).1 [(s.get 2).get side.toInt.toNat,(s.get 3).get side.toInt.toNat,.int (GL s side.toInt).1] <;> rfl
   ·unfold onE;simp[h5]
  ·simp[h4]
theorem z23 (s id:C) (hl:(AY s).length<1099511627776) (hN:2199023255552<N) (k:KD R):Tm N s id k=k [.int (GG s id.toInt)] []:=by
 rw[q0g];unfold kD;rw[AQ];refine(Hs (F:=Xp N k _) (fun i (_:Unit)=>[id,s,.int i]) (fun _ _=>[]) (AY s) (findF id.toInt) (fun _=>k [.int (-1)] []) (fun i=>k [.int i] []) (s0:=()) ?_ ?_ (by omega)).trans ?_
 ·intro i _ c hx hi rec;have h1:(i:Int)<((AY s).length:Int):=by omega
  have hd:(s.get 4).elems.getD i .nil=c:=HD hx;have hs:(s.get 4).elems.length=(AY s).length:=rfl;unfold Xp findF;simp only[go_sem,AB,Ah,hs,h1,hd,BM (show i<4611686018427387904 by omega),bu,and_self,if_true];by_cases h:(c.get 0).toInt=id.toInt <;> simp[h]
 ·intro _ rec;unfold Xp;have hs:(s.get 4).elems.length=(AY s).length:=rfl;simp only[go_sem,AB,hs,fb,if_false]
 ·unfold GG EA XW;cases BG (findF id.toInt) 0 () (AY s) <;> rfl
theorem uM {id:Int}:∀{l:List C} {i m:Nat} {c:C},l[i]? =some c->(c.get 0).toInt=id->∃j,j<=m+i/\BG (findF id) m () l= .inr j
 | [],_,_,_,h,_=>by simp at h
 |d::l,0,m,c,h,hc=>by
  simp at h;subst h;exact⟨m,by omega,by simp[BG,findF,hc]⟩
 |d::l,i+1,m,c,h,hc=>by
  by_cases hd:(d.get 0).toInt=id
  ·exact⟨m,by omega,by simp[BG,findF,hd]⟩
  ·obtain⟨j,h1,h2⟩:=uM (l:=l) (i:=i) (m:=m+1) (by simpa using h) hc;exact⟨j,by omega,by simp[BG,findF,hd];exact h2⟩
theorem q6d {s c:C} {i:Nat} (h:(AY s)[i]? =some c):0<=GG s (c.get 0).toInt/\GG s (c.get 0).toInt<=i:=by
 obtain⟨j,h1,h2⟩:=uM (m:=0) h rfl;unfold GG;rw[h2];unfold XW;dsimp only;omega
theorem q08 (s put:C) (hst:StN s put) (hN:2199023255552<N) (k:KD R):Pp N s put k=k [.int (Fm s put)] []:=by
 rw[q0m];unfold kI Fm;rw[AQ];by_cases h1:200<(s.get 1).toInt
 ·simp[h1,go_sem,AB,Ah]
 have h8e:((8:Int)<(((s.get 4).elems.length:Nat):Int))=(8<(AY s).length):=by
  show((8:Int)<(((AY s).length:Nat):Int))=_;exact propext ⟨fun h=>by omega,fun h=>by omega⟩
 by_cases h2:8<(AY s).length
 ·simp only[h1,h2,go_sem,AB,Ah,h8e,or_true,if_true]
 have hl:(AY s).length<1099511627776:=by omega
 have key:∀k':KD R,Ac N (Tp N k k') [s,put,.int 0] []=EA (fun _=>k' [] []) (fun e=>k [.int e] []) (BG (Ib s put) 0 () [0,1]):=by
  intro k';refine Hs (F:=Tp N k k') (fun i (_:Unit)=>[s,put,.int i]) (fun _ _=>[]) [0,1] (Ib s put) (fun _=>k' [] []) (fun e=>k [.int e] []) (s0:=()) ?_ ?_ (by simp;omega)
  ·intro i _ c hx hi rec;have hi2:i<2:=hi;have h1:(i:Int)<2:=by omega
   have hc:c=(i:Int):=by
    have:i=0\/i=1:=by omega
    rcases this with rfl|rfl <;> simp at hx <;> subst hx <;> rfl
   subst hc;unfold Tp Ib;simp only[go_sem,AB,h1,q01 s put _ hst hl hN,BM (show i<4611686018427387904 by omega),bu,and_self,if_true];by_cases h:(Cr s put i).2=0 <;> simp[h]
  ·intro _ rec;unfold Tp;simp[go_sem,AB]
 have hor:¬(200<(s.get 1).toInt\/8<(AY s).length):=by omega
 rw[if_neg hor];simp only[AQ,h1,h2,go_sem,AB,Ah,h8e,AE];refine(Hs (F:=Xt N k _) (fun i (_:Unit)=>[s,put,.int i]) (fun _ _=>[]) (AY s) (Iu s) (fun _=>k [.int (okE (BG (Ib s put) 0 () [0,1]))] []) (fun e=>k [.int e] []) (s0:=()) ?_ ?_ (by omega)).trans ?_
 ·intro i _ c hx hi rec;have h1:(i:Int)<((AY s).length:Int):=by omega
  have hd:(s.get 4).elems.getD i .nil=c:=HD hx;have hs:(s.get 4).elems.length=(AY s).length:=rfl;obtain⟨f1,f2⟩:=q6d hx;unfold Xt Iu;rw[AQ];simp only[go_sem,AB,Ah,hs,h1,hd,BM (show i<4611686018427387904 by omega),bu,and_self,if_true,z23 s _ hl hN];have hlt:(GG s (c.get 0).toInt<(i:Int))=¬GG s (c.get 0).toInt=i:=propext ⟨fun h=>by omega,fun h=>by omega⟩;by_cases h3:(c.get 1).toInt=0
  ·by_cases h4:(c.get 2).toInt=0
   ·simp[h3,h4]
   ·by_cases h5:GG s (c.get 0).toInt=i <;> simp[h3,h4,h5,hlt]
  ·by_cases h3':(c.get 1).toInt=1
   ·by_cases h4:(c.get 2).toInt=0
    ·simp[h3',h4]
    ·by_cases h5:GG s (c.get 0).toInt=i <;> simp[h3',h4,h5,hlt]
   ·simp[h3,h3']
 ·intro _ rec;unfold Xt;have hs:(s.get 4).elems.length=(AY s).length:=rfl;simp only[AQ,go_sem,AB,hs,fb,AE,key];unfold EA okE;cases BG (Ib s put) 0 () [0,1] <;> rfl
 ·unfold EA;cases BG (Iu s) 0 () (AY s) <;> rfl
def GS (done:List C) (side:Int):Nat->List C->List C
 |_,[]=>[]
 |j,c::l=>if(!(decide ((c.get 1).toInt=side)==(done.getD j .nil).toBool))=true then c.get 2::GS done side (j+1) l else GS done side (j+1) l
theorem q1K {done:List C} {side:Int}:∀(l:List C) (j:Nat) (acc:List C),SA (BG (KO done side) j acc l)=acc++GS done side j l
 | [],_,acc=>by simp[BG,SA,GS]
 |c::l,j,acc=>by
  simp only[BG,KO,GS];rw[q1K l];split
  ·rw[dq];rfl
  ·rfl
theorem z35 {s:C} {l:List C}:∀{i:Nat},BG (Iu s) i () l= .inl ()->∀c∈l,(c.get 1).toInt=0\/(c.get 1).toInt=1:=by
 induction l with
 |nil=>intro i _ c hc;cases hc
 |cons d l ih=>
  intro i h c hc;simp only[BG,Iu]at h;by_cases h1:((d.get 1).toInt≠0/\(d.get 1).toInt≠1)\/(d.get 2).toInt=0
  ·rw[if_pos h1]at h;cases h
  ·rw[if_neg h1]at h;by_cases h2:GG s (d.get 0).toInt=i
   ·rw[if_pos h2]at h;rcases gr.1 hc with rfl|hc
    ·omega
    ·exact ih h c hc
   ·rw[if_neg h2]at h;cases h
theorem z36 {s put:C} (h:Fm s put=0):∀c∈AY s,(c.get 1).toInt=0\/(c.get 1).toInt=1:=by
 unfold Fm at h;split at h
 ·cases h
 ·cases h2:BG (Iu s) 0 () (AY s)with
  |inl u=>exact z35 h2
  |inr e=>
   rw[h2]at h;dsimp only at h;subst h;exfalso
   revert h2
   generalize AY s=l;generalize (0:Nat)=m
   induction l generalizing m with
   |nil=>intro h2;cases h2
   |cons d l ih=>
    intro h2;simp only[BG,Iu]at h2;split at h2
    ·rename_i h3;split at h3
     ·cases h3
     ·split at h3
      ·exact ih _ h2
      ·cases h3
    ·rename_i h3;split at h3
     ·cases h3;cases h2
     ·split at h3
      ·cases h3
      ·cases h3;cases h2
theorem z3q {done:List C} {s:C} (hd:done.length=(AY s).length) (hl:(AY s).length<=8) (ha:∀c∈AY s,W64 (c.get 2).toInt) (hby:∀c∈AY s,(c.get 1).toInt=0\/(c.get 1).toInt=1) (hN:2199023255552<N) (put yi b out:C) (side:Nat) (hsd:side<2) (n e:Int) (hn:W64 n) (k4:KD R):
  Ac N (Xu N k4) [.slice done,s,put,yi,.int side,.int n,.int e,.int 0,b,out] []=k4 [.slice done,s,put,yi,.int side,.int (onE n e (GS done side 0 (AY s))).1,.int (onE n e (GS done side 0 (AY s))).2,b,out] []:=by
 refine(Hr (F:=Xu N k4) (ι:=Nat × Int × Int) (fun x=>[.slice done,s,put,yi,.int side,.int x.2.1,.int x.2.2,.int x.1,b,out]) (fun _=>[]) (fun x=>(AY s).length-x.1+(if x.2.2=0 then 1 else 0)) (fun x=>x.1<=(AY s).length/\W64 x.2.1)
  (fun x=>k4 [.slice done,s,put,yi,.int side,.int (onE x.2.1 x.2.2 (GS done side x.1 ((AY s).drop x.1))).1,.int (onE x.2.1 x.2.2 (GS done side x.1 ((AY s).drop x.1))).2,b,out] []) ?_ N (0,n,e) ⟨Nat.zero_le _,hn⟩ (by dsimp only;split <;> omega)).trans ?_
 ·rintro⟨i,n,e⟩ ⟨hi,hn⟩ rec zd;dsimp only at hi hn zd ⊢;have hs:(s.get 4).elems=AY s:=rfl;unfold Xu;rw[AQ];by_cases h:i<(AY s).length
  ·have h1:(i:Int)<((AY s).length:Int):=by omega
   have h1d:(i:Int)<(done.length:Int):=by omega
   by_cases he:e=0
   ·subst he;have hw:=ha _ (CR h);have hb:=hby _ (CR h);rw[sI h];unfold GS;simp only[AQ,AF,AL,AP,AU,Ab,Av,Ba,DD,Da,FJ,Gb,AB,Ah,AJ,hs,h1,h1d,AE,bu,and_self,bh,BM (show i<4611686018427387904 by omega)];generalize hc:(AY s).getD i .nil=c at*;have w1:IntKind.i64.wrap (1-(c.get 1).toInt)=1-(c.get 1).toInt:=wrap_i64 (by omega) (by omega);have add:rec [.slice done,s,put,yi,.int side,.int (Ap n (c.get 2).toInt).1,.int (Ap n (c.get 2).toInt).2,.int ((i+1:Nat):Int),b,out] []=k4 [.slice done,s,put,yi,.int side,.int (onE n 0 (c.get 2::GS done side (i+1) ((AY s).drop (i+1)))).1,.int (onE n 0 (c.get 2::GS done side (i+1) ((AY s).drop (i+1)))).2,b,out] []:=by
     refine(zd (i+1,(Ap n (c.get 2).toInt).1,(Ap n (c.get 2).toInt).2) ⟨by omega,NX⟩ (by dsimp only;split <;> simp <;> omega)).trans ?_;dsimp only;rw[show ∀l,onE n 0 l=onP n l from fun l=>rfl,XI]
    have non:=zd (i+1,n,0) ⟨by omega,hn⟩ (by simp;omega);dsimp only at non;cases hb0:(done.getD i .nil).toBool <;> by_cases hs1:(c.get 1).toInt=(side:Int)
    ·simp only[AQ,AF,AL,AP,AU,Ab,Av,Ba,DD,Da,FJ,Gb,AB,hs,h1,hc,hs1,AE,bu,and_self,bh,xg,fj,pw,oy,LN (.int n) (c.get 2) hn hw];exact add
    ·simp only[AQ,AF,AL,AP,AU,Ab,Av,Ba,DD,Da,FJ,Gb,AB,hs,h1,hc,hs1,AE,bu,and_self,bh,xg,fj,pw,oy];exact non
    ·have q:¬1-(side:Int)=side:=by omega
     have w2:IntKind.i64.wrap (1-(side:Int))=1-side:=wrap_i64 (by omega) (by omega);simp only[w2,AQ,AF,AL,AP,AU,Ab,Av,Ba,DD,Da,FJ,Gb,AB,w1,hs,h1,hc,hs1,q,AE,bu,and_self,bh,xg,fj,pw,oy];exact non
    ·have q:1-(c.get 1).toInt=(side:Int):=by omega
     have w2:IntKind.i64.wrap (side:Int)=side:=wrap_i64 (by omega) (by omega);simp only[w2,AQ,AF,AL,AP,AU,Ab,Av,Ba,DD,Da,FJ,Gb,AB,w1,hs,h1,hc,hs1,q,AE,bu,and_self,bh,xg,fj,pw,oy,LN (.int n) (c.get 2) hn hw];exact add
   ·simp only[AQ,AF,AL,AP,AU,Ab,Av,Ba,DD,Da,FJ,Gb,AB,Ah,hs,h1,he,AE];unfold onE;simp only[he,if_false]
  ·have h1:¬(i:Int)<((AY s).length:Int):=by omega
   have h2:(AY s).drop i=[]:=og (by omega);simp only[AQ,AF,AL,AP,AU,Ab,Av,Ba,DD,Da,FJ,Gb,AB,Ah,hs,h1,AE,h2];unfold onE GS;by_cases he:e=0
   ·subst he;rfl
   ·rw[if_neg he]
 ·rfl
theorem z3p (s put yi:C) (done:C) (hd:done= .slice done.elems) (hst:StN s put) (hp:∀i<2,W64 (yi.get i).toInt) (hN:2199023255552<N) (k:KD R):Tq N s put yi done k=k [.int (EE s put yi done.elems).1,(EE s put yi done.elems).2] []:=by
 obtain⟨dl,rfl⟩:∃dl:List C,done= .slice dl:=⟨_,hd⟩;rw[AJ];rw[q0n];have hz:AI (ct 2 (br ay))=zz:=rfl;unfold kJ EE;rw[hz,q08 s put hst hN];by_cases h1:Fm s put=0
 case neg=>simp[h1,go_sem,AB]
 by_cases h2:dl.length=(AY s).length
 case neg=>
  have h2':¬((dl.length:Int)=((s.get 4).elems.length:Int)):=fun h=>h2 (by show _=(s.get 4).elems.length;omega);simp only[h1,h2,h2',go_sem,AB,AE,ne_eq,not_true,not_false_iff]
 have hs:(s.get 4).elems.length=(AY s).length:=rfl;simp only[AQ,h1,h2,hs,go_sem,AB,AE,ne_eq,not_true];obtain⟨hl,_⟩:=q1I h1;have hby:=z36 h1;refine(Hs (F:=Xv N k _) (fun i (out:C)=>[.slice dl,s,put,yi,.int i,zz,out]) (fun _ _=>[]) ([0,1]:List Nat) (NA dl s put yi) (fun out=>k [.int 0,out] []) (fun e=>k [.int e,zz] []) ?_ ?_ (show 2<N by omega)).trans ?_
 ·intro i out c hx hi rec;have hi2:i<2:=hi;have h1:(i:Int)<2:=by omega
  have hc:c=i:=by
   have:i=0\/i=1:=by omega
   rcases this with rfl|rfl <;> simp at hx <;> exact hx.symm
  subst hc;obtain⟨hs1,hs2⟩:=hst;have wf:W64 (Cr s put c).1:=q6m ⟨hs1,hs2⟩ _;have wr:=q1R (hs1 c hi2).2.2 (hp c hi2);unfold Xv NA;simp only[AQ,go_sem,AB,h1,q01 s put _ ⟨hs1,hs2⟩ (by omega) hN,BM (show c<4611686018427387904 by omega),bu,and_self,if_true,q09];by_cases h3:(Bu ((s.get 3).get c).toInt (yi.get c).toInt).2=0
  case neg=>simp[h3,hz]
  simp only[h3,AE,ne_eq,not_true];rw[LN (.int (Cr s put c).1) (.int (Bu ((s.get 3).get c).toInt (yi.get c).toInt).1) wf wr];simp only[go_sem,AB];rw[z3q h2 hl hs2 hby hN put yi zz out c hi2 _ _ NX];have es:Di (KP dl c [.int (Cr s put c).1,.int (Bu ((s.get 3).get c).toInt (yi.get c).toInt).1] (AY s))=onE (Ap (Cr s put c).1 (Bu ((s.get 3).get c).toInt (yi.get c).toInt).1).1 (Ap (Cr s put c).1 (Bu ((s.get 3).get c).toInt (yi.get c).toInt).1).2 (GS dl c 0 (AY s)):=by
   unfold KP;rw[q1K,ji,ji,fz,q1S (a:=.int (Cr s put c).1) wf,XI];rfl
  rw[es];simp only[go_sem,AB,AJ,h1,bu,and_self,if_true,BM (show c<4611686018427387904 by omega)];by_cases h4:(onE (Ap (Cr s put c).1 (Bu ((s.get 3).get c).toInt (yi.get c).toInt).1).1 (Ap (Cr s put c).1 (Bu ((s.get 3).get c).toInt (yi.get c).toInt).1).2 (GS dl c 0 (AY s))).2=0 <;> simp[h4,hz]
 ·intro out rec;unfold Xv;simp[go_sem,AB]
 ·unfold EA mH;cases BG (NA dl s put yi) 0 zz [0,1] <;> rfl
end
def TJ {R:Type} (N:Nat) (k4:KD R):KD R->KD R:=fun k5 d2 m2=>(bif decide (ao (dk d2 4)<2)then(if 0<=ar aw (ao (dk d2 2)+ao (dk d2 4))/\ar aw (ao (dk d2 2)+ao (dk d2 4))<4 then(if 0<=ao (dk d2 2)/\ao (dk d2 2)<2 then(if 0<=ao (dk d2 4)/\ao (dk d2 4)<2 then(if 0<=ar aw (ao (dk d2 2)+ao (dk d2 4))/\ar aw (ao (dk d2 2)+ao (dk d2 4))<4 then(k5 [dk d2 0,dk d2 1,dk d2 2,az (ar ay (dz (ar ay (ar ay (ao (bc (dk d2 6) (av (ar aw (ao (dk d2 2)+ao (dk d2 4)))))+ar ay (ao (bc (dk d2 0) (av (ao (dk d2 2))))*ao (bc (dk d2 1) (av (ao (dk d2 4))))))+ao (dk d2 3))) 4294967296)),az (ar aw (ao (dk d2 4)+1)),dk d2 5,db (dk d2 6) (av (ar aw (ao (dk d2 2)+ao (dk d2 4)))) (az (bq (ar ay (ar ay (ao (bc (dk d2 6) (av (ar aw (ao (dk d2 2)+ao (dk d2 4)))))+ar ay (ao (bc (dk d2 0) (av (ao (dk d2 2))))*ao (bc (dk d2 1) (av (ao (dk d2 4))))))+ao (dk d2 3))) 4294967296))] [])else none)else none)else none)else none)else(k4 [dk d2 0,dk d2 1,dk d2 2,dk d2 3,dk d2 5,dk d2 6] []))
def TK (k2:KD R):KD R->KD R:=fun k3 d1 m1=>(bif decide (ao (dk d1 2)<2)then(jn (fun d2 m2=>(if 0<=ar aw (ao (dk d2 2)+2)/\ar aw (ao (dk d2 2)+2)<4 then(if 0<=ar aw (ao (dk d2 2)+2)/\ar aw (ao (dk d2 2)+2)<4 then(k3 [dk d2 0,dk d2 1,az (ar aw (ao (dk d2 2)+1)),dk d2 4,db (dk d2 5) (av (ar aw (ao (dk d2 2)+2))) (az (ar ay (ao (bc (dk d2 5) (av (ar aw (ao (dk d2 2)+2))))+ao (dk d2 3))))] [])else none)else none)) (fun k4=>(Ac N (TJ N k4) [dk d1 0,dk d1 1,dk d1 2,az 0,az 0,dk d1 3,dk d1 4] [])))else(k2 [dk d1 3,dk d1 4] []))
def iY (a0 a1:C) (k1:KD R):Option R:=jn (fun d1 m1=>(k1 [dk d1 1] [])) (fun k2=>(Ac N (TK N k2) [db (db (AI (ct 2 (br ay))) 0 (az (bq (ao a0) 4294967296))) 1 (az (ar ay (dz (ao a0) 4294967296))),db (db (AI (ct 2 (br ay))) 0 (az (bq (ao a1) 4294967296))) 1 (az (ar ay (dz (ao a1) 4294967296))),az 0,AI (ct 4 (br ay)),AI (ct 4 (br ay))] []))
def TL:=lid "" (@iY R N)
theorem U5 {R N a0 a1 k}:@TL R N a0 a1 k=iY N a0 a1 k:=by unfold TL;rw[AV]
def z1b:OvG R:=Ae [.int .u64,.int .u64] (Bq (TL N)) (BD (ct 4 (br ay)))
theorem z1c:okX 153 (@z1b R N):=Ai AW N [(153,[(4,[(6,6),(7,6)]),(11,[])])] [(153,[([1,0,1,1,1,1],(AX [4,5] [])),
  ([4,1,0,1,1,1,1],(AX [4,5,6,7] [(8,.d (.int .i64))])),
  ([1,0,1,4,0,1,5,4,1,0,1,1,1,1],(AX [4,5,6,7,8] [(9,.d (.int .u64))])),
  ([4,1,0,1,4,0,1,5,4,1,0,1,1,1,1],(AX [4,5,6,7,8] [(9,.d (.int .u64)),(10,.d (.int .i64))])),
  ([9],⟨[],[(4,.as (.ptr (.l 4) [] (.arr 4 (.int .u64))))],[],[(.l 4,.box (.d (.arr 4 (.int .u64))))],[],[]⟩)])] (fun _ _=>U5)
def iV (a0 a1:C) (k1:KD R):Option R:=TL N a0 a1 (fun d1 m1=>(jn (fun d2 m2=>(bif cz (dk d2 0)then(k1 [az 0,az 11] [])else(k1 [az (ar ay (ar ay (ao (bc (dk d2 1) (av 1))*4294967296)+ao (bc (dk d2 1) (av 0)))),az 0] []))) (fun k2=>(bif !decide (ao (bc (dk d1 0) (av 2))=0)then(k2 [cg true,dk d1 0] [])else(k2 [cg !decide (ao (bc (dk d1 0) (av 3))=0),dk d1 0] [])))))
def TI:=lid "" (@iV R N)
theorem U4 {R N a0 a1 k}:@TI R N a0 a1 k=iV N a0 a1 k:=by unfold TI;rw[AV]
def z08:OvG R:=Ae [.int .u64,.int .u64] (Bq (TI N)) fun a K d1 m1=>K (ow [V.d (br ay) (dk d1 0),V.d (br aw) (dk d1 1)]) []
theorem z09:okX 142 (@z08 R N):=Ai (AH (z1c N) <| AW) N [] [(142,[([0,0,1,1],(AX [6] [(17,.d .bool)])),
  ([9],(Af [(4,.d (.int .u64)),(5,.d (.int .i64))]))])] (fun _ _=>U4)
section
variable {R:Type} {N:Nat}
def U64 (a:Int):Prop:=0<=a/\a<18446744073709551616
theorem ZI {a:Int} (h:U64 a):Aj .and .u64 a 4294967295=a%4294967296:=by
 obtain⟨x,rfl⟩:=Int.eq_ofNat_of_zero_le h.1;have hx:x<18446744073709551616:=by have:=h.2;omega
 show IntKind.u64.wrap (((dv 64 ((x:Nat):Int))&&&(dv 64 ((4294967295:Nat):Int))).toNat:Int)=_;simp only[BitVec.toNat_and,BitVec.ofInt_natCast,BitVec.toNat_ofNat];rw[qh (by omega),qh (by omega)];have key:x&&&4294967295=x%4294967296:=Nat.and_two_pow_sub_one_eq_mod x 32;rw[key,wrap_u64 (by omega) (by omega)];omega
theorem LD {a b:Int} (ha:0<=a/\a<4294967296) (hb:0<=b/\b<4294967296):0<=a*b/\a*b<=18446744065119617025:=by
 refine⟨pc ha.1 hb.1,?_⟩;have h1:a*b<=4294967295*b:=Int.mul_le_mul_of_nonneg_right (by omega) hb.1;omega
theorem y4 (a b:Int):a*b=(a / 4294967296*(b / 4294967296))*18446744073709551616+(a / 4294967296*(b%4294967296)+a%4294967296*(b / 4294967296))*4294967296+a%4294967296*(b%4294967296):=by
 have e1:a=a / 4294967296*4294967296+a%4294967296:=by omega
 have e2:b=b / 4294967296*4294967296+b%4294967296:=by omega
 generalize a / 4294967296=a1 at*;generalize a%4294967296=a0 at*;generalize b / 4294967296=b1 at*;generalize b%4294967296=b0 at*;subst e1;subst e2;rw[show(18446744073709551616:Int)=4294967296*4294967296 from rfl];simp only[Int.add_mul,Int.mul_add,Int.mul_assoc,Int.mul_comm,Int.mul_left_comm];omega
theorem q6M {a b:Int} (ha:U64 a) (hb:U64 b):hiM a b=a*b / 18446744073709551616:=by
 have e:=y4 a b;unfold hiM;rw[ZI ha,ZI hb];have p2:((2:Int)^min (av 32) 64)=4294967296:=by decide
 have fd:∀x:Int,Int.fdiv x 4294967296=x / 4294967296:=fun x=>Int.fdiv_eq_ediv_of_nonneg x (by omega);simp only[p2,fd];have u1:0<=a / 4294967296/\a / 4294967296<4294967296:=by unfold U64 at ha;omega
 have u0:0<=a%4294967296/\a%4294967296<4294967296:=by omega
 have v1:0<=b / 4294967296/\b / 4294967296<4294967296:=by unfold U64 at hb;omega
 have v0:0<=b%4294967296/\b%4294967296<4294967296:=by omega
 have hP:=LD u1 v1;have hQ:=LD u1 v0;have hT:=LD u0 v1;have hS:=LD u0 v0;generalize a / 4294967296*(b / 4294967296)=P at*;generalize a / 4294967296*(b%4294967296)=Q at*;generalize a%4294967296*(b / 4294967296)=T at*;generalize a%4294967296*(b%4294967296)=S at*;rw[e];rw[wrap_u64 (n:=P) (by omega) (by omega),wrap_u64 (n:=Q) (by omega) (by omega),wrap_u64 (n:=S) (by omega) (by omega),wrap_u64 (n:=T) (by omega) (by omega)];rw[wrap_u64 (n:=Q+S / 4294967296) (by omega) (by omega)];rw[ZI (a:=Q+S / 4294967296) ⟨by omega,by omega⟩];rw[wrap_u64 (n:=P+(Q+S / 4294967296) / 4294967296) (by omega) (by omega)];rw[wrap_u64 (n:=(Q+S / 4294967296)%4294967296+T) (by omega) (by omega)];rw[wrap_u64 (by omega) (by omega)];omega
theorem z9 {a b:Int} (ha:U64 a) (hb:U64 b):mulR a b=if a*b<18446744073709551616 then(a*b,0)else(0,11):=by
 have h0:0<=a*b:=pc ha.1 hb.1;unfold mulR;rw[q6M ha hb];by_cases h:a*b<18446744073709551616
 ·rw[if_pos (by omega),if_pos h,wrap_u64 h0 h]
 ·rw[if_neg (by omega),if_neg h]
def PO (n:Int):C:=.agg [.int (n%4294967296),.int (n / 4294967296%4294967296),.int (n / 18446744073709551616%4294967296),.int (n / 79228162514264337593543950336)]
theorem q2H (x y sh out:C) (i j:Nat) (hi:i<2) (hj:j<2) (cy m n:Int) (hm:(x.get i).toInt*(y.get j).toInt=m) (h1:U64 m) (h2:U64 ((out.get (i+j)).toInt+m)) (hn:n=(out.get (i+j)).toInt+m+cy) (h3:U64 n) (k4 rec:KD R):
  TJ N k4 rec [x,y,.int i,.int cy,.int j,sh,out] []=rec [x,y,.int i,.int (n / 4294967296),.int ((j+1:Nat):Int),sh,out.set (i+j) (.int (n%4294967296))] []:=by
 unfold TJ;unfold U64 at*;have w1:IntKind.i64.wrap ((i:Int)+(j:Int))=((i+j:Nat):Int):=by rw[dh _ (by omega)];rfl
 have w2:IntKind.i64.wrap ((j:Int)+1)=((j+1:Nat):Int):=by rw[dh _ (by omega)];rfl
 have b1:(j:Int)<2:=by omega
 have b2:(0:Int)<=((i+j:Nat):Int)/\((i+j:Nat):Int)<4:=by omega
 have b3:(0:Int)<=(i:Int)/\(i:Int)<2:=by omega
 have b4:(0:Int)<=(j:Int)/\(j:Int)<2:=by omega
 simp only[go_sem,AB,w1,w2,b1,b2,b3,b4,AE,and_self,bh,hm];rw[wrap_u64 (n:=m) h1.1 h1.2,wrap_u64 h2.1 h2.2,<-hn,wrap_u64 h3.1 h3.2];have q1:dz n 4294967296=n / 4294967296:=ek h3.1;have q2:bq n 4294967296=n%4294967296:=dp h3.1;rw[q1,q2,wrap_u64 (by omega) (by omega)]
theorem z4S (x y sh out:C) (i:Nat) (cy:Int) (k4 rec:KD R):
  TJ N k4 rec [x,y,.int i,.int cy,.int 2,sh,out] []=k4 [x,y,.int i,.int cy,sh,out] []:=by
 unfold TJ;simp only[go_sem,AB,fb,AE]
theorem zH {M:Nat} (F:KD R->List C->List Es->Option R) (s:List C) (m:List Es):Ac (M+3) F s m=F (F (F (Ac M F))) s m:=by
 rw[Bm];congr 1;funext s m;rw[Bm];congr 1;funext s m;rw[Bm]
theorem q22 {a b:Int} (ha:U64 a) (hb:U64 b) (hN:10<N) (k:KD R):TL N (.int a) (.int b) k=k [PO (a*b)] []:=by
 obtain⟨M,rfl⟩:∃M,N=M+3:=⟨N-3,by omega⟩;have e:=y4 a b;have h0:0<=a*b:=pc ha.1 hb.1;have u1:0<=a / 4294967296/\a / 4294967296<4294967296:=by unfold U64 at ha;omega
 have u0:0<=a%4294967296/\a%4294967296<4294967296:=by omega
 have v1:0<=b / 4294967296/\b / 4294967296<4294967296:=by unfold U64 at hb;omega
 have v0:0<=b%4294967296/\b%4294967296<4294967296:=by omega
 have hP:=LD u1 v1;have hQ:=LD u1 v0;have hT:=LD u0 v1;have hS:=LD u0 v0;have q1:dz a 4294967296=a / 4294967296:=ek ha.1;have q2:bq a 4294967296=a%4294967296:=dp ha.1;have q3:dz b 4294967296=b / 4294967296:=ek hb.1;have q4:bq b 4294967296=b%4294967296:=dp hb.1;have z2:∀p q:C,db (db (AI (ct 2 (br ay))) 0 p) 1 q= .agg [p,q]:=fun _ _=>rfl;have z4:AI (ct 4 (br ay))= .agg [.int 0,.int 0,.int 0,.int 0]:=rfl;rw[U5];unfold iY;rw[AQ];simp only[AB,q1,q2,q3,q4,z2,z4,wrap_u64 u1.1 (by omega:a / 4294967296<18446744073709551616),wrap_u64 v1.1 (by omega:b / 4294967296<18446744073709551616)];generalize a / 4294967296=a1 at*;generalize a%4294967296=a0 at*;generalize b / 4294967296=b1 at*;generalize b%4294967296=b0 at*
 -- one round of the outer loop
 have round:∀(i:Nat) (hi:i<2) (sh out:C) (m0 m1 n0 n1:Int) (k2 rec:KD R),((dj [.int a0,.int a1]).get i).toInt*b0=m0->((dj [.int a0,.int a1]).get i).toInt*b1=m1->U64 m0->U64 m1->
   U64 ((out.get i).toInt+m0)->n0=(out.get i).toInt+m0+0->U64 n0->U64 (((out.set i (.int (n0%4294967296))).get (i+1)).toInt+m1)->n1=((out.set i (.int (n0%4294967296))).get (i+1)).toInt+m1+n0 / 4294967296->U64 n1->
   U64 ((((out.set i (.int (n0%4294967296))).set (i+1) (.int (n1%4294967296))).get (i+2)).toInt+n1 / 4294967296)->
   ∀Z:Option R,rec [.agg [.int a0,.int a1],.agg [.int b0,.int b1],.int ((i+1:Nat):Int),sh,((out.set i (.int (n0%4294967296))).set (i+1) (.int (n1%4294967296))).set (i+2) (.int ((((out.set i (.int (n0%4294967296))).set (i+1) (.int (n1%4294967296))).get (i+2)).toInt+n1 / 4294967296))] []=Z->TK (M+3) k2 rec [.agg [.int a0,.int a1],.agg [.int b0,.int b1],.int i,sh,out] []=Z:=by
  intro i hi sh out m0 m1 n0 n1 k2 rec hm0 hm1 g0 g1 g2 g3 g4 g5 g6 g7 g8 Z hZ;unfold TK;have c1:(i:Int)<2:=by omega
  have c2:IntKind.i64.wrap ((i:Int)+2)=((i+2:Nat):Int):=by rw[dh _ (by omega)];rfl
  have c3:IntKind.i64.wrap ((i:Int)+1)=((i+1:Nat):Int):=by rw[dh _ (by omega)];rfl
  have c4:(0:Int)<=((i+2:Nat):Int)/\((i+2:Nat):Int)<4:=by omega
  simp only[go_sem,AB,c1,AE,AQ,zH];have s0:=fun k4 rec:KD R=>q2H (R:=R) (N:=M+3) (.agg [.int a0,.int a1]) (.agg [.int b0,.int b1]) sh out i 0 hi (by omega) 0 m0 n0 hm0 g0 g2 g3 g4 k4 rec;simp only[Nat.add_zero]at s0;rw[show(az ((0:Nat):Int))=az 0 from rfl]at s0;rw[s0];have s1:=fun k4 rec:KD R=>q2H (R:=R) (N:=M+3) (.agg [.int a0,.int a1]) (.agg [.int b0,.int b1]) sh (out.set i (.int (n0%4294967296))) i 1 hi (by omega) (n0 / 4294967296) m1 n1 hm1 g1 g5 g6 g7 k4 rec;rw[s1];rw[show(((1+1:Nat):Nat):Int)=2 from rfl,z4S];rw[<-hZ];clear hZ;generalize (out.set i (.int (n0%4294967296))).set (i+1) (.int (n1%4294967296))=O at g8 ⊢;simp only[go_sem,AB,c2,c3,c4,if_true,and_self,bh];rw[wrap_u64 g8.1 g8.2]
 have stop:∀(sh out:C) (k2 rec:KD R),TK (M+3) k2 rec [.agg [.int a0,.int a1],.agg [.int b0,.int b1],.int 2,sh,out] []=k2 [sh,out] []:=by
  intro sh out k2 rec;unfold TK;simp only[go_sem,AB,fb,AE]
 unfold U64 at round;generalize hS':a0*b0=S at*;generalize hT':a0*b1=T at*;generalize hQ':a1*b0=Q at*;generalize hP':a1*b1=P at*;rw[zH]
 have r0:=fun k2 rec=>round 0 (by omega) (.agg [.int 0,.int 0,.int 0,.int 0]) (.agg [.int 0,.int 0,.int 0,.int 0]) S T S (T+S / 4294967296) k2 rec hS' hT' (by omega) (by omega)
  (by show 0<=0+S/\0+S<_;omega) (by show S=0+S+0;omega) (by omega) (by show 0<=0+T/\0+T<_;omega) (by show _=0+T+_;omega) (by omega) (by show 0<=0+_/\0+_<_;omega) _ rfl
 have r1:=fun k2 rec=>round 1 (by omega) (.agg [.int 0,.int 0,.int 0,.int 0]) (.agg [.int (S%4294967296),.int ((T+S / 4294967296)%4294967296),.int (0+(T+S / 4294967296) / 4294967296),.int 0]) Q P
  ((T+S / 4294967296)%4294967296+Q) ((T+S / 4294967296) / 4294967296+P+((T+S / 4294967296)%4294967296+Q) / 4294967296) k2 rec hQ' hP' (by omega) (by omega)
  (by show 0<=(T+S / 4294967296)%4294967296+Q/\(T+S / 4294967296)%4294967296+Q<_;omega) (by show _=(T+S / 4294967296)%4294967296+Q+0;omega) (by omega)
  (by show 0<=0+(T+S / 4294967296) / 4294967296+P/\0+(T+S / 4294967296) / 4294967296+P<_;omega)
  (by show _=0+(T+S / 4294967296) / 4294967296+P+_;omega) (by omega) (by show 0<=0+_/\0+_<_;omega) _ rfl
 refine(r0 _ _).trans ((r1 _ _).trans ((stop _ _ _ _).trans ?_))
 show k [dj [az (S%4294967296),az (((T+S / 4294967296)%4294967296+Q)%4294967296),az (((T+S / 4294967296) / 4294967296+P+((T+S / 4294967296)%4294967296+Q) / 4294967296)%4294967296),
  az (0+((T+S / 4294967296) / 4294967296+P+((T+S / 4294967296)%4294967296+Q) / 4294967296) / 4294967296)]] []=_
 unfold PO;rw[e];have f0:S%4294967296=(P*18446744073709551616+(Q+T)*4294967296+S)%4294967296:=by omega
 have f1:((T+S / 4294967296)%4294967296+Q)%4294967296=(P*18446744073709551616+(Q+T)*4294967296+S) / 4294967296%4294967296:=by omega
 have f2:((T+S / 4294967296) / 4294967296+P+((T+S / 4294967296)%4294967296+Q) / 4294967296)%4294967296=(P*18446744073709551616+(Q+T)*4294967296+S) / 18446744073709551616%4294967296:=by omega
 have f3:0+((T+S / 4294967296) / 4294967296+P+((T+S / 4294967296)%4294967296+Q) / 4294967296) / 4294967296=(P*18446744073709551616+(Q+T)*4294967296+S) / 79228162514264337593543950336:=by omega
 rw[f0,f1,f2,f3]
theorem z3d {a b:Int} (ha:U64 a) (hb:U64 b) (hN:10<N) (k:KD R):TI N (.int a) (.int b) k=k [.int (mulR a b).1,.int (mulR a b).2] []:=by
 rw[U4];unfold iV;rw[q22 ha hb hN,z9 ha hb];have h0:0<=a*b:=pc ha.1 hb.1;have p0:(PO (a*b)).get 0= .int (a*b%4294967296):=rfl;have p1:(PO (a*b)).get 1= .int (a*b / 4294967296%4294967296):=rfl;have p2:(PO (a*b)).get 2= .int (a*b / 18446744073709551616%4294967296):=rfl;have p3:(PO (a*b)).get 3= .int (a*b / 79228162514264337593543950336):=rfl;simp only[AQ,AF,AL,Ah,AB,show av 2=2 from rfl,show av 3=3 from rfl,show av 1=1 from rfl,show av 0=0 from rfl,p0,p1,p2,p3];generalize a*b=n at*;by_cases h:n<18446744073709551616
 ·have g2:n / 18446744073709551616%4294967296=0:=by omega
  have g3:n / 79228162514264337593543950336=0:=by omega
  rw[wrap_u64 (n:=n / 4294967296%4294967296*4294967296) (by omega) (by omega),wrap_u64 (by omega) (by omega)];have g:n / 4294967296%4294967296*4294967296+n%4294967296=n:=by omega
  simp[g2,g3,h,g]
 ·simp only[h,if_false];by_cases g2:n / 18446744073709551616%4294967296=0
  ·have g3:¬n / 79228162514264337593543950336=0:=by omega
   simp[g2,g3]
  ·simp[g2]
theorem z01 {a b:Int} (ha:U64 a) (hb:U64 b) (k:KD R):HV N (.int a) (.int b) k=k [.int (Ap a b).1,.int (Ap a b).2] []:=by
 unfold U64 at*;rw[iU];unfold Xe;have w:IntKind.u64.wrap (18446744073709551615-a)=18446744073709551615-a:=wrap_u64 (by omega) (by omega);by_cases h:18446744073709551615-a<b
 ·rw[oM (by omega)];simp only[AB,w,h,AE]
 ·have w2:IntKind.u64.wrap (a+b)=a+b:=wrap_u64 (by omega) (by omega);rw[ZD (by omega) (by omega) (by omega)];simp only[AB,w,w2,h,AE]
theorem z3r {a b:Int} (k:KD R):LP N (.int a) (.int b) k=k [.int (Bu a b).1,.int (Bu a b).2] []:=by
 rw[iX];unfold Xf Bu;by_cases h:a<b
 ·simp only[AB,h,AE]
 ·simp only[AB,h,AE]
end
def jX {R:Type} (N:Nat) (a0:C) (k1:KD R):Option R:=bif decide (ao a0=1)then(k1 [az 8] [])else(jn (fun d1 m1=>(bif cz (dk d1 1)then(k1 [az 1] [])else(jn (fun d2 m2=>(bif cz (dk d2 0)then(k1 [az 2] [])else(k1 [az 0] []))) (fun k2=>(bif decide (ao (dk d1 0)=11)then(k2 [Dt (cg (decide (ao (dk d1 0)=11))) true] [])else(k2 [cg (decide (ao (dk d1 0)=12))] [])))))) (fun k2=>(bif decide (ao a0=2)then(k2 [a0,Dt (cg (decide (ao a0=2))) true] [])else(k2 [a0,cg (decide (ao a0=16))] []))))
def Mq:=lid "" (@jX R N)
theorem q0a {R N a0 k}:@Mq R N a0 k=jX N a0 k:=by unfold Mq;rw[AV]
def z1W:OvG R:=Ae [.int .i64] (Bw (Mq N)) (BD (br aw))
theorem F9:okX 74 (@z1W R N):=Ai AW N [] [(74,[([1,0,3,1,4,1,0,1],(AX [3] [(6,.d .bool)])),
  ([1,0,3,1,3,1,4,1,0,1],(Af [(9,.d .bool)])),
  ([9],(Af [(2,.d (.int .i64))]))])] (fun _ _=>q0a)
def Th (k2:KD R):KD R->KD R:=fun k3 d2 m2=>(Mq N (dk d2 2) (fun d3 m3=>(bif decide (ao (dk d2 4)<ao (dk d3 0))then(if 0<=ar aw (ar aw (ao (dk d2 1)+1)+ao (dk d2 4))/\ar aw (ar aw (ao (dk d2 1)+1)+ao (dk d2 4))<(↑(aq (au (dk d2 0))):Int)then(k3 [dk d2 0,dk d2 1,dk d2 2,az (ar ay (ar ay (ao (dk d2 3)*256)+ar ay (ao (bp (au (dk d2 0)) (av (ar aw (ar aw (ao (dk d2 1)+1)+ao (dk d2 4)))) dw)))),az (ar aw (ao (dk d2 4)+1))] [])else none)else(k2 [dk d2 2,dk d2 3] []))))
def jY (a0 a1:C) (k1:KD R):Option R:=bif decide ((↑(aq (au a0)):Int)<=ao a1)then(k1 [az 0,az 0,az 9] [])else(if 0<=ao a1/\ao a1<(↑(aq (au a0)):Int)then(bif decide (17<ar aw (ao (bp (au a0) (av (ao a1)) dw)))then(k1 [az 0,az 0,az 33] [])else(Mq N (az (ar aw (ao (bp (au a0) (av (ao a1)) dw)))) (fun d1 m1=>(bif decide ((↑(aq (au a0)):Int)<ar aw (ar aw (ao a1+1)+ao (dk d1 0)))then(k1 [az 0,az 0,az 9] [])else(jn (fun d2 m2=>(k1 [dk d2 0,dk d2 1,az 0] [])) (fun k2=>(Ac N (Th N k2) [a0,a1,az (ar aw (ao (bp (au a0) (av (ao a1)) dw))),az 0,az 0] [])))))))else none)
def Ti:=lid "" (@jY R N)
theorem q0b {R N a0 a1 k}:@Ti R N a0 a1 k=jY N a0 a1 k:=by unfold Ti;rw[AV]
def z1X:OvG R:=Ae [.slice 1 (.int .u8),.int .i64] (Bq (Ti N)) fun a K d1 m1=>K (ow [V.d (br aw) (dk d1 0),V.d (br ay) (dk d1 1),V.d (br aw) (dk d1 2)]) []
theorem z1Y:okX 73 (@z1X R N):=Ai (AH (F9 N) <| AW) N [] [(73,[([1,0,1,1,1,1,1,1],(AX [7] [(8,.d (.int .u64))])),
  ([4,1,0,1,1,1,1,1,1],(AX [0,1,7] [(8,.d (.int .u64)),(9,.d (.int .i64))])),
  ([9],(Af [(4,.d (.int .i64)),(5,.d (.int .u64)),(6,.d (.int .i64))]))])] (fun _ _=>q0b)
def jW {R:Type} (N:Nat) (a0:C) (k1:KD R):Option R:=bif decide (ao a0=5)then(k1 [az 3] [])else(bif decide (ao a0=16)then(k1 [az 10] [])else(k1 [az 1] []))
def Pn:=lid "" (@jW R N)
theorem F8 {R N a0 k}:@Pn R N a0 k=jW N a0 k:=by unfold Pn;rw[AV]
def z1U:OvG R:=Ae [.int .i64] (Bw (Pn N)) (BD (br aw))
theorem z1V:okX 126 (@z1U R N):=Ai AW N [] [(126,[([9],(Af [(2,.d (.int .i64))]))])] (fun _ _=>F8)
def kA {R:Type} (N:Nat) (a0:C) (k1:KD R):Option R:=jn (fun d1 m1=>(bif cz (dk d1 1)then(k1 [az 1] [])else(jn (fun d2 m2=>(bif cz (dk d2 0)then(k1 [az 2] [])else(k1 [az 0] []))) (fun k2=>(bif decide (ao (dk d1 0)=3)then(k2 [Dt (cg (decide (ao (dk d1 0)=3))) true] [])else(jn (fun d2 m2=>(k2 [cg (cz (dk d2 0))] [])) (fun k3=>(bif decide (ao (dk d1 0)=4)then(k3 [Dt (cg (decide (ao (dk d1 0)=4))) true] [])else(jn (fun d2 m2=>(k3 [cg (cz (dk d2 0))] [])) (fun k4=>(bif decide (ao (dk d1 0)=5)then(k4 [Dt (cg (decide (ao (dk d1 0)=5))) true] [])else(jn (fun d2 m2=>(k4 [cg (cz (dk d2 0))] [])) (fun k5=>(bif decide (ao (dk d1 0)=6)then(k5 [Dt (cg (decide (ao (dk d1 0)=6))) true] [])else(jn (fun d2 m2=>(k5 [cg (cz (dk d2 0))] [])) (fun k6=>(bif decide (ao (dk d1 0)=7)then(k6 [Dt (cg (decide (ao (dk d1 0)=7))) true] [])else(jn (fun d2 m2=>(k6 [cg (cz (dk d2 0))] [])) (fun k7=>(bif decide (ao (dk d1 0)=9)then(k7 [Dt (cg (decide (ao (dk d1 0)=9))) true] [])else(jn (fun d2 m2=>(k7 [cg (cz (dk d2 0))] [])) (fun k8=>(bif decide (ao (dk d1 0)=10)then(k8 [Dt (cg (decide (ao (dk d1 0)=10))) true] [])else(k8 [cg (decide (ao (dk d1 0)=14))] [])))))))))))))))))))))))) (fun k2=>(bif decide (ao a0=0)then(k2 [a0,Dt (cg (decide (ao a0=0))) true] [])else(jn (fun d1 m1=>(k2 [dk d1 0,cg (cz (dk d1 1))] [])) (fun k3=>(bif decide (ao a0=8)then(k3 [a0,Dt (cg (decide (ao a0=8))) true] [])else(jn (fun d1 m1=>(k3 [dk d1 0,cg (cz (dk d1 1))] [])) (fun k4=>(bif decide (ao a0=12)then(k4 [a0,Dt (cg (decide (ao a0=12))) true] [])else(jn (fun d1 m1=>(k4 [dk d1 0,cg (cz (dk d1 1))] [])) (fun k5=>(bif decide (ao a0=13)then(k5 [a0,Dt (cg (decide (ao a0=13))) true] [])else(k5 [a0,cg (decide (ao a0=15))] []))))))))))))
def LS:=lid "" (@kA R N)
theorem q0d {R N a0 k}:@LS R N a0 k=kA N a0 k:=by unfold LS;rw[AV]
def z11:OvG R:=Ae [.int .i64] (Bw (LS N)) (BD (br aw))
theorem z12:okX 127 (@z11 R N):=Ai AW N [] [(127,[([1,0,4,1,0,1],(AX [3] [(4,.d .bool)])),
  ([1,3,1,0,4,1,0,1],(AX [3] [(4,.d .bool)])),
  ([1,3,1,3,1,0,4,1,0,1],(AX [3] [(4,.d .bool)])),
  ([1,3,1,3,1,3,1,0,4,1,0,1],(AX [3] [(4,.d .bool)])),
  ([1,0,3,1,4,1,0,1],(Af [(10,.d .bool)])),
  ([1,3,1,0,3,1,4,1,0,1],(Af [(10,.d .bool)])),
  ([1,3,1,3,1,0,3,1,4,1,0,1],(Af [(10,.d .bool)])),
  ([1,3,1,3,1,3,1,0,3,1,4,1,0,1],(Af [(10,.d .bool)])),
  ([1,3,1,3,1,3,1,3,1,0,3,1,4,1,0,1],(Af [(10,.d .bool)])),
  ([1,3,1,3,1,3,1,3,1,3,1,0,3,1,4,1,0,1],(Af [(10,.d .bool)])),
  ([1,3,1,3,1,3,1,3,1,3,1,3,1,0,3,1,4,1,0,1],(Af [(10,.d .bool)])),
  ([9],(Af [(2,.d (.int .i64))]))])] (fun _ _=>q0d)
def kC {R:Type} (N:Nat) (a0:C) (k1:KD R):Option R:=bif cz a0 then(k1 [az 1] [])else(k1 [az 0] [])
def Hy:=lid "" (@kC R N)
theorem q0f {R N a0 k}:@Hy R N a0 k=kC N a0 k:=by unfold Hy;rw[AV]
def z15:OvG R:=Ae [.bool] (Bw (Hy N)) (BD (br ay))
theorem z17:okX 143 (@z15 R N):=Ai AW N [] [(143,[([9],(Af [(2,.d (.int .u64))]))])] (fun _ _=>q0f)
def kB (a0 a1 a2 a3 a4:C) (k1:KD R):Option R:=jn (fun d1 m1=>(bif !decide (ao (dk d1 1)=0)then(k1 [bj [],dk d1 1] [])else(k1 [bj [dk d1 0],az 0] []))) (fun k2=>(bif decide (ao a0=1)then(k2 [a1,az 0] [])else(jn (fun d1 m1=>(k2 [dk d1 0,dk d1 1] [])) (fun k3=>(bif decide (ao a0=2)then(bif decide (ar ay (↑(aq (au (bc a2 0))):Int)<=ao a1)then(k1 [bj [],az 1] [])else(if 0<=ao a1/\ao a1<(↑(aq (au (bc a2 0))):Int)then(k3 [bp (au (bc a2 0)) (av (ao a1)) dw,az 0] [])else none))else(jn (fun d1 m1=>(k3 [dk d1 0,dk d1 1] [])) (fun k4=>(bif decide (ao a0=3)then(HV N a3 a4 (fun d1 m1=>(k4 [dk d1 0,dk d1 1] [])))else(jn (fun d1 m1=>(k4 [dk d1 0,dk d1 1] [])) (fun k5=>(bif decide (ao a0=4)then(LP N a3 a4 (fun d1 m1=>(k5 [dk d1 0,dk d1 1] [])))else(jn (fun d1 m1=>(k5 [dk d1 0,dk d1 1] [])) (fun k6=>(bif decide (ao a0=5)then(TI N a3 a4 (fun d1 m1=>(k6 [dk d1 0,dk d1 1] [])))else(jn (fun d1 m1=>(k6 [dk d1 1,dk d1 0] [])) (fun k7=>(bif decide (ao a0=6)then(Hy N (cg (decide (ao a3<ao a4))) (fun d1 m1=>(k7 [az 0,dk d1 0] [])))else(jn (fun d1 m1=>(k7 [dk d1 0,dk d1 1] [])) (fun k8=>(bif decide (ao a0=7)then(Hy N (cg (decide (ao a3=ao a4))) (fun d1 m1=>(k8 [az 0,dk d1 0] [])))else(jn (fun d1 m1=>(k8 [dk d1 0,dk d1 1] [])) (fun k9=>(bif decide (ao a0=8)then(Hy N (cg (decide (ao a4=0))) (fun d1 m1=>(k9 [az 0,dk d1 0] [])))else(jn (fun d1 m1=>(k9 [dk d1 0,dk d1 1] [])) (fun k10=>(bif decide (ao a0=9)then(jn (fun d1 m1=>(k10 [dk d1 0,dk d1 1] [])) (fun k11=>(bif !decide (ao a3=0)then(Hy N (cg !decide (ao a4=0)) (fun d1 m1=>(k11 [az 0,dk d1 0] [])))else(Hy N (cg false) (fun d1 m1=>(k11 [az 0,dk d1 0] []))))))else(jn (fun d1 m1=>(k10 [dk d1 0,dk d1 1] [])) (fun k11=>(bif decide (ao a0=10)then(jn (fun d1 m1=>(k11 [dk d1 0,dk d1 1] [])) (fun k12=>(bif !decide (ao a3=0)then(Hy N (cg true) (fun d1 m1=>(k12 [az 0,dk d1 0] [])))else(Hy N (cg !decide (ao a4=0)) (fun d1 m1=>(k12 [az 0,dk d1 0] []))))))else(bif decide (ao a0=13)then(k1 [bj [a4,a4],az 0] [])else(bif decide (ao a0=14)then(k1 [bj [a4,a3],az 0] [])else(jn (fun d1 m1=>(k11 [dk d1 0,dk d1 1] [])) (fun k12=>(bif decide (ao a0=16)then(bif decide (ar ay (↑(aq (au (bc a2 1))):Int)<=ao a1)then(k1 [bj [],az 1] [])else(if 0<=ao a1/\ao a1<(↑(aq (au (bc a2 1))):Int)then(Hy N (bp (au (bc a2 1)) (av (ao a1)) dw) (fun d1 m1=>(k12 [az 0,dk d1 0] [])))else none))else(bif decide (ao a0=17)then(k12 [az 0,bc a2 2] [])else(k1 [bj [],az 0] []))))))))))))))))))))))))))))))))))))
def Tl:=lid "" (@kB R N)
theorem q0e {R N a0 a1 a2 a3 a4 k}:@Tl R N a0 a1 a2 a3 a4 k=kB N a0 a1 a2 a3 a4 k:=by unfold Tl;rw[AV]
def z13:OvG R:=Ae [.int .i64,.int .u64,YZ,.int .u64,.int .u64] (fun a=>Tl N (a 0) (a 1) (a 2) (a 3) (a 4)) fun a K d1 m1=>K (ow [V.d (Ty.slice 8 (br ay)) (dk d1 0),V.d (br aw) (dk d1 1)]) []
theorem z14:okX 128 (@z13 R N):=Ai (AH (Pb N) <| AH (iW N) <| AH (z09 N) <| AH (z17 N) <| AW) N [(128,[(0,[(7,5)])])] [(128,[([1,4,1,0,1,1],(Af [(12,.d (.int .u64)),(13,.d (.int .i64))])),
  ([1,3,1,4,1,0,1,1],(Af [(12,.d (.int .u64)),(13,.d (.int .i64))])),
  ([1,3,1,3,1,4,1,0,1,1],(Af [(12,.d (.int .u64)),(13,.d (.int .i64))])),
  ([1,3,1,3,1,3,1,4,1,0,1,1],(Af [(12,.d (.int .u64)),(13,.d (.int .i64))])),
  ([1,3,1,3,1,3,1,3,1,4,1,0,1,1],(Af [(12,.d (.int .u64)),(13,.d (.int .i64))])),
  ([1,3,1,3,1,3,1,3,1,3,1,4,1,0,1,1],(AX [13] [(12,.d (.int .u64))])),
  ([1,3,1,3,1,3,1,3,1,3,1,3,1,4,1,0,1,1],(AX [13] [(12,.d (.int .u64))])),
  ([1,3,1,3,1,3,1,3,1,3,1,3,1,3,1,4,1,0,1,1],(AX [13] [(12,.d (.int .u64))])),
  ([1,3,1,3,1,3,1,3,1,3,1,3,1,3,1,3,1,4,1,0,1,1],(AX [13] [(12,.d (.int .u64))])),
  ([2,1,3,1,3,1,3,1,3,1,3,1,3,1,3,1,3,1,4,1,0,1,1],(AX [13] [(12,.d (.int .u64))])),
  ([1,3,1,3,1,3,1,3,1,3,1,3,1,3,1,3,1,3,1,4,1,0,1,1],(AX [13] [(12,.d (.int .u64))])),
  ([2,1,3,1,3,1,3,1,3,1,3,1,3,1,3,1,3,1,3,1,4,1,0,1,1],(AX [13] [(12,.d (.int .u64))])),
  ([1,3,1,3,1,3,1,3,1,3,1,3,1,3,1,3,1,3,1,3,1,3,1,3,1,4,1,0,1,1],(AX [13] [(12,.d (.int .u64))])),
  ([9],(Af [(10,.d (.slice 8 (.int .u64))),(11,.d (.int .i64))]))])] (fun _ _=>q0e)
def Tj (k1:KD R):KD R->KD R:=fun k2 d2 m2=>(Ti N (dk d2 0) (dk d2 4) (fun d3 m3=>(bif !decide (ao (dk d3 2)=0)then(k1 [az 0,dk d2 5,dk d3 2] [])else(Pn N (dk d3 0) (fun d4 m4=>(bif decide (ao (dk d2 1)<ar aw (ao (dk d2 5)+ao (dk d4 0)))then(k1 [az 0,dk d2 5,az 24] [])else(Pn N (dk d3 0) (fun d5 m5=>(LS N (dk d3 0) (fun d6 m6=>(bif decide ((↑(aq (au (dk d2 3))):Int)<ao (dk d6 0))then(k1 [az 0,az (ar aw (ao (dk d2 5)+ao (dk d5 0))),az 12] [])else(LS N (dk d3 0) (fun d7 m7=>(jn (fun d8 m8=>(LS N (dk d8 5) (fun d9 m9=>(jn (fun d10 m10=>(LS N (dk d10 5) (fun d11 m11=>(if Int.ofNat 0<=0/\0<=ar aw ((↑(aq (au (dk d10 8))):Int)-ao (dk d11 0))/\ar aw ((↑(aq (au (dk d10 8))):Int)-ao (dk d11 0))<=(↑(aq (au (dk d10 8))):Int)then(bif decide (ao (dk d10 5)=0)then(k1 [dk d10 7,dk d10 4,az 0] [])else(Tl N (dk d10 5) (dk d10 6) (dk d10 2) (dk d10 9) (dk d10 7) (fun d12 m12=>(bif !decide (ao (dk d12 1)=0)then(k1 [az 0,dk d10 4,dk d12 1] [])else(bif decide (32<ar aw ((↑(aq (cut (au (dk d10 8)) 0 (ar aw ((↑(aq (au (dk d10 8))):Int)-ao (dk d11 0))))):Int)+(↑(aq (au (dk d12 0))):Int)))then(k1 [az 0,dk d10 4,az 4] [])else(bif bo (aq (cut (au (dk d10 8)) 0 (ar aw ((↑(aq (au (dk d10 8))):Int)-ao (dk d11 0))))) (aq (cut (au (dk d10 8)) 0 (ar aw ((↑(aq (au (dk d10 8))):Int)-ao (dk d11 0)))))then(if(aq (cut (au (dk d10 8)) 0 (ar aw ((↑(aq (au (dk d10 8))):Int)-ao (dk d11 0))))+aq (au (dk d12 0)))*8<=140737488355328/\aq (cut (au (dk d10 8)) 0 (ar aw ((↑(aq (au (dk d10 8))):Int)-ao (dk d11 0))))+aq (au (dk d12 0))<=9223372036854775807 then(Mq N (dk d10 5) (fun d13 m13=>(jn (fun d14 m14=>(jn (fun d15 m15=>(bif bo (aq (au (dk d15 4))) (aq (au (dk d15 4)))then(k2 [dk d15 0,dk d15 1,dk d15 2,bj (au (dk d15 4)),dk d15 5,dk d15 3] [])else none)) (fun k3=>(bif cz (dk d14 7)then(bif bo (aq (au (dk d14 6))) (aq (au (dk d14 6)))then(k3 [dk d14 0,dk d14 1,dk d14 2,dk d14 4,bj (au (dk d14 6)),az (ar aw (ao (dk d14 5)))] [])else none)else(bif bo (aq (au (dk d14 6))) (aq (au (dk d14 6)))then(k3 [dk d14 0,dk d14 1,dk d14 2,dk d14 4,bj (au (dk d14 6)),dk d14 3] [])else none))))) (fun k3=>(bif decide (ao (dk d10 5)=11)then(bif bo (aq (cut (au (dk d10 8)) 0 (ar aw ((↑(aq (au (dk d10 8))):Int)-ao (dk d11 0))))+aq (au (dk d12 0))) (aq (cut (au (dk d10 8)) 0 (ar aw ((↑(aq (au (dk d10 8))):Int)-ao (dk d11 0)))++au (dk d12 0)))then(k3 [dk d10 0,dk d10 1,dk d10 2,az (ar aw (ar aw (ao (dk d10 3)+1)+ao (dk d13 0))),dk d10 4,dk d10 6,bj (cut (au (dk d10 8)) 0 (ar aw ((↑(aq (au (dk d10 8))):Int)-ao (dk d11 0)))++au (dk d12 0)),cg true] [])else none)else(bif decide (ao (dk d10 5)=12)then(bif bo (aq (cut (au (dk d10 8)) 0 (ar aw ((↑(aq (au (dk d10 8))):Int)-ao (dk d11 0))))+aq (au (dk d12 0))) (aq (cut (au (dk d10 8)) 0 (ar aw ((↑(aq (au (dk d10 8))):Int)-ao (dk d11 0)))++au (dk d12 0)))then(k3 [dk d10 0,dk d10 1,dk d10 2,az (ar aw (ar aw (ao (dk d10 3)+1)+ao (dk d13 0))),dk d10 4,dk d10 6,bj (cut (au (dk d10 8)) 0 (ar aw ((↑(aq (au (dk d10 8))):Int)-ao (dk d11 0)))++au (dk d12 0)),cg !decide (ao (dk d10 7)=0)] [])else none)else(bif bo (aq (cut (au (dk d10 8)) 0 (ar aw ((↑(aq (au (dk d10 8))):Int)-ao (dk d11 0))))+aq (au (dk d12 0))) (aq (cut (au (dk d10 8)) 0 (ar aw ((↑(aq (au (dk d10 8))):Int)-ao (dk d11 0)))++au (dk d12 0)))then(k3 [dk d10 0,dk d10 1,dk d10 2,az (ar aw (ar aw (ao (dk d10 3)+1)+ao (dk d13 0))),dk d10 4,dk d10 6,bj (cut (au (dk d10 8)) 0 (ar aw ((↑(aq (au (dk d10 8))):Int)-ao (dk d11 0)))++au (dk d12 0)),cg false] [])else none)))))))else none)else none))))))else none)))) (fun k3=>(bif decide (ao (dk d9 0)=2)then(if 0<=ar aw ((↑(aq (au (dk d8 8))):Int)-2)/\ar aw ((↑(aq (au (dk d8 8))):Int)-2)<(↑(aq (au (dk d8 8))):Int)then(bif bo (aq (au (dk d8 8))) (aq (au (dk d8 8)))then(k3 [dk d8 0,dk d8 1,dk d8 2,dk d8 3,dk d8 4,dk d8 5,dk d8 6,dk d8 9,bj (au (dk d8 8)),bp (au (dk d8 8)) (av (ar aw ((↑(aq (au (dk d8 8))):Int)-2))) dw] [])else none)else none)else(bif bo (aq (au (dk d8 8))) (aq (au (dk d8 8)))then(k3 [dk d8 0,dk d8 1,dk d8 2,dk d8 3,dk d8 4,dk d8 5,dk d8 6,dk d8 9,bj (au (dk d8 8)),dk d8 7] [])else none))))))) (fun k3=>(bif decide (1<=ao (dk d7 0))then(if 0<=ar aw ((↑(aq (au (dk d2 3))):Int)-1)/\ar aw ((↑(aq (au (dk d2 3))):Int)-1)<(↑(aq (au (dk d2 3))):Int)then(bif bo (aq (au (dk d2 3))) (aq (au (dk d2 3)))then(k3 [dk d2 0,dk d2 1,dk d2 2,dk d2 4,az (ar aw (ao (dk d2 5)+ao (dk d5 0))),dk d3 0,dk d3 1,az 0,bj (au (dk d2 3)),bp (au (dk d2 3)) (av (ar aw ((↑(aq (au (dk d2 3))):Int)-1))) dw] [])else none)else none)else(bif bo (aq (au (dk d2 3))) (aq (au (dk d2 3)))then(k3 [dk d2 0,dk d2 1,dk d2 2,dk d2 4,az (ar aw (ao (dk d2 5)+ao (dk d5 0))),dk d3 0,dk d3 1,az 0,bj (au (dk d2 3)),az 0] [])else none)))))))))))))))))
def jZ (a0 a1 a2:C) (k1:KD R):Option R:=jn (fun d1 m1=>(bif cz (dk d1 3)then(k1 [az 0,az 0,az 1] [])else(Ac N (Tj N k1) [dk d1 0,dk d1 1,dk d1 2,bj [],az 0,az 0] []))) (fun k2=>(bif decide (256<(↑(aq (au a0)):Int))then(k2 [a0,a2,a1,cg true] [])else(bif decide (ao a2<0)then(k2 [a0,a2,a1,cg true] [])else(k2 [a0,a2,a1,cg (decide (4096<ao a2))] []))))
def Tk:=lid "" (@jZ R N)
theorem q0c {R N a0 a1 a2 k}:@Tk R N a0 a1 a2 k=jZ N a0 a1 a2 k:=by unfold Tk;rw[AV]
def z1Z:OvG R:=Ae [.slice 1 (.int .u8),YZ,.int .i64] (Eb (Tk N)) fun a K d1 m1=>K (ow [V.d (br ay) (dk d1 0),V.d (br aw) (dk d1 1),V.d (br aw) (dk d1 2)]) []
theorem z10:okX 103 (@z1Z R N):=Ai (AH (z1Y N) <| AH (F9 N) <| AH (z1V N) <| AH (z12 N) <| AH (z14 N) <| AW) N [(103,[(0,[(4,5)])])] [(103,[([0,0,1],(AX [0,2,4] [(29,.d .bool)])),
  ([4,1,1,1,1],(AX [0,2,4] [(9,.sl 8 (.int .u64) 5009),(10,.d (.int .i64)),(11,.d (.int .i64))])),
  ([1,0,1,1,1,1,1,1,4,5,4,1,1,1,1],(AX [0,2,4,10,11,12,13,15] [(9,.sl 8 (.int .u64) 5009),(16,.d (.int .u64))])),
  ([1,0,1,1,1,1,1,1,1,4,5,4,1,1,1,1],(AX [0,2,4,10,11,12,13,16] [(9,.sl 8 (.int .u64) 5009),(15,.d (.int .u64))])),
  ([0,1,1,1,1,1,1,1,1,1,1,1,1,1,1,1,4,5,4,1,1,1,1],(AX [0,2,4,10,11,13] [(9,.sl 8 (.int .u64) 5009),(126,.d .bool)])),
  ([1,1,1,1,1,1,1,1,1,1,1,1,1,1,1,1,4,5,4,1,1,1,1],(AX [0,2,4,11] [(9,.sl 8 (.int .u64) 5009),(10,.d (.int .i64))])),
  ([9],(Af [(6,.d (.int .u64)),(7,.d (.int .i64)),(8,.d (.int .i64))]))])] (fun _ _=>q0c)
end Go.Proofs.YtgdonkaoajbclaaGreatDoor
