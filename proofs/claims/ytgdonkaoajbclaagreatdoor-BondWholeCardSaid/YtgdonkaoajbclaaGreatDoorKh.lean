/-
What Go functions compute, part 8.
Conditions: none.
-/
import Derived.Test.YtgdonkaoajbclaaGreatDoorKg
set_option linter.all false
noncomputable section
set_option maxRecDepth 100000
set_option maxHeartbeats 4000000
open Bool renaming false_eq_true->fe
open Go.E.C renaming agg->dh,bool->cd,elems->ao,get->ax,int->aw,nil->du,set->ct,slice->bc,toBool->cz,toInt->aj,wf->ua
open Go.E.Key renaming g->ga,l->di
open Go.E.Ty renaming arr->cq,int->bn
open Go.IntKind renaming bits->jc,i64->ar,signed->ig,u64->av,u8->bp,wrap->al
open Int renaming le_refl->gu,ofNat->ja,toNat->aq,toNat_natCast->bf
open List renaming filter_cons->vz,getD->bj,getElem?_eq_getElem->bg,length->ak,map->db,map_cons->dy,mem_cons->fz,mem_cons_of_mem->ez,mem_cons_self->fl,not_mem_nil->ic,replicate->ay
open Nat renaming beq_refl->br
namespace Go.Proofs.YtgdonkaoajbclaaGreatDoor
open Go Go.E
variable {R:Type} (N:Nat)
section
variable {R:Type} {N:Nat}
def q3p {x:Int} (h:W64 x):Ap 0 x=(x,0):=by have:=h.1;have:=h.2;unfold Ap;rw[if_pos (by omega)];congr 1;omega
def q2e {x y:C} (hx:W64 x.toInt):(CM [x,y]).2=(Ap x.toInt y.toInt).2:=by unfold CM;simp only[Ax,Gh,q3p hx,if_true];by_cases h:(Ap x.toInt y.toInt).2=0 <;> simp[Jk,h]
section
variable {id who rts:C} {yj:List C} {put yi ph un yh:C}
def z3y (side yo:C) (h0:W64 (put.get 0).toInt) (h1:W64 (put.get 1).toInt) (ha:W64 yo.toInt) (hp:put= .agg [put.get 0,put.get 1]) (k:KD R):
  UC N (mkB id who rts yj put yi ph un yh) side yo k=k [.int (HW id who rts yj put yi ph un yh side.toInt yo.toInt).1,(HW id who rts yj put yi ph un yh side.toInt yo.toInt).2] []:=by
 have h6:(mkB id who rts yj put yi ph un yh).get 6=ph:=rfl;have h4:(mkB id who rts yj put yi ph un yh).get 4=put:=rfl;rw[q0R];unfold lI HW;rw[GC];refine(Oh [side,yo,.bool (decide ((side.toInt≠0/\side.toInt≠1)\/yo.toInt=0)),mkB id who rts yj put yi ph un yh,zB] [] fun K=>?_).trans ?_;{by_cases z0:side.toInt=0;{simp[z0]};{by_cases z1:side.toInt=1 <;> simp[z0,z1]}};simp only[AF,AK,AO,AV,Ag,h6,h4];by_cases a1:(side.toInt≠0/\side.toInt≠1)\/yo.toInt=0;{simp only[a1,AE]};have hs:0<=side.toInt/\side.toInt<2:=by omega
 by_cases a2:ph.toInt=2;{simp only[a1,a2,AE]};have hg:W64 (put.get side.toInt.toNat).toInt:=by rcases(by omega:side.toInt.toNat=0\/side.toInt.toNat=1)with e|e <;> rw[e];{exact h0};{exact h1}
 simp only[a1,a2,AE,hs,and_self,Je _ _ hg ha,AF,AK,AB];by_cases b1:(Ap (put.get side.toInt.toNat).toInt yo.toInt).2=0
 case neg=>simp only[b1,AE,ne_eq,not_false_iff]
 have hw:W64 (Ap (put.get side.toInt.toNat).toInt yo.toInt).1:=NZ;have es:ct (mkB id who rts yj put yi ph un yh) 4 (put.set side.toInt.toNat (.int (Ap (put.get side.toInt.toNat).toInt yo.toInt).1))=mkB id who rts yj (put.set side.toInt.toNat (.int (Ap (put.get side.toInt.toNat).toInt yo.toInt).1)) yi ph un yh:=rfl;have e4:∀x:C,(mkB id who rts yj x yi ph un yh).get 4=x:=fun x=>rfl;simp only[b1,AE,ne_eq,not_true,es,e4,Int.toNat_zero,Int.toNat_one];generalize (Ap (put.get side.toInt.toNat).toInt yo.toInt).1=v at hw;have g:W64 ((put.set side.toInt.toNat (.int v)).get 0).toInt/\W64 ((put.set side.toInt.toNat (.int v)).get 1).toInt:=by rw[hp];rcases(by omega:side.toInt.toNat=0\/side.toInt.toNat=1)with e|e <;> rw[e];{exact⟨hw,h1⟩};{exact⟨h0,hw⟩}
 rw[Je _ _ g.1 g.2];simp only[AF,AK,AB,q2e g.1];by_cases b2:(Ap ((put.set side.toInt.toNat (aw v)).get 0).toInt ((put.set side.toInt.toNat (aw v)).get 1).toInt).2=0;{simp only[b2,AE,not_true]};{simp only[b2,AE,not_false_iff]}
def z3g (hst:StN yh put) (hpd:∀i<2,W64 (yi.get i).toInt) (hl:(AU yh).length<1099511627776) (l:List Ent) (hll:l.length<=1000) (T yk:C) (hN:2199023255552<N) (k:KD R):
  UA N (mkB id who rts yj put yi ph un yh) yk T (.slice (l.map DL)) k=
   k [.int (Ep (l.map CE) id who rts yj put yi ph un yh yk.toInt).1,(Ep (l.map CE) id who rts yj put yi ph un yh yk.toInt).2.1,(Ep (l.map CE) id who rts yj put yi ph un yh yk.toInt).2.2] []:=by
 have hz:AJ (cq 2 (bn av))=zz:=rfl;have h6:(mkB id who rts yj put yi ph un yh).get 6=ph:=rfl;have h7:(mkB id who rts yj put yi ph un yh).get 7=un:=rfl;have h8:(mkB id who rts yj put yi ph un yh).get 8=yh:=rfl;have h4:(mkB id who rts yj put yi ph un yh).get 4=put:=rfl;have h5:(mkB id who rts yj put yi ph un yh).get 5=yi:=rfl;rw[q0O];unfold lE Ep;rw[GC,hz];simp only[h6,h7];by_cases a1:ph.toInt=0;{simp[a1]};by_cases a2:ph.toInt=2;{simp[a1,a2]};by_cases a3:yk.toInt<un.toInt;{simp[a1,a2,a3]};have hbl:(yh.get 4).elems.length=(AU yh).length:=rfl;simp only[a1,a2,a3,AE,AP]
 refine(Ot (N:=N) (F:=YC N T (.slice (l.map DL)) k _) (fun i (acc:List C)=>[yk,.slice acc,.int i,mkB id who rts yj put yi ph un yh,zB,zz]) (fun _ _=>[])
  (AU yh) (Kl (l.map CE) yk.toInt) (fun acc=>if(Ci yh put yi acc).1≠0 then k [.int (Ci yh put yi acc).1,zB,zz] []else k [.int 0,mkB id who rts yj put yi (.int 2) un yh,(Ci yh put yi acc).2] [])
  (fun _=>k [.int 30,zB,zz] []) (fun i acc=>acc.length=i) (s0:=[]) rfl ?_ ?_ (by omega)).trans ?_
 ·intro i acc c hx hP;have hi:i<(AU yh).length:=(List.getElem?_eq_some_iff.1 hx).1;refine⟨fun rec=>?_,fun z8t h'=>?_⟩
  ·have h1:(i:Int)<((AU yh).length:Int):=by omega
   have h1':(i:Int)<((yh.get 4).elems.length:Int):=h1;have hg:(yh.get 4).elems.getD i .nil=c:=HK hx;have h3:(acc.length+1)*1<=140737488355328/\acc.length+1<=9223372036854775807:=by omega
   unfold YC Kl;rw[GC,hz];simp only[AF,AK,AO,AV,Ac,Av,AB,AI,h8,h1',hg,List.length_append,List.length_cons,List.length_nil,Nat.zero_add,bf,BK (show i<4611686018427387904 by omega),Int.natCast_nonneg,and_self,AE,h3,br,z3B c yk l hll (show 5000<N by omega)];by_cases h:ofP (l.map CE) c yk.toInt=0;{simp only[h,AE]}
   ·simp only[h,AE]
    all_goals rfl
  ·unfold Kl at h';split at h';{cases h'};{cases h';simp[hP]}
 ·intro acc hP rec;have h1':¬((AU yh).length:Int)<((yh.get 4).elems.length:Int):=by rw[hbl];omega
  unfold YC;rw[GC,hz];simp only[AF,AK,AO,AV,Ac,Av,AB,AI,h8,h1',AE,br,h4,h5,z3L yh put yi (.slice acc) rfl hst hpd hN];by_cases h:(Ci yh put yi acc).1=0;{simp[h,mkB];rfl};{simp[h,mkB]}
 ·rw[bD];by_cases h:KB (l.map CE) yk.toInt (AU yh)=true;{simp[h,EI]};{simp only[h,if_false,List.nil_append,EI];by_cases h9:(Ci yh put yi (Hr (l.map CE) yk.toInt (AU yh))).1=0 <;> simp[h9]}
end
end
section
structure DE (c:C):Prop where
 eta:c= .agg [.int (c.get 0).toInt,.int (c.get 1).toInt]
 a:W64 (c.get 0).toInt
 b:W64 (c.get 1).toInt
def DE.g0 {c:C} (h:DE c):c.get 0= .int (c.get 0).toInt:=congrArg (fun x=>ax x 0) h.eta
def DE.g1 {c:C} (h:DE c):c.get 1= .int (c.get 1).toInt:=congrArg (fun x=>ax x 1) h.eta
def DE.gi {c:C} (h:DE c):∀i<2,W64 (c.get i).toInt:=fun i hi=>by rcases(by omega:i=0\/i=1)with rfl|rfl;{exact h.a};{exact h.b}
def DE.set {c:C} (h:DE c) {i:Nat} (hi:i<2) {v:Int} (hv:W64 v):DE (c.set i (.int v)):=by rw[h.eta];rcases(by omega:i=0\/i=1)with rfl|rfl;{exact⟨rfl,hv,h.b⟩};{exact⟨rfl,h.a,hv⟩}
def tot (c:C):Int:=(c.get 0).toInt+(c.get 1).toInt
structure BOk (put yi ph un yh:C):Prop where
 put:DE put
 yi:DE yi
 ph:ph= .int ph.toInt
 un:un= .int un.toInt
 yh:StC yh
def Qd {yh d:C} (h:StC yh) (hd:StC (d.get 0)):StC (BL yh d):=by unfold BL;split;{exact hd};{exact h}
def StC.tk {s:C} (h:StC s):∀i<2,(s.get 3).get i= .int ((s.get 3).get i).toInt/\W64 ((s.get 3).get i).toInt:=fun i hi=>by rcases(by omega:i=0\/i=1)with rfl|rfl;{exact⟨h.t0,h.b.w.q0⟩};{exact⟨h.t1,h.b.w.q1⟩}
def W64.u {x:Int} (h:W64 x):U64 x:=⟨h.1,h.2⟩
def oM {put yh} (h:DE put) (hb:StC yh):BU put yh:=⟨⟨h.g0,h.g1,hb.r⟩,h.a.u,h.b.u,hb.b.w.rd.u⟩
def ZJ {a b:Int} (h:¬(Ap a b).2≠0):(a+b) / 18446744073709551616=0/\(Ap a b).1=(a+b)%18446744073709551616:=by unfold Ap at h ⊢;split;{rename_i h1;exact⟨h1,rfl⟩};{rename_i h1;rw[if_neg h1]at h;exact absurd (show(11:Int)≠0 by decide) h}
section
variable {id who rts:C} {yj:List C} {put yi ph un yh:C}
def v3 (h:BOk put yi ph un yh) (side yo:Int):
  ((HW id who rts yj put yi ph un yh side yo).1=0/\∃zu,(HW id who rts yj put yi ph un yh side yo).2=mkB id who rts yj zu yi ph un yh/\BOk zu yi ph un yh/\ph.toInt≠2/\(0<=yo->tot put<=tot zu)/\tot zu<18446744073709551616)\/
  ((HW id who rts yj put yi ph un yh side yo).1≠0/\(HW id who rts yj put yi ph un yh side yo).2=zB):=by
 unfold HW;split;{exact .inr ⟨by decide,rfl⟩};rename_i a1;split;{exact .inr ⟨by decide,rfl⟩};rename_i a2;split;{rename_i a3;exact .inr ⟨a3,rfl⟩};rename_i a3;split;{rename_i a4;exact .inr ⟨a4,rfl⟩};rename_i a4;have hs:side=0\/side=1:=by omega
 have hw:W64 (Ap (put.get side.toNat).toInt yo).1:=NZ;have hp:=h.put.set (i:=side.toNat) (by omega) hw;refine .inl ⟨rfl,_,rfl,⟨hp,h.yi,h.ph,h.un,h.yh⟩,a2,fun ha=>?_,?_⟩
 ·have hv:(Ap (put.get side.toNat).toInt yo).1=(put.get side.toNat).toInt+yo:=by have:=ZJ a3;omega
  unfold tot;rw[hv];rcases hs with rfl|rfl;{rw[h.put.eta];show _<=(put.get 0).toInt+yo+(put.get 1).toInt;show(put.get 0).toInt+(put.get 1).toInt<=_;omega};{rw[h.put.eta];show(put.get 0).toInt+(put.get 1).toInt<=(put.get 0).toInt+((put.get 1).toInt+yo);omega}
 ·rw[q2e hp.a]at a4;unfold tot;have h1:=hp.a.1;have h2:=hp.b.1;have:=(ZJ a4).1;omega
def bF (h:BOk put yi ph un yh) {d:C} (hd:StC (d.get 0)) (w:Bool) (side:Int):
  ((Ef id who rts yj put yi ph un yh d w side).2.1=0/\(side=0\/side=1)/\EB ph put yi yh d w=0/\(Ef id who rts yj put yi ph un yh d w side).1=PV yi yh d side.toNat/\
    (Ef id who rts yj put yi ph un yh d w side).2.2=mkB id who rts yj put (yi.set side.toNat (((BL yh d).get 3).get side.toNat)) ph un (BL yh d)/\BOk put (yi.set side.toNat (((BL yh d).get 3).get side.toNat)) ph un (BL yh d))\/
  ((Ef id who rts yj put yi ph un yh d w side).2.1≠0/\(Ef id who rts yj put yi ph un yh d w side).2.2=zB/\(Ef id who rts yj put yi ph un yh d w side).1=0):=by
 unfold Ef;split;{exact .inr ⟨by decide,rfl,rfl⟩};rename_i a1;split;{rename_i a2;exact .inr ⟨a2,rfl,rfl⟩};rename_i a2;split;{exact .inr ⟨by decide,rfl,rfl⟩};have hb:=Qd h.yh hd;have ht:=hb.tk side.toNat (by omega);refine .inl ⟨rfl,by omega,by omega,rfl,rfl,⟨h.put,?_,h.ph,h.un,hb⟩⟩;rw[ht.1];exact h.yi.set (by omega) ht.2
def uY (h:BOk put yi ph un yh) {d:C} (hd:StC (d.get 0)) (w:Bool) (yk:Int):
  ((HG id who rts yj put yi ph un yh d w yk).1=0/\EB ph put yi yh d w=0/\ph.toInt≠1/\∃un',(HG id who rts yj put yi ph un yh d w yk).2=mkB id who rts yj put yi (.int 1) un' (BL yh d)/\BOk put yi (.int 1) un' (BL yh d))\/
  ((HG id who rts yj put yi ph un yh d w yk).1≠0/\(HG id who rts yj put yi ph un yh d w yk).2=zB):=by
 unfold HG;split;{exact .inr ⟨by decide,rfl⟩};rename_i a1;split;{rename_i a2;exact .inr ⟨a2,rfl⟩};rename_i a2;split;{rename_i a3;exact .inr ⟨a3,rfl⟩};exact .inl ⟨rfl,by omega,a1,_,rfl,⟨h.put,h.yi,rfl,rfl,Qd h.yh hd⟩⟩
def q1M (h:BOk put yi ph un yh) {d:C} (hd:StC (d.get 0)) (w:Bool) (yk:Int):
  ((Hh id who rts yj put yi ph un yh d w yk).1=0/\EB ph put yi yh d w=0/\(Hh id who rts yj put yi ph un yh d w yk).2=mkB id who rts yj put yi ph un (BL yh d)/\BOk put yi ph un (BL yh d))\/
  ((Hh id who rts yj put yi ph un yh d w yk).1≠0/\(Hh id who rts yj put yi ph un yh d w yk).2=zB):=by
 unfold Hh;split;{exact .inr ⟨by decide,rfl⟩};split;{rename_i a2;exact .inr ⟨a2,rfl⟩};rename_i a2;split;{exact .inr ⟨by decide,rfl⟩};split;{exact .inr ⟨by decide,rfl⟩};exact .inl ⟨rfl,by omega,rfl,⟨h.put,h.yi,h.ph,h.un,Qd h.yh hd⟩⟩
def tQ (h:BOk put yi ph un yh) (m:Es) (yk:Int):
  ((Ep m id who rts yj put yi ph un yh yk).1=0/\ph.toInt≠0/\ph.toInt≠2/\(Ci yh put yi (Hr m yk (AU yh))).1=0/\(Ep m id who rts yj put yi ph un yh yk).2.1=mkB id who rts yj put yi (.int 2) un yh/\
    (Ep m id who rts yj put yi ph un yh yk).2.2=(Ci yh put yi (Hr m yk (AU yh))).2/\BOk put yi (.int 2) un yh)\/
  ((Ep m id who rts yj put yi ph un yh yk).1≠0/\(Ep m id who rts yj put yi ph un yh yk).2.1=zB/\(Ep m id who rts yj put yi ph un yh yk).2.2=zz):=by
 unfold Ep;split;{exact .inr ⟨by decide,rfl,rfl⟩};rename_i a1;split;{exact .inr ⟨by decide,rfl,rfl⟩};rename_i a2;split;{exact .inr ⟨by decide,rfl,rfl⟩};split;{exact .inr ⟨by decide,rfl,rfl⟩};split;{rename_i a5;exact .inr ⟨a5,rfl,rfl⟩};rename_i a5;exact .inl ⟨rfl,a1,a2,by omega,rfl,rfl,⟨h.put,h.yi,rfl,h.un,h.yh⟩⟩
end
end
def q8w:List Sh:=[.as (.ptr (.g (.l 1)) [] nJ),.d NG,.d IW]
def q8z:List (Key × OSh):=[(.l 1,.box (.agg nJ [.d Az,.d Az,.as (.ptr (.g (.l 2)) [] Ff),.as (.ptr (.g (.l 4)) [] DB),.d (.int .u64),.d (.arr 2 (.int .u64))])),(.l 2,.box (.agg Ff [.as (.mp (.g (.l 3)))])),(.l 3,.map (.arr 32 (.int .u8)) AX),(.l 4,.box (.agg DB [.d Br,.ts 72 EP]))]
def eF (a0 a1 b0 b1 b2 b3 b4 b5 b6 b7:C) (m0:Es) (k1:KD R):Option R:=jn (fun d1 m1=>(jn (fun d2 m2=>(bif cz (dk d2 3)then(if BO AX (dE AX (dm m2 0))=true then(k1 [cd false,dk d2 4,bc (ao (dk d2 5)),dk d2 6,dk d2 7,dk d2 8,dk d2 9] [unE (dE AX (dm m2 0))])else none)else(jn (fun d3 m3=>(if BO AX (dE AX (dm m3 0))=true then(k1 [cd true,dk d3 0,bc (ao (dk d3 1)),dk d3 2,dk d3 3,dk d3 4,dk d3 5] [unE (dE AX (dm m3 0))])else none)) (fun k2=>(bif decide (aj (dk d2 1)=0)then(jn (fun d3 m3=>(if BO AX (dE AX (dm m3 0))=true then(k2 [dk d3 0,bc (ao (dk d3 1)),dk d3 2,dk d3 3,dk d3 4,ct (ct (dk d3 5) (aq 0) (aw (al av (aj (ax (dk d3 5) (aq 0))+aj (ax (dk d3 6) (aq 0)))))) (aq 1) (aw (al av (aj (ax (ct (dk d3 5) (aq 0) (aw (al av (aj (ax (dk d3 5) (aq 0))+aj (ax (dk d3 6) (aq 0)))))) (aq 1))+aj (ax (dk d3 6) (aq 1)))))] [unE (dE AX (dm m3 0))])else none)) (fun k3=>(bif decide (aj (ax (dk d2 0) 0)=1)then(if 0<=aj (ax (dk d2 0) 1)/\aj (ax (dk d2 0) 1)<2 then(if 0<=aj (ax (dk d2 0) 1)/\aj (ax (dk d2 0) 1)<2 then(if BO AX (dE AX (dm m2 0))=true then(k3 [dk d2 4,bc (ao (dk d2 5)),dk d2 10,dk d2 11,dk d2 8,ct (dk d2 9) (aq (aj (ax (dk d2 0) 1))) (aw (al av (aj (ax (dk d2 9) (aq (aj (ax (dk d2 0) 1))))+aj (dk d2 2)))),dk d2 12] [unE (dE AX (dm m2 0))])else none)else none)else none)else(if BO AX (dE AX (dm m2 0))=true then(k3 [dk d2 4,bc (ao (dk d2 5)),dk d2 10,dk d2 11,dk d2 8,dk d2 9,dk d2 12] [unE (dE AX (dm m2 0))])else none))))else(if BO AX (dE AX (dm m2 0))=true then(k2 [dk d2 4,bc (ao (dk d2 5)),dk d2 6,dk d2 7,dk d2 8,dk d2 9] [unE (dE AX (dm m2 0))])else none)))))) (fun k2=>(bif !decide (aj (dk d1 1)=aj (dk d1 2))then(if BO AX (dE AX (dm m1 0))=true then(k2 [dk d1 0,dk d1 2,dk d1 3,cd true,dk d1 5,bc (ao (dk d1 6)),dk d1 7,dk d1 8,dk d1 9,dk d1 10,dk d1 11,dk d1 12,dk d1 13] [unE (dE AX (dm m1 0))])else none)else(bif !decide (aj (dk d1 3)=aj (dk d1 4))then(if BO AX (dE AX (dm m1 0))=true then(k2 [dk d1 0,dk d1 2,dk d1 3,cd true,dk d1 5,bc (ao (dk d1 6)),dk d1 7,dk d1 8,dk d1 9,dk d1 10,dk d1 11,dk d1 12,dk d1 13] [unE (dE AX (dm m1 0))])else none)else(bif !C.beq (dk d1 13) (dk d1 14)then(if BO AX (dE AX (dm m1 0))=true then(k2 [dk d1 0,dk d1 2,dk d1 3,cd true,dk d1 5,bc (ao (dk d1 6)),dk d1 7,dk d1 8,dk d1 9,dk d1 10,dk d1 11,dk d1 12,dk d1 13] [unE (dE AX (dm m1 0))])else none)else(GU N (dk d1 11) (fun d2 m2=>(Hb N (dk d2 0) (dk d1 12) (fun d3 m3=>(if BO AX (dE AX (dm m1 0))=true then(k2 [dk d1 0,dk d1 2,dk d1 3,cd !cz (dk d3 0),dk d1 5,bc (ao (dk d1 6)),dk d1 7,dk d1 8,dk d1 9,dk d1 10,dk d1 11,dk d1 12,dk d1 13] [unE (dE AX (dm m1 0))])else none))))))))))) (fun k2=>(bif decide (aj (ax a1 0)=0)then(Qh N b0 (ax a1 1) (ax a1 2) (fun d1 m1=>(UC N b1 (ax a1 1) (ax a1 2) (fun d2 m2=>(if BO AX (dE AX m0)=true then(k2 [a1,dk d1 0,dk d2 0,aw 0,aw 0,b4,bc (ao b5),b0,b1,b2,b3,dk d1 1,dk d2 1,AJ (cq 2 (bn av)),AJ (cq 2 (bn av))] [unE (dE AX m0)])else none)))))else(jn (fun d1 m1=>(if BO AX (dE AX (dm m1 0))=true then(k2 [dk d1 0,dk d1 1,dk d1 2,dk d1 3,dk d1 4,dk d1 5,bc (ao (dk d1 6)),dk d1 7,dk d1 8,dk d1 9,dk d1 10,dk d1 11,dk d1 12,dk d1 13,dk d1 14] [unE (dE AX (dm m1 0))])else none)) (fun k3=>(bif decide (aj (ax a1 0)=1)then(KC N a0 a1 (fun d1 m1=>(LC N (dk d1 0) (fun d2 m2=>(Qe N b0 (ax a1 1) (dk d2 0) (fun d3 m3=>(Tz N (ax a0 0) b1 (ax a1 1) (dk d1 0) (fun d4 m4=>(if BO AX (dE AX m0)=true then(k3 [a1,dk d3 1,dk d4 1,dk d3 0,dk d4 0,b4,bc (ao b5),b0,b1,b2,b3,dk d3 2,dk d4 2,AJ (cq 2 (bn av)),AJ (cq 2 (bn av))] [unE (dE AX m0)])else none)))))))))else(jn (fun d1 m1=>(if BO AX (dE AX (dm m1 0))=true then(k3 [dk d1 0,dk d1 3,dk d1 4,dk d1 1,dk d1 2,dk d1 5,bc (ao (dk d1 6)),dk d1 7,dk d1 8,dk d1 9,dk d1 10,dk d1 11,dk d1 12,dk d1 13,dk d1 14] [unE (dE AX (dm m1 0))])else none)) (fun k4=>(bif decide (aj (ax a1 0)=2)then(KC N a0 a1 (fun d1 m1=>(LC N (dk d1 0) (fun d2 m2=>(Qg N b0 (dk d2 0) b2 (fun d3 m3=>(UB N (ax a0 0) b1 (dk d1 0) b2 (fun d4 m4=>(if BO AX (dE AX m0)=true then(k4 [a1,aw 0,aw 0,dk d3 0,dk d4 0,b4,bc (ao b5),b0,b1,b2,b3,dk d3 1,dk d4 1,AJ (cq 2 (bn av)),AJ (cq 2 (bn av))] [unE (dE AX m0)])else none)))))))))else(jn (fun d1 m1=>(if BO AX (dE AX (dm m1 0))=true then(k4 [dk d1 0,dk d1 1,dk d1 2,dk d1 3,dk d1 4,dk d1 5,bc (ao (dk d1 6)),dk d1 7,dk d1 8,dk d1 9,dk d1 10,dk d1 11,dk d1 12,dk d1 13,dk d1 14] [unE (dE AX (dm m1 0))])else none)) (fun k5=>(bif decide (aj (ax a1 0)=3)then(KC N a0 a1 (fun d1 m1=>(LC N (dk d1 0) (fun d2 m2=>(Qi N b0 (dk d2 0) b2 (fun d3 m3=>(UE N (ax a0 0) b1 (dk d1 0) b2 (fun d4 m4=>(if BO AX (dE AX m0)=true then(k5 [a1,aw 0,aw 0,dk d3 0,dk d4 0,b4,bc (ao b5),b0,b1,b2,b3,dk d3 1,dk d4 1,AJ (cq 2 (bn av)),AJ (cq 2 (bn av))] [unE (dE AX m0)])else none)))))))))else(bif decide (aj (ax a1 0)=4)then(if BO AX (db (Aw (swU (di 2) (ga (di 3)))) (db (Aw (swU (di 1) (ga (di 2)))) (db (Aw ga) (dE AX m0))))=true then(Qf N b0 b2 du (unE (db (Aw (swU (di 2) (ga (di 3)))) (db (Aw (swU (di 1) (ga (di 2)))) (db (Aw ga) (dE AX m0))))) (fun d1 m1=>(UA N b1 b2 b4 (bc (ao b5)) (fun d2 m2=>(if BO AX (dE AX m0)=true then(k5 [a1,aw 0,aw 0,dk d1 0,dk d2 0,b4,bc (ao b5),b0,b1,b2,b3,dk d1 1,dk d2 1,dk d1 2,dk d2 2] [unE (dE AX m0)])else none)))))else none)else(bif decide (aj (ax a1 0)=5)then(if BO AX (dE AX m0)=true then(k1 [cd true,b4,bc (ao b5),b0,b1,aw (if 1125899906842624<al av (aj b2+if 1099511627776<aj (ax a1 2)then 1099511627776 else aj (ax a1 2))then 1125899906842624 else al av (aj b2+if 1099511627776<aj (ax a1 2)then 1099511627776 else aj (ax a1 2))),b3] [unE (dE AX m0)])else none)else(if BO AX (db (Aw (swU (di 2) (ga (di 3)))) (db (Aw (swU (di 1) (ga (di 2)))) (db (Aw ga) (dE AX m0))))=true then(Sk N (ax a1 5) b2 du du (unE (db (Aw (swU (di 2) (ga (di 3)))) (db (Aw (swU (di 1) (ga (di 2)))) (db (Aw ga) (dE AX m0))))) (fun d1 m1=>(Tk N (ax a1 5) b2 b4 (bc (ao b5)) du (fun d2 m2=>(if BO AX (db (Aw (dn 30)) (db (Aw (swU (di 1) (ga (di 2)))) (db (Aw (swU (di 2) (ga (di 3)))) (dE AX (dm m1 0)))))=true then(k1 [cd (decide (aj (dk d1 0)=aj (dk d2 0))),dk d2 1,bc (ao (dk d2 2)),b0,b1,b2,b3] [unE (db (Aw (dn 30)) (db (Aw (swU (di 1) (ga (di 2)))) (db (Aw (swU (di 2) (ga (di 3)))) (dE AX (dm m1 0)))))])else none)))))else none))))))))))))))
def Om:=lid "" (@eF R N)
def yM {R N a0 a1 b0 b1 b2 b3 b4 b5 b6 b7 m0 k}:@Om R N a0 a1 b0 b1 b2 b3 b4 b5 b6 b7 m0 k=eF N a0 a1 b0 b1 b2 b3 b4 b5 b6 b7 m0 k:=by unfold Om;rw[AW]
def q8x:OvG R:=Cf q8w q8z (fun ds ms=>Om N (dk ds 0) (dk ds 1) (dk ds 2) (dk ds 3) (dk ds 4) (dk ds 5) (dk ds 6) (dk ds 7) (dk ds 8) (dk ds 9) (dm ms 0)) fun ds ms K d1 m1=>K (V.d Ty.bool (cd (cz (dk d1 0)))) [(ga (di 4),O.box (V.agg DB [V.d Br (dk d1 1),V.ts 72 EP (ao (dk d1 2))])),
 (ga (di 1),
  O.box
   (V.agg nJ
    [V.d Az (dk d1 3),V.d Az (dk d1 4),V.ptr (ga (di 2)) [] Ff,
     V.ptr (ga (di 4)) [] DB,V.d (bn av) (dk d1 5),
     V.d (cq 2 (bn av)) (dk d1 6)])),
 (ga (di 2),O.box (V.agg Ff [V.mp (ga (di 3))])),
 (ga (di 3),O.map (cq 32 (bn bp)) AX (dE AX (dm m1 0)))]
def q8y:okX 21 (@q8x R N):=Cq (AH (q31 N) <| AH (q3X N) <| AH (q8h N) <| AH (q33 N) <| AH (q0T N) <| AH (yD N) <| AH (q3U N) <| AH (z23 N) <| AH (q8p N) <| AH (q3R N) <| AH (z2U N) <| AH (z20 N) <| AH (z28 N) <| AH (z2X N) <| AH (z0a N) <| AH (z2g N) <| AZ) N [(21,[(0,[(4,5),(5,5)]),(33,[(2000007,19),(2000008,19),(243,19),(244,19)]),(8,[(3000001,19),(34,19),(40,19)]),(10,[(54,7)]),(11,[(66,7)]),(14,[(82,7),(83,7),(15,6)]),(15,[(97,7),(15,6)]),(18,[(112,7),(117,7),(16,6)]),(19,[(132,7),(16,6)]),(22,[(146,7),(151,7),(17,6)]),(23,[(166,7),(17,6)]),(30,[(234,7),(236,7)]),(37,[(13,6)])])] [(21,[([1,4,1,0,1,1,1,1,1,1,1],⟨[0,5,7,8,13,14],[(9,.d (.int .i64)),(10,.d (.int .i64)),(11,.d (.int .u64)),(12,.d (.int .u64))],[.g (.l 1),.g (.l 2),.g (.l 3),.g (.l 4)],[(.g (.l 4),.box (.agg DB [.d Br,.ts 72 EP]))],[],[]⟩),
  ([1,3,1,4,1,0,1,1,1,1,1,1,1],⟨[0,5,7,8,13,14],[(9,.d (.int .i64)),(10,.d (.int .i64)),(11,.d (.int .u64)),(12,.d (.int .u64))],[.g (.l 1),.g (.l 2),.g (.l 3),.g (.l 4)],[(.g (.l 4),.box (.agg DB [.d Br,.ts 72 EP]))],[],[]⟩),
  ([1,3,1,3,1,4,1,0,1,1,1,1,1,1,1],⟨[0,5,7,8,11,12,13,14],[(9,.d (.int .i64)),(10,.d (.int .i64))],[.g (.l 1),.g (.l 2),.g (.l 3),.g (.l 4)],[(.g (.l 4),.box (.agg DB [.d Br,.ts 72 EP]))],[],[]⟩),
  ([1,3,1,3,1,3,1,4,1,0,1,1,1,1,1,1,1],⟨[0,5,7,8,11,12,13,14],[(9,.d (.int .i64)),(10,.d (.int .i64))],[.g (.l 1),.g (.l 2),.g (.l 3),.g (.l 4)],[(.g (.l 4),.box (.agg DB [.d Br,.ts 72 EP]))],[],[]⟩),
  ([0,0,1,1,1,1,1,1,1,1],⟨[0,5,7,8,10,11,13],[(238,.d .bool)],[.g (.l 1),.g (.l 2),.g (.l 3),.g (.l 4)],[(.g (.l 4),.box (.agg DB [.d Br,.ts 72 EP]))],[],[]⟩),
  ([1,0,1,1,1,1,1,1,1,1,1],⟨[0],[],[.g (.l 1),.g (.l 2),.g (.l 3),.g (.l 4)],[(.g (.l 4),.box (.agg DB [.d Br,.ts 72 EP]))],[],[]⟩),
  ([1,0,1,2,1,0,1,1,1,1,1,1,1,1,1],⟨[0,13],[],[.g (.l 1),.g (.l 2),.g (.l 3),.g (.l 4)],[(.g (.l 4),.box (.agg DB [.d Br,.ts 72 EP]))],[],[]⟩),
  ([9],⟨[],[(6,.d .bool)],[.g (.l 1),.g (.l 2),.g (.l 3),.g (.l 4)],[(.g (.l 4),.box (.agg DB [.d Br,.ts 72 EP]))],[],[]⟩)])] (fun _ _ _=>yM)
section
variable {R:Type} {N:Nat}
def CJ:C:=.agg [.int 0,.int 1]
def bnd (rts:C) (yj:List C) (put yi ph un yh:C):C:=mkB (.int 7) CJ rts yj put yi ph un yh
def opP (l:List Ent) (x d:C) (w:Bool) (h:Int) (rts:C) (yj:List C) (put yi ph un yh:C):Int × Int × C × C:=
 if(x.get 0).toInt=0 then((HW (.int 7) CJ rts yj put yi ph un yh (x.get 1).toInt (x.get 2).toInt).1,0,(HW (.int 7) CJ rts yj put yi ph un yh (x.get 1).toInt (x.get 2).toInt).2,zz)
 else if(x.get 0).toInt=1 then((Ef (.int 7) CJ rts yj put yi ph un yh d w (x.get 1).toInt).2.1,(Ef (.int 7) CJ rts yj put yi ph un yh d w (x.get 1).toInt).1,(Ef (.int 7) CJ rts yj put yi ph un yh d w (x.get 1).toInt).2.2,zz)
 else if(x.get 0).toInt=2 then((HG (.int 7) CJ rts yj put yi ph un yh d w h).1,0,(HG (.int 7) CJ rts yj put yi ph un yh d w h).2,zz)
 else if(x.get 0).toInt=3 then((Hh (.int 7) CJ rts yj put yi ph un yh d w h).1,0,(Hh (.int 7) CJ rts yj put yi ph un yh d w h).2,zz)
 else((Ep (l.map CE) (.int 7) CJ rts yj put yi ph un yh h).1,0,(Ep (l.map CE) (.int 7) CJ rts yj put yi ph un yh h).2.1,(Ep (l.map CE) (.int 7) CJ rts yj put yi ph un yh h).2.2)
def Ke (pd out:C):C:=ct (ct pd 0 (.int (IntKind.u64.wrap ((pd.get 0).toInt+(out.get 0).toInt)))) 1 (.int (IntKind.u64.wrap (((ct pd 0 (.int (IntKind.u64.wrap ((pd.get 0).toInt+(out.get 0).toInt)))).get 1).toInt+(out.get 1).toInt)))
def Kf (x pd:C) (pay:Int):C:=if(x.get 0).toInt=1 then ct pd (x.get 1).toInt.toNat (.int (IntKind.u64.wrap ((pd.get (x.get 1).toInt.toNat).toInt+pay)))else pd
def YO (h n:Int):Int:=if 1125899906842624<IntKind.u64.wrap (h+if 1099511627776<n then 1099511627776 else n)then 1125899906842624 else IntKind.u64.wrap (h+if 1099511627776<n then 1099511627776 else n)
def z3x (h n:Int):W64 (YO h n):=by
 have m1:IntKind.u64.min=0:=by decide
 have:=wrap_within av (h+if 1099511627776<n then 1099511627776 else n);unfold YO;generalize IntKind.u64.wrap (h+if 1099511627776<n then 1099511627776 else n)=v at this ⊢;split;{exact⟨by decide,by decide⟩};{exact⟨by omega,by omega⟩}
def GL (m:Es):dm [m] 0=m:=rfl
section
variable {rts:C} {yj:List C} {put yi ph un yh:C}
def z0E (hr:NY rts) (h:BOk put yi ph un yh) (l:List Ent) (x:C) {d:C} (hd:StC (d.get 0)) (w:Bool) (t:Int) (hN:2199023255552<N):
  (∀k:KD R,GU N (opP l x d w t rts yj put yi ph un yh).2.2.1 k=k [(opP l x d w t rts yj put yi ph un yh).2.2.1] [])/\
  ∀k:KD R,Hb N (opP l x d w t rts yj put yi ph un yh).2.2.1 (opP l x d w t rts yj put yi ph un yh).2.2.1 k=k [.bool true] []:=by
 have key:∀c:C,(c=zB\/∃zu z51 ph' un' zv,c=mkB (.int 7) CJ rts yj zu z51 ph' un' zv/\BOk zu z51 ph' un' zv)->(∀k:KD R,GU N c k=k [c] [])/\∀k:KD R,Hb N c c k=k [.bool true] []:=by intro c hc;rcases hc with rfl|⟨zu,z51,ph',un',zv,rfl,hb⟩;{exact⟨fun k=>oO (by omega) k,fun k=>QX _ (by show(0:Nat)<_;omega) hN k⟩};{refine⟨fun k=>Ux _ _ _ _ _ _ _ _ _ hr hb.yh.b.e (by omega) k,fun k=>QX _ ?_ hN k⟩;have:=hb.yh.b.w.ln;show(zv.get 4).elems.length<_;omega}
 apply key;unfold opP;split;{rcases v3 (id:=.int 7) (who:=CJ) (rts:=rts) (yj:=yj) h (x.get 1).toInt (x.get 2).toInt with⟨_,p,h1,h2,_⟩|⟨_,h1⟩;{exact .inr ⟨_,_,_,_,_,h1,h2⟩};{exact .inl h1}};split;{rcases bF (id:=.int 7) (who:=CJ) (rts:=rts) (yj:=yj) h hd w (x.get 1).toInt with⟨_,_,_,_,h1,h2⟩|⟨_,h1,_⟩;{exact .inr ⟨_,_,_,_,_,h1,h2⟩};{exact .inl h1}};split;{rcases uY (id:=.int 7) (who:=CJ) (rts:=rts) (yj:=yj) h hd w t with⟨_,_,_,u,h1,h2⟩|⟨_,h1⟩;{exact .inr ⟨_,_,_,_,_,h1,h2⟩};{exact .inl h1}};split;{rcases q1M (id:=.int 7) (who:=CJ) (rts:=rts) (yj:=yj) h hd w t with⟨_,_,h1,h2⟩|⟨_,h1⟩;{exact .inr ⟨_,_,_,_,_,h1,h2⟩};{exact .inl h1}};{rcases tQ (id:=.int 7) (who:=CJ) (rts:=rts) (yj:=yj) h (l.map CE) t with⟨_,_,_,_,h1,_,h2⟩|⟨_,h1,_⟩;{exact .inr ⟨_,_,_,_,_,h1,h2⟩};{exact .inl h1}}
def z0F (h:BOk put yi ph un yh) (l:List Ent) (x:C) {d:C} (hd:StC (d.get 0)) (w:Bool) (t:Int) (hk:(x.get 0).toInt=1) (he:(opP l x d w t rts yj put yi ph un yh).1=0):0<=(x.get 1).toInt/\(x.get 1).toInt<2:=by unfold opP at he;rw[if_neg (by omega),if_pos hk]at he;rcases bF (id:=.int 7) (who:=CJ) (rts:=rts) (yj:=yj) h hd w (x.get 1).toInt with⟨_,h1,_⟩|⟨h1,_⟩;{omega};{exact absurd he h1}
def q5K (K T x:C) (hK:K.get 0=T) (hT:DH T) (d:C) (hd:Yy d) (hS:∀k:KD R,KC N K x k=k [d] []) (hx2:W64 (x.get 2).toInt) (hx5:Ao 32 (x.get 5))
  (h:BOk put yi ph un yh) (hr:ua (.slice 1 (.int .u8)) (.slice yj)) (hro:NY rts) (ht:rts.get 1= .int 2) (t:C) (ht1:t= .int t.toInt) (ht2:W64 t.toInt) (pd:C) (l:List Ent) (hl:l.length<=900) (a b:C)
  (hN:2199023255552<N) (hN2:N<4611686018427387904) (k:KD R):
  Om N K x (bnd rts yj put yi ph un yh) (bnd rts yj put yi ph un yh) t pd T (.slice (l.map DL)) a b (l.map CE) k=
   if(x.get 0).toInt=5 then k [.bool true,T,.slice (l.map DL),bnd rts yj put yi ph un yh,bnd rts yj put yi ph un yh,.int (YO t.toInt (x.get 2).toInt),pd] [l.map CE]
   else if(x.get 0).toInt<0\/5<(x.get 0).toInt then k [.bool true,T,.slice ((IX l (x.get 5) t.toInt).2.map DL),bnd rts yj put yi ph un yh,bnd rts yj put yi ph un yh,t,pd] [(IX l (x.get 5) t.toInt).2.map CE]
   else if(opP l x d (DD rts d 7) t.toInt rts yj put yi ph un yh).1=0 then
    k [.bool true,T,.slice (l.map DL),(opP l x d (DD rts d 7) t.toInt rts yj put yi ph un yh).2.2.1,(opP l x d (DD rts d 7) t.toInt rts yj put yi ph un yh).2.2.1,t,Ke (Kf x pd (opP l x d (DD rts d 7) t.toInt rts yj put yi ph un yh).2.1) (opP l x d (DD rts d 7) t.toInt rts yj put yi ph un yh).2.2.2] [l.map CE]
   else k [.bool true,T,.slice (l.map DL),bnd rts yj put yi ph un yh,bnd rts yj put yi ph un yh,t,pd] [l.map CE]:=by
 have t0:aq 0=0:=rfl;have t1:aq 1=1:=rfl;have hz:AJ (cq 2 (bn av))=zz:=rfl;have hrt:rts.get 1= .int (rts.get 1).toInt:=by rw[ht];rfl
 have hrl:(rts.get 1).toInt<=10:=by rw[ht];decide
 have hb:=h.yh;have hst:=hb.stn h.put.a h.put.b;have hds:=hd.s.stn h.put.a h.put.b;have hln:=hb.b.w.ln;have hcl:(AU yh).length<1099511627776:=by show(yh.get 4).elems.length<_;omega
 have hW:∀k:KD R,JQ N rts d (.int 7) k=k [.bool (DD rts d 7)] []:=fun k=>z5g rts d 7 hd.b hrt hrl (by omega) hN2 k;have hW2:∀k:KD R,Jg N T rts d (.int 7) k=k [.bool (DD rts d 7)] []:=fun k=>z33 T rts d hT 7 hd.b hrt hrl (by omega) k;have hTo:∀k:KD R,LC N d k=k [d] []:=fun k=>q8d d hd.b (by omega) k;have hbb:=Qd hb hd.s;rw[yM];unfold eF bnd;by_cases z5:(x.get 0).toInt=5;{rw[if_pos z5];simp only[AP,z5,show ¬(5:Int)=0 by decide,show ¬(5:Int)=1 by decide,show ¬(5:Int)=2 by decide,show ¬(5:Int)=3 by decide,show ¬(5:Int)=4 by decide,AE,Cu,Dn,AI];rfl};rw[if_neg z5];by_cases z6:(x.get 0).toInt<0\/5<(x.get 0).toInt
 ·have n0:¬(x.get 0).toInt=0:=by omega
  have n1:¬(x.get 0).toInt=1:=by omega
  have n2:¬(x.get 0).toInt=2:=by omega
  have n3:¬(x.get 0).toInt=3:=by omega
  have n4:¬(x.get 0).toInt=4:=by omega
  rw[if_pos z6];simp only[AP,n0,n1,n2,n3,n4,z5,AE,YD,Cu,Dn,AI,z4T (x.get 5) hx5 t _ _ ht1 l (show 5000<N by omega) hN2,z3P (x.get 5) hx5 t ht1 T hT l (show l.length<=1000 by omega) (show 5000<N by omega),AF,AK,AO,GL,AB]
 rw[if_neg z6];obtain⟨hF,hSa⟩:=z0E (R:=R) (N:=N) (yj:=yj) hro h l x hd.s (DD rts d 7) t.toInt hN;have hsd:=z0F (rts:=rts) (yj:=yj) h l x hd.s (DD rts d 7) t.toInt
 refine(Oh [x,.int (opP l x d (DD rts d 7) t.toInt rts yj put yi ph un yh).1,.int (opP l x d (DD rts d 7) t.toInt rts yj put yi ph un yh).1,.int (opP l x d (DD rts d 7) t.toInt rts yj put yi ph un yh).2.1,.int (opP l x d (DD rts d 7) t.toInt rts yj put yi ph un yh).2.1,T,.slice (l.map DL),
  mkB (.int 7) CJ rts yj put yi ph un yh,mkB (.int 7) CJ rts yj put yi ph un yh,t,pd,(opP l x d (DD rts d 7) t.toInt rts yj put yi ph un yh).2.2.1,(opP l x d (DD rts d 7) t.toInt rts yj put yi ph un yh).2.2.1,(opP l x d (DD rts d 7) t.toInt rts yj put yi ph un yh).2.2.2,(opP l x d (DD rts d 7) t.toInt rts yj put yi ph un yh).2.2.2] [l.map CE] fun K'=>?_).trans ?_
 ·unfold opP;by_cases z0:(x.get 0).toInt=0;{simp only[z0,decide_true,cond_true,if_true,q9J hb.b.e.eta,z3y (x.get 1) (x.get 2) h.put.a h.put.b hx2 (by rw[h.put.eta];rfl),AF,AK,Cu,Dn,AI,hz]};by_cases z1:(x.get 0).toInt=1;{simp only[AP,z1,show ¬(1:Int)=0 by decide,AE,hS,hTo,hK,q5M hW hb.b.e.eta hd.s.b.e.eta hN (x.get 1) h.yi.gi hbb.tk,z1r hW2 hds hN (x.get 1),AF,AK,AO,AV,Ac,Av,BW,Cm,DK,Ee,Fj,OA,OB,RB,RC,GL,Cu,Dn,AI,hz]};by_cases z2:(x.get 0).toInt=2;{simp only[AP,z2,show ¬(2:Int)=0 by decide,show ¬(2:Int)=1 by decide,AE,hS,hTo,hK,q6z hW hr hb.b.e.eta hd.s.b.e.eta (oM h.put hb).i hd.s.r hN t,z3p hW2 hds hr (oM h.put hbb) hN t ht2,AF,AK,AO,AV,Ac,Av,BW,Cm,DK,Ee,Fj,OA,OB,RB,RC,GL,Cu,Dn,AI,hz]};by_cases z3:(x.get 0).toInt=3;{simp only[AP,z3,show ¬(3:Int)=0 by decide,show ¬(3:Int)=1 by decide,show ¬(3:Int)=2 by decide,AE,hS,hTo,hK,z4b hW hb.b.e.eta hd.s.b.e.eta hN t,z3K hW2 hds hN t,AF,AK,AO,AV,Ac,Av,BW,Cm,DK,Ee,Fj,OA,OB,RB,RC,GL,Cu,Dn,AI,hz]};have z4:(x.get 0).toInt=4:=by omega
  simp only[AP,z4,show ¬(4:Int)=0 by decide,show ¬(4:Int)=1 by decide,show ¬(4:Int)=2 by decide,show ¬(4:Int)=3 by decide,AE,q6r hb.b.e.eta hcl (l.map CE) t du hN,z3g hst h.yi.gi hcl l (show l.length<=1000 by omega) T t hN,AF,AK,AO,AV,Ac,Av,BW,Cm,DK,Ee,Fj,OA,OB,RB,RC,GL,YD,Cu,Dn,AI,hz]
 ·generalize hop:opP l x d (DD rts d 7) t.toInt rts yj put yi ph un yh=r at hF hSa hsd ⊢;obtain⟨e,pay,c,out⟩:=r;dsimp only at hF hSa hsd ⊢;rw[AP];simp only[AF,AK,AO,AV,Ac,Av,BW,Cm,DK,Ee,Fj,OA,OB,RB,RC,AB,AI,GL,AE,q3M,hF,hSa,Ag,Cu,Dn];by_cases he:e=0;{rw[if_pos he];by_cases z1:(x.get 0).toInt=1;{have hs2:=hsd z1 he;unfold Ke Kf;simp only[AP,he,z1,hs2,AE,and_self,AF,AK,AO,AV,Ac,Av,BW,AI,GL,Cu,Dn,t0,t1,AB]};{unfold Ke Kf;simp only[AP,he,z1,AE,AF,AK,AO,AV,Ac,Av,BW,AI,GL,Cu,Dn,t0,t1,AB]}};{rw[if_neg he];simp only[AP,he,AE,AF,AK,AO,AV,Ac,Av,AI,GL,Cu,Dn]}
end
end
def yG {R:Type} (N:Nat) (a0:C) (k1:KD R):Option R:=if ja 0<=2/\2<(↑(ak (ao (ax (ax a0 2) (aq 0)))):Int)then(if ja 0<=0/\0<(↑(ak (ao (bj (ao (ax (ax a0 2) (aq 0))) (aq 2) du))):Int)then(if ja 0<=2/\2<(↑(ak (ao (ax (ax a0 2) (aq 1)))):Int)then(if ja 0<=0/\0<(↑(ak (ao (bj (ao (ax (ax a0 2) (aq 1))) (aq 2) du))):Int)then(k1 [ct (ct (dh [dh [dh (ay 32 (aw 0)),dh (ay 32 (aw 0))],aw 0]) 0 (ct (ct (AJ (cq 2 (cq 32 (bn bp)))) 0 (bj (ao (bj (ao (ax (ax a0 2) (aq 0))) (aq 2) du)) (aq 0) du)) 1 (bj (ao (bj (ao (ax (ax a0 2) (aq 1))) (aq 2) du)) (aq 0) du))) 1 (aw 2)] [])else none)else none)else none)else none
def Oj:=lid "" (@yG R N)
def yH {R N a0 k}:@Oj R N a0 k=yG N a0 k:=by unfold Oj;rw[AW]
def q8m:OvG R:=Af [NG] (Bs (Oj N)) (BD Gu)
def q8n:okX 10 (@q8m R N):=Ai AZ N [(10,[(0,[(1,5)])])] [(10,[([9],⟨[],[(2,.as (.ptr (.l 2) [] Gu))],[],[(.l 2,.box (.d Gu))],[],[]⟩)])] (fun _ _=>yH)
def xZ {R:Type} (N:Nat) (a0:C) (k1:KD R):Option R:=k1 [ct (ct (dh [dh [dh (ay 32 (aw 0)),dh (ay 32 (aw 0))],aw 0]) 0 (ct (ct (AJ (cq 2 (cq 32 (bn bp)))) 0 (ax (ax a0 0) (aq 0))) 1 (ax (ax a0 0) (aq 1)))) 1 (ax a0 1)] []
def Rx:=lid "" (@xZ R N)
def yA {R N a0 k}:@Rx R N a0 k=xZ N a0 k:=by unfold Rx;rw[AW]
def q8e:OvG R:=Af [Gu] (Bs (Rx N)) (BD Gu)
def q8f:okX 9 (@q8e R N):=Ai AZ N [(9,[(0,[(1,5)])])] [(9,[([9],⟨[],[(2,.as (.ptr (.l 2) [] Gu))],[],[(.l 2,.box (.d Gu))],[],[]⟩)])] (fun _ _=>yA)
def lJ {R:Type} (N:Nat) (a0 a1 a2 a3:C) (k1:KD R):Option R:=jn (fun d1 m1=>(bif cz (dk d1 4)then(k1 [aw 1,BG] [])else(bif !decide (Cv (ao (dk d1 1))=0)then(k1 [aw (Cv (ao (dk d1 1))),BG] [])else(k1 [aw 0,dh [dk d1 0,dk d1 2,dk d1 3,dk d1 1,AJ (cq 2 (bn av)),AJ (cq 2 (bn av)),AJ (bn ar),AJ (bn av),dh [dk d1 0,AJ (bn av),AJ (cq 2 (bn av)),AJ (cq 2 (bn av)),bc []]]] [])))) (fun k2=>(bif decide (aj (ax a1 (aq 0))=aj (ax a1 (aq 1)))then(k2 [a0,a3,a1,a2,cd true,BG] [])else(bif decide (aj (ax a2 1)<0)then(k2 [a0,a3,a1,a2,cd true,BG] [])else(k2 [a0,a3,a1,a2,cd (decide (8<aj (ax a2 1))),BG] []))))
def UD:=lid "" (@lJ R N)
def q0S {R N a0 a1 a2 a3 k}:@UD R N a0 a1 a2 a3 k=lJ N a0 a1 a2 a3 k:=by unfold UD;rw[AW]
def z24:OvG R:=Af [.int .u32,.arr 2 (.int .i64),Gu,.slice 1 (.int .u8)] (fun a=>UD N (a 0) (a 1) (a 2) (a 3)) fun a K d1 m1=>K (V.tup [V.d Az (dk d1 1),V.d (bn ar) (dk d1 0)]) []
def z25:okX 19 (@z24 R N):=Ai (AH (z2j N) <| AZ) N [(19,[(0,[(5,5),(6,5)])])] [(19,[([0,0,1],(AY [0,3,5,6,8] [(25,.d .bool)])),
  ([9],⟨[],[(8,.as (.ptr (.l 8) [] Az)),(9,.d (.int .i64))],[],[(.l 8,.box (.d Az))],[],[]⟩)])] (fun _ _=>q0S)
def Zj (a0 a1 a2 a3:C) (k1:KD R):Option R:=jn (fun d1 m1=>(bif cz (dk d1 4)then(k1 [aw 1,BG] [])else(bif !decide (Cv (ao (dk d1 1))=0)then(k1 [aw (Cv (ao (dk d1 1))),BG] [])else(PN N (dk d1 0) (fun d2 m2=>(bif Nat.beq (ak (ao (dk d1 1))) (ak (ao (dk d1 1)))&&true then(k1 [aw 0,dh [dk d1 0,dk d1 2,dk d1 3,bc (ao (dk d1 1)),AJ (cq 2 (bn av)),AJ (cq 2 (bn av)),AJ (bn ar),AJ (bn av),dk d2 0]] [])else none)))))) (fun k2=>(bif decide (aj (ax a1 (aq 0))=aj (ax a1 (aq 1)))then(k2 [a0,a3,a1,a2,cd true,BG] [])else(bif decide (aj (ax a2 1)<0)then(k2 [a0,a3,a1,a2,cd true,BG] [])else(k2 [a0,a3,a1,a2,cd (decide (8<aj (ax a2 1))),BG] []))))
def Qk:=lid "" (@Zj R N)
def qO {R N a0 a1 a2 a3 k}:@Qk R N a0 a1 a2 a3 k=Zj N a0 a1 a2 a3 k:=by unfold Qk;rw[AW]
def q39:OvG R:=Af [.int .u32,.arr 2 (.int .i64),Gu,.slice 1 (.int .u8)] (fun a=>Qk N (a 0) (a 1) (a 2) (a 3)) fun a K d1 m1=>K (V.tup [V.d Az (dk d1 1),V.d (bn ar) (dk d1 0)]) []
def q4a:okX 8 (@q39 R N):=Ai (AH (q4s N) <| AH (Zt N) <| AH (X3 N) <| AZ) N [(8,[(0,[(5,5),(6,5)]),(6,[(39,7)])])] [(8,[([0,0,1],(AY [0,3,5,6,8] [(25,.d .bool)])),
  ([9],⟨[],[(8,.as (.ptr (.l 8) [] Az)),(9,.d (.int .i64))],[],[(.l 8,.box (.d Az))],[],[]⟩)])] (fun _ _=>qO)
def eE {R:Type} (N:Nat) (k1:KD R):Option R:=jn (fun d1 m1=>(k1 [cd (cz (dk d1 0))] [])) (fun k2=>(k2 [cd true] []))
def Ol:=lid "" (@eE R N)
def yJ {R N k}:@Ol R N k=eE N k:=by unfold Ol;rw[AW]
def q8s:OvG R:=Af [] (fun a=>Ol N) Ev
def q8t:okX 6 (@q8s R N):=rQ (AH (Zt N) <| AH (rC N) <| AZ) N 3000 20 [(8,[(0,[(5,5),(6,5)])]),(12,[(0,[(4,5)])]),(39,[(0,[(2,5),(3,5)])]),(65,[(0,[(3,5),(4,5)])]),(90,[(0,[(2,5),(3,5)])]),(91,[(0,[(4,5),(6,5),(7,5)])]),(112,[(0,[(5,5),(6,5),(9,5)])]),(135,[(0,[(2,5),(3,5)])]),(145,[(0,[(2,5)])]),(146,[(0,[(1,5)]),(2,[(8,100)])]),(106,[(2,[(5,16)]),(6,[(5,16)]),(8,[(5,16)])]),(131,[(4,[(0,16)])]),(144,[(5,[(0,16)])]),(132,[(1,[(14,4)])]),(133,[(7,[(27,100),(3,16)]),(8,[(3,16)])]),(147,[(0,[(1,5)])]),(136,[(0,[(2,5),(3,5)])]),(114,[(0,[(1,5)]),(1,[(7,1),(9,1)])]),(137,[(4,[(16,1)])]),(138,[(0,[(3,5)]),(1,[(11,1),(27,1),(33,1)]),(5,[(43,1)])]),(149,[(4,[(15,1)])]),(151,[(0,[(3,5)]),(1,[(9,1),(14,1),(18,1),(22,1),(26,1)])]),(66,[(0,[(2,5),(3,5)])]),(84,[(0,[(3,5),(4,5)])]),(108,[(0,[(2,5)])]),(93,[(0,[(2,5)])]),(116,[(0,[(2,5)])]),(40,[(0,[(3,5)])]),(41,[(0,[(1,5)])]),(67,[(0,[(4,5)])]),(95,[(0,[(4,5)])]),(29,[(20,[(12,6),(3,6)])]),(83,[(0,[(4,5)])]),(107,[(0,[(4,5)])]),(134,[(0,[(3,5)])]),(58,[(0,[(4,5),(5,5),(6,5)]),(14,[(61,4)]),(18,[(19,6)])])] [(6,[([0,1,1,1,1,1],(Ah [(0,.d .bool)])),
  ([9],(Ah [(0,.d .bool)]))])] (fun _ _=>yJ)
def yK {R:Type} (N:Nat) (a0:C) (k1:KD R):Option R:=k1 [cd (decide ((↑(ak (ao (ax (ax a0 3) 4))):Int)<=12))] []
def SC:=lid "" (@yK R N)
def yL {R N a0 k}:@SC R N a0 k=yK N a0 k:=by unfold SC;rw[AW]
def q8u:OvG R:=Af [IW] (Bs (SC N)) Ev
def q8v:okX 20 (@q8u R N):=Ai AZ N [(20,[(0,[(1,5)])])] [(20,[([9],(Ah [(2,.d .bool)]))])] (fun _ _=>yL)
section
variable {R:Type} {N:Nat}
def Rk (T a b:C) (a0 a1 a2 b0 b1 b2:List C):C:=.agg [T,.agg [a,b],.agg [.slice [.slice a0,.slice a1,.slice a2],.slice [.slice b0,.slice b1,.slice b2]]]
def q8Y (a b:C) (ha:Ao 32 a) (hb:Ao 32 b) (hN:20000<N):∃(T:C) (a0 a1 a2 b0 b1 b2:List C),DH T/\((a0.length=4/\a1.length=2/\a2.length=1)/\(∀y∈a0,Ao 32 y)/\∀y∈a1,Ao 32 y)/\((b0.length=4/\b1.length=2/\b2.length=1)/\(∀y∈b0,Ao 32 y)/\∀y∈b1,Ao 32 y)/\
  ∀k:KD R,SB N a b k=k [Rk T a b a0 a1 a2 b0 b1 b2] []:=by
 obtain⟨T,hT,h0⟩:=q8Z (R:=R) (N:=N) (fun _ _=>none);obtain⟨a0,a1,a2,e,⟨e0,e1,_⟩,h1⟩:=J2 (R:=R) (N:=N) hT a ha hN;obtain⟨b0,b1,b2,f,⟨f0,f1,_⟩,h2⟩:=J2 (R:=R) (N:=N) hT b hb hN;refine⟨T,a0,a1,a2,b0,b1,b2,hT,⟨e,e0,e1⟩,⟨f,f0,f1⟩,fun k=>?_⟩;rw[yI];unfold eD;simp only[h0,AP,AF,AK,h1,h2,AI,br,cond_true];rfl
def z3D (T a b:C) (a0 a1 a2 b0 b1 b2:List C) (ha:a2.length=1) (hb:b2.length=1):∃x y:C,∀k:KD R,Oj N (Rk T a b a0 a1 a2 b0 b1 b2) k=k [.agg [.agg [x,y],.int 2]] []:=by
 obtain⟨x,rfl⟩:∃x,a2=[x]:=by
  match a2,ha with
  | [x],_=>exact⟨x,rfl⟩
 obtain⟨y,rfl⟩:∃y,b2=[y]:=by
  match b2,hb with
  | [y],_=>exact⟨y,rfl⟩
 refine⟨x,y,fun k=>?_⟩;rw[yH];rfl
def z3C (x y:C) (k:KD R):Rx N (.agg [.agg [x,y],.int 2]) k=k [.agg [.agg [x,y],.int 2]] []:=by rw[yA];rfl
def Nk (rts:C) (yj:List C):C:=bnd rts yj zz zz (.int 0) (.int 0) (stZ 7)
def z5f:ct (ct (AJ (cq 2 (bn ar))) 0 (aw 0)) 1 (aw 1)=CJ:=rfl
def q9P (x y:C) (yj:List C) (k:KD R):Qk N (.int 7) CJ (.agg [.agg [x,y],.int 2]) (.slice yj) k=
  k [.int (Cv yj),if Cv yj=0 then Nk (.agg [.agg [x,y],.int 2]) yj else zB] []:=by
 have e1:(CJ.get (aq 0)).toInt=0:=rfl;have e2:(CJ.get (aq 1)).toInt=1:=rfl;have d1:((0:Int)=1)=False:=by simp
 have d0:((dh [.agg [x,y],.int 2]).get 1).toInt=2:=rfl;have d2:¬(2:Int)<0:=by decide
 have d3:¬(8:Int)<2:=by decide
 rw[qO];unfold Zj;rw[GC];simp only[e1,e2,d0,d1,d2,d3,AP,AE,AF,AK,AO,AV,Ac,Ag,X2,AI,br,Bool.and_true];by_cases h:Cv yj=0;{simp only[h,AE];rfl};{simp only[h,AE]}
def z3A (x y:C) (yj:List C) (k:KD R):UD N (.int 7) CJ (.agg [.agg [x,y],.int 2]) (.slice yj) k=
  k [.int (Cv yj),if Cv yj=0 then Nk (.agg [.agg [x,y],.int 2]) yj else zB] []:=by
 have e1:(CJ.get (aq 0)).toInt=0:=rfl;have e2:(CJ.get (aq 1)).toInt=1:=rfl;have d1:((0:Int)=1)=False:=by simp
 have d0:((dh [.agg [x,y],.int 2]).get 1).toInt=2:=rfl;have d2:¬(2:Int)<0:=by decide
 have d3:¬(8:Int)<2:=by decide
 rw[q0S];unfold lJ;rw[GC];simp only[e1,e2,d0,d1,d2,d3,AP,AE,AF,AK,AO,AV,Ac,Ag,AI];by_cases h:Cv yj=0;{simp only[h,AE];rfl};{simp only[h,AE]}
def pW (k:KD R):Ol N k=k [.bool true] []:=by rw[yJ];unfold eE;simp only[AP,AF,Ag]
def vH (x:C) (k:KD R):SC N x k=k [.bool (decide (((((x.get 3).get 4).elems.length:Nat):Int)<=12))] []:=by rw[yL];rfl
structure PS where
 i:Nat
 l:List Ent
 put:C
 yi:C
 ph:C
 un:C
 yh:C
 h:Int
 pd:C
structure q3j (s:PS):Prop where
 b:BOk s.put s.yi s.ph s.un s.yh
 h:W64 s.h
 l:s.l.length<=s.i
structure oS (x:C):Prop where
 n:W64 (x.get 2).toInt
 s:Ao 32 (x.get 5)
section
variable {rts:C} {yj:List C}
def z4D {x} (h:ua IW x):oS x:=⟨(Lt (C.Gx (i:=2) h rfl)).1,Qm (C.Gx (i:=5) (f:=.arr 32 (.int .u8)) h rfl)⟩
end
end
def BZ:List C->Int
 | []=>0|c::l=>c.toInt+BZ l
def Yd:∀l m:List C,BZ (l++m)=BZ l+BZ m
 | [],m=>by simp[BZ]
 |c::l,m=>by simp only[List.cons_append,BZ,Yd l m];omega
def Ui:∀l:List C,(∀c∈l,W64 c.toInt)->0<=BZ l
 | [],_=>gu 0|c::l,h=>by have h1:=(h c fl).1;have h2:=Ui l fun d hd=>h d (ez _ hd);simp only[BZ];omega
def q3r {a b:Int} (h:(Ap a b).2=0):(Ap a b).1=a+b/\0<=a+b/\a+b<18446744073709551616:=by obtain⟨h1,h2⟩:=ZJ (a:=a) (b:=b) (by simp[h]);rw[h2];omega
def oZ:∀(l:List C) (i:Nat) (s:Int),match Ax Gh i s l with| .inl r=>r=s+BZ l/\(l≠[]->0<=r/\r<18446744073709551616)| .inr e=>e≠0
 | [],i,s=>⟨by simp[BZ],fun h=>absurd rfl h⟩|c::l,i,s=>by simp only[Ax,Gh];by_cases h:(Ap s c.toInt).2=0;{obtain⟨a1,a2,a3⟩:=q3r h;rw[if_pos h,a1];have ih:=oZ l (i+1) (s+c.toInt);dsimp only;split at ih;{rename_i r hr;refine⟨by rw[ih.1];simp only[BZ];omega,fun _=>?_⟩;by_cases hl:l=[];{subst hl;simp only[BZ]at ih;omega};{exact ih.2 hl}};{exact ih}};{rw[if_neg h];exact h}
def Ye {l} (h:(CM l).2=0):(CM l).1=BZ l/\(l≠[]->0<=BZ l/\BZ l<18446744073709551616):=by
 unfold CM at h ⊢;have:=oZ l 0 0;split at this
 ·rename_i r hr;rw[hr];obtain⟨h1,h2⟩:=this;have e:r=BZ l:=by omega
  exact⟨e,fun hl=>by rw[<-e];exact h2 hl⟩
 ·rename_i e he;rw[he]at h;exact absurd h this
def nE {a b:Int} (ha:W64 a) (hb:W64 b) (h:(BT a b).2=0):(BT a b).1=a-b/\0<=a-b:=by
 have w:∀x:Int,IntKind.u64.wrap x=x%18446744073709551616:=fun x=>by simp[al,jc,ig]
 unfold BT at h ⊢;split;{rename_i h1;rw[if_pos h1]at h;simp at h};{rename_i h1;have:=ha.2;have:=hb.1;exact⟨by show IntKind.u64.wrap (a-b)=_;rw[w];omega,by omega⟩}
def q19:∀(l:List C) (i:Nat) (s:Int),W64 s->(∀c∈l,W64 c.toInt)->match Ax JB i s l with| .inl r=>r=s-BZ l/\W64 r| .inr e=>e≠0
 | [],i,s,hs,_=>⟨by simp[BZ],hs⟩|c::l,i,s,hs,hl=>by simp only[Ax,JB];have hc:=hl c fl;by_cases h:(BT s c.toInt).2=0;{obtain⟨a1,a2⟩:=nE hs hc h;rw[if_pos h,a1];have ih:=q19 l (i+1) (s-c.toInt) ⟨a2,by have:=hs.2;have:=hc.1;omega⟩ fun d hd=>hl d (ez _ hd);dsimp only;split at ih;{exact⟨by rw[ih.1];simp only[BZ];omega,ih.2⟩};{exact ih}};{rw[if_neg h];exact h}
def dD {s} (h:StC s) (side:Int):∀c∈DW side (AU s),W64 c.toInt:=by intro c hc;unfold DW at hc;obtain⟨d,hd,rfl⟩:=List.mem_map.1 hc;exact(h.b.w.cs d (List.mem_filter.1 hd).1).am
def WA {s put:C} (hs:StC s) (hp:DE put) {i:Nat} (hi:i<2) (h:(Bw s put i).2=0):
  (Bw s put i).1=(put.get i).toInt+((s.get 2).get (1-i)).toInt-((s.get 2).get i).toInt-((s.get 3).get i).toInt-BZ (DW i (AU s))/\W64 (Bw s put i).1:=by
 have e1:((i:Int)).toNat=i:=bf i;have e2:(1-(i:Int)).toNat=1-i:=by omega
 have hn:=dD hs (i:Int);have c1:¬((i:Int)≠0/\(i:Int)≠1):=by omega
 unfold Bw at h ⊢;rw[if_neg c1]at h ⊢;rw[e1,e2]at h ⊢;by_cases a1:(EW s (i:Int)).2=0
 case neg=>rw[if_pos a1]at h;exact absurd h a1
 rw[if_neg (by simp[a1])]at h ⊢;by_cases a2:(CM [put.get i,(s.get 2).get (1-i)]).2=0
 case neg=>rw[if_pos a2]at h;exact absurd h a2
 rw[if_neg (by simp[a2])]at h ⊢;obtain⟨b1,b2⟩:=Ye (l:=DW i (AU s)) a1;obtain⟨b3,b4⟩:=Ye a2;have b5:=b4 (by simp);have hh:W64 (EW s (i:Int)).1:=by unfold EW;rw[b1];by_cases hl:DW i (AU s)=[];{rw[hl];exact⟨by decide,by decide⟩};{exact⟨(b2 hl).1,(b2 hl).2⟩}
 have hm:W64 ((s.get 2).get i).toInt/\W64 ((s.get 3).get i).toInt:=by rcases(by omega:i=0\/i=1)with rfl|rfl;{exact⟨hs.b.w.p0,hs.b.w.q0⟩};{exact⟨hs.b.w.p1,hs.b.w.q1⟩}
 have hr:=q19 [(s.get 2).get i,(s.get 3).get i,.int (EW s (i:Int)).1] 0 (CM [put.get i,(s.get 2).get (1-i)]).1 (by rw[b3];exact⟨b5.1,b5.2⟩) (by
  intro c hc;simp only[fz,ic,or_false]at hc;rcases hc with rfl|rfl|rfl;{exact hm.1};{exact hm.2}
  ·exact hh)
 split at hr;{rename_i r he;rw[he];refine⟨?_,hr.2⟩;show r=_;rw[hr.1,b3];have:(aw (EW s (i:Int)).1).toInt=BZ (DW i (AU s)):=b1;simp only[BZ,this];omega};{rename_i e he;rw[he]at h;exact absurd h hr}
def q1Y {s put} (h:ED s put=0):(Bw s put 0).2=0/\(Bw s put 1).2=0/\∀c∈AU s,(c.get 1).toInt=0\/(c.get 1).toInt=1:=by
 have cs:∀(l:List C) (i:Nat),match Ax (Hj s) i () l with| .inl _=>∀c∈l,(c.get 1).toInt=0\/(c.get 1).toInt=1| .inr e=>e≠0:=by
  intro l
  induction l with
  |nil=>intro i c hc;exact absurd hc ic|cons c l ih=>
   intro i;simp only[Ax,Hj];by_cases h1:((c.get 1).toInt≠0/\(c.get 1).toInt≠1)\/(c.get 2).toInt=0;{rw[if_pos h1];exact(show(1:Int)≠0 by decide)};{rw[if_neg h1];by_cases h2:Fm s (c.get 0).toInt=i;{rw[if_pos h2];dsimp only;have:=ih (i+1);split at this;{intro d hd;rcases fz.1 hd with rfl|hd;{omega};{exact this d hd}};{exact this}};{rw[if_neg h2];exact(show(7:Int)≠0 by decide)}}
 unfold ED at h;split at h;{simp at h};have:=cs (AU s) 0;split at this;{rename_i u hu;rw[hu]at h;simp only[Ax,Hv]at h;by_cases a:(Bw s put 0).2=0;{rw[if_pos a]at h;dsimp only at h;by_cases b:(Bw s put 1).2=0;{exact⟨a,b,this⟩};{rw[if_neg b]at h;exact absurd h b}};{rw[if_neg a]at h;exact absurd h a}};{rename_i e he;rw[he]at h;exact absurd h this}
def wP:∀l:List C,(∀c∈l,(c.get 1).toInt=0\/(c.get 1).toInt=1)->BZ (DW 0 l)+BZ (DW 1 l)=BZ (l.map fun c=>c.get 2)
 | [],_=>rfl|c::l,h=>by have ih:=wP l fun d hd=>h d (ez _ hd);unfold DW at ih ⊢;rcases h c fl with e|e;{simp only[vz,e,AE,dy,BZ,show ¬(0:Int)=1 by decide,fe];omega};{simp only[vz,e,AE,dy,BZ,show ¬(1:Int)=0 by decide,fe];omega}
def z4u {s put:C} (hs:StC s) (hp:DE put) (h:ED s put=0):((s.get 3).get 0).toInt+((s.get 3).get 1).toInt<=tot put:=by obtain⟨h0,h1,_⟩:=q1Y h;have f0:=WA hs hp (i:=0) (by decide) h0;have f1:=WA hs hp (i:=1) (by decide) h1;have p0:=Ui _ (dD hs ((0:Nat):Int));have p1:=Ui _ (dD hs ((1:Nat):Int));have a:=f0.2.1;have b:=f1.2.1;rw[f0.1]at a;rw[f1.1]at b;unfold tot;simp only[Nat.sub_zero,Nat.sub_self]at a b;omega
def q12 (done:List C):∀(l:List C) (j:Nat) (a b:List C),(∀c∈l,(c.get 1).toInt=0\/(c.get 1).toInt=1)->BZ (JZ (Ax (Gt done 0) j a l))+BZ (JZ (Ax (Gt done 1) j b l))=BZ a+BZ b+BZ (l.map fun c=>c.get 2)
 | [],_,a,b,_=>by simp[Ax,JZ,BZ]
 |c::l,j,a,b,h=>by simp only[Ax,Gt];rw[q12 done l (j+1) _ _ fun d hd=>h d (ez _ hd)];have hc:=h c fl;rcases hc with e|e <;> cases(done.getD j .nil).toBool <;> simp[e,Yd,BZ] <;> omega
def z4x {s put yi:C} (hs:StC s) (hp:DE put) (hq:DE yi) {done} (h:(Ci s put yi done).1=0):
  DE (Ci s put yi done).2/\((Ci s put yi done).2.get 0).toInt+((Ci s put yi done).2.get 1).toInt+(yi.get 0).toInt+(yi.get 1).toInt=tot put:=by
 unfold Ci at h ⊢;by_cases a1:ED s put=0
 case neg=>rw[if_pos a1]at h;exact absurd h a1
 rw[if_neg (by simp[a1])]at h ⊢;by_cases a2:done.length=(AU s).length
 case neg=>rw[if_pos a2]at h;simp at h
 rw[if_neg (by simp[a2])]at h ⊢;obtain⟨h0,h1,hc⟩:=q1Y a1;have f0:=WA hs hp (i:=0) (by decide) h0;have f1:=WA hs hp (i:=1) (by decide) h1;have hb:=wP (AU s) hc;simp only[Ax,Le]at h ⊢;by_cases b1:(BT ((s.get 3).get 0).toInt (yi.get 0).toInt).2=0
 case neg=>rw[if_pos b1]at h;exact absurd h b1
 obtain⟨c1,_⟩:=nE hs.b.w.q0 hq.a b1;rw[if_neg (by simp[b1])]at h ⊢;generalize hx:JA done ((0:Nat):Int) [.int (Bw s put ((0:Nat):Int)).1,.int (BT ((s.get 3).get 0).toInt (yi.get 0).toInt).1] (AU s)=x at h ⊢;by_cases b2:(CM x).2=0
 case neg=>rw[if_pos b2]at h;exact absurd h b2
 rw[if_neg (by simp[b2])]at h ⊢;dsimp only at h ⊢;by_cases b3:(BT ((s.get 3).get 1).toInt (yi.get 1).toInt).2=0
 case neg=>rw[if_pos b3]at h;exact absurd h b3
 obtain⟨c3,_⟩:=nE hs.b.w.q1 hq.b b3;rw[if_neg (by simp[b3])]at h ⊢;generalize hy:JA done ((1:Nat):Int) [.int (Bw s put ((1:Nat):Int)).1,.int (BT ((s.get 3).get 1).toInt (yi.get 1).toInt).1] (AU s)=y at h ⊢;by_cases b4:(CM y).2=0
 case neg=>rw[if_pos b4]at h;exact absurd h b4
 rw[if_neg (by simp[b4])];obtain⟨d1,d2⟩:=Ye b2;obtain⟨d3,d4⟩:=Ye b4;have both:=q12 done (AU s) 0 [.int (Bw s put ((0:Nat):Int)).1,.int (BT ((s.get 3).get 0).toInt (yi.get 0).toInt).1] [.int (Bw s put ((1:Nat):Int)).1,.int (BT ((s.get 3).get 1).toInt (yi.get 1).toInt).1] hc;have ex:JZ (Ax (Gt done 0) 0 [.int (Bw s put ((0:Nat):Int)).1,.int (BT ((s.get 3).get 0).toInt (yi.get 0).toInt).1] (AU s))=x:=hx;have ey:JZ (Ax (Gt done 1) 0 [.int (Bw s put ((1:Nat):Int)).1,.int (BT ((s.get 3).get 1).toInt (yi.get 1).toInt).1] (AU s))=y:=hy;rw[ex,ey,c1,c3]at both;have wx:W64 (CM x).1:=by rw[d1];by_cases hl:x=[];{rw[hl];exact⟨by decide,by decide⟩};{exact⟨(d2 hl).1,(d2 hl).2⟩}
 have wy:W64 (CM y).1:=by rw[d3];by_cases hl:y=[];{rw[hl];exact⟨by decide,by decide⟩};{exact⟨(d4 hl).1,(d4 hl).2⟩}
 refine⟨⟨rfl,wx,wy⟩,?_⟩;show(CM x).1+(CM y).1+_+_=_;rw[d1,d3];have g0:=f0.1;have g1:=f1.1;simp only[BZ,Nat.sub_zero,Nat.sub_self]at both g0 g1;have i0:∀z:Int,(aw z).toInt=z:=fun _=>rfl;simp only[i0]at both;have hz0:((0:Nat):Int)=0:=rfl;have hz1:((1:Nat):Int)=1:=rfl;rw[hz0]at g0 both;rw[hz1]at g1 both;unfold tot;omega
section
variable {R:Type} {N:Nat}
def tk (s:C) (i:Nat):Int:=((s.get 3).get i).toInt
structure VA (put yi ph yh pd:C):Prop where
 tt:tot put<18446744073709551616
 hph:ph.toInt=0\/ph.toInt=1\/ph.toInt=2
 hpd:DE pd
 run:ph.toInt≠2->(pd.get 0).toInt=(yi.get 0).toInt/\(pd.get 1).toInt=(yi.get 1).toInt/\(yi.get 0).toInt<=tk yh 0/\(yi.get 1).toInt<=tk yh 1/\tk yh 0+tk yh 1<=tot put
 shut:ph.toInt=2->(pd.get 0).toInt+(pd.get 1).toInt=tot put
def oD (x:Int):IntKind.u64.wrap x=x%18446744073709551616:=by simp[al,jc,ig]
def q2R {x:Int} (h:W64 x):IntKind.u64.wrap x=x:=by rw[oD];have:=h.1;have:=h.2;omega
def pB {pd out:C} (h:DE pd) (ho:DE out) (h0:(pd.get 0).toInt+(out.get 0).toInt<18446744073709551616) (h1:(pd.get 1).toInt+(out.get 1).toInt<18446744073709551616):
  Ke pd out= .agg [.int ((pd.get 0).toInt+(out.get 0).toInt),.int ((pd.get 1).toInt+(out.get 1).toInt)]:=by
 have a:=h.a.1;have b:=h.b.1;have c:=ho.a.1;have d:=ho.b.1;unfold Ke;rw[q2R (x:=(pd.get 0).toInt+(out.get 0).toInt) ⟨by omega,h0⟩];have e:∀v:Int,ct pd 0 (.int v)= .agg [.int v,.int (pd.get 1).toInt]:=fun v=>by
  conv=>lhs;rw[h.eta]
  rfl
 rw[e];show dh [.int ((pd.get 0).toInt+(out.get 0).toInt),.int (IntKind.u64.wrap ((pd.get 1).toInt+(out.get 1).toInt))]=_;rw[q2R (x:=(pd.get 1).toInt+(out.get 1).toInt) ⟨by omega,h1⟩]
def q3c:DE zz:=⟨rfl,⟨by decide,by decide⟩,⟨by decide,by decide⟩⟩
def VD {pd} (h:DE pd):Ke pd zz=pd:=by have z0:(zz.get 0).toInt=0:=rfl;have z1:(zz.get 1).toInt=0:=rfl;rw[pB h q3c (by rw[z0];have:=h.a.2;omega) (by rw[z1];have:=h.b.2;omega),z0,z1,Int.add_zero,Int.add_zero];exact h.eta.symm
section
variable {put yi ph un yh:C}
def Wn {d:C} {w:Bool} (h:EB ph put yi yh d w=0):ph.toInt≠2/\ED (d.get 0) put=0/\((yh.get 1).toInt<((d.get 0).get 1).toInt->(yi.get 0).toInt<=tk (d.get 0) 0/\(yi.get 1).toInt<=tk (d.get 0) 1):=by
 unfold EB at h;by_cases a:ph.toInt=2;{rw[if_pos a]at h;simp at h};rw[if_neg a]at h;cases w;{simp at h};rw[if_neg (by simp)]at h;by_cases b:ED (d.get 0) put=0
 case neg=>rw[if_pos b]at h;exact absurd h b
 rw[if_neg (by simp[b])]at h;refine⟨a,b,fun hr=>?_⟩;simp only[Ax,KN]at h;unfold tk;by_cases c0:((((d.get 0).get 3).get 0).toInt<(yi.get 0).toInt);{rw[if_pos ⟨hr,c0⟩]at h;simp[okE]at h};rw[if_neg (fun x=>c0 x.2)]at h;dsimp only at h;by_cases c1:((((d.get 0).get 3).get 1).toInt<(yi.get 1).toInt);{rw[if_pos ⟨hr,c1⟩]at h;simp[okE]at h};omega
def ZU {d:C} {w:Bool} (hd:StC (d.get 0)) (hp:DE put) (hl:EB ph put yi yh d w=0) (h0:(yi.get 0).toInt<=tk yh 0) (h1:(yi.get 1).toInt<=tk yh 1) (ht:tk yh 0+tk yh 1<=tot put):
  (yh.get 1).toInt<=((BL yh d).get 1).toInt/\(yi.get 0).toInt<=tk (BL yh d) 0/\(yi.get 1).toInt<=tk (BL yh d) 1/\tk (BL yh d) 0+tk (BL yh d) 1<=tot put:=by
 obtain⟨_,a,b⟩:=Wn hl;have c:=z4u hd hp a;unfold BL;split;{rename_i hr;obtain⟨b0,b1⟩:=b hr;exact⟨by omega,b0,b1,c⟩};{exact⟨gu _,h0,h1,ht⟩}
end
section
variable {rts:C} {yj:List C} {put yi ph un yh:C}
def z0G (h:BOk put yi ph un yh) {pd} (hW:VA put yi ph yh pd) (l:List Ent) (x:C) (hx:0<=(x.get 2).toInt) {d:C} (hd:StC (d.get 0)) (w:Bool) (t:Int) (he:(opP l x d w t rts yj put yi ph un yh).1=0):
  ∃zu z51 ph' un' zv,(opP l x d w t rts yj put yi ph un yh).2.2.1=bnd rts yj zu z51 ph' un' zv/\BOk zu z51 ph' un' zv/\
   VA zu z51 ph' zv (Ke (Kf x pd (opP l x d w t rts yj put yi ph un yh).2.1) (opP l x d w t rts yj put yi ph un yh).2.2.2)/\
   (yh.get 1).toInt<=(zv.get 1).toInt/\(ph.toInt=1->un'=un)/\ph.toInt<=ph'.toInt/\ph.toInt≠2:=by
 have z6t:∀p:Int,(x.get 0).toInt≠1->Kf x pd p=pd:=fun p z=>if_neg z;unfold opP at he ⊢;by_cases z0:(x.get 0).toInt=0
 ·rw[if_pos z0]at he ⊢;rcases v3 (id:=.int 7) (who:=CJ) (rts:=rts) (yj:=yj) h (x.get 1).toInt (x.get 2).toInt with⟨_,p,h1,h2,h3,h4,h5⟩|⟨h1,_⟩
  case inr=>exact absurd he h1
  refine⟨_,_,_,_,_,h1,h2,?_,gu _,fun _=>rfl,gu _,h3⟩;dsimp only;rw[z6t _ (by omega),VD hW.hpd];obtain⟨a,b,c,e,f⟩:=hW.run h3;have:=h4 hx;exact⟨h5,hW.hph,hW.hpd,fun _=>⟨a,b,c,e,by omega⟩,fun y=>absurd y h3⟩
 rw[if_neg z0]at he ⊢;by_cases z1:(x.get 0).toInt=1
 ·rw[if_pos z1]at he ⊢;rcases bF (id:=.int 7) (who:=CJ) (rts:=rts) (yj:=yj) h hd w (x.get 1).toInt with⟨_,hs,hl,hp,h1,h2⟩|⟨h1,_⟩
  case inr=>exact absurd he h1
  have n2:=(Wn hl).1;obtain⟨a,b,c,e,f⟩:=hW.run n2;obtain⟨g0,g1,g2,g3⟩:=ZU hd h.put hl c e f;refine⟨_,_,_,_,_,h1,h2,?_,g0,fun _=>rfl,gu _,n2⟩;dsimp only;have hb:=Qd h.yh hd;have ht:=hb.tk (x.get 1).toInt.toNat (by omega);have pay:Kf x pd (Ef (.int 7) CJ rts yj put yi ph un yh d w (x.get 1).toInt).1=ct pd (x.get 1).toInt.toNat (((BL yh d).get 3).get (x.get 1).toInt.toNat):=by
   unfold Kf;rw[if_pos z1,hp];unfold PV;have e1:(pd.get (x.get 1).toInt.toNat).toInt=(yi.get (x.get 1).toInt.toNat).toInt:=by rcases hs with hs|hs <;> rw[hs];{exact a};{exact b}
   have q:=h.yi.gi (x.get 1).toInt.toNat (by omega);rw[e1]
   conv=>rhs;rw[ht.1]
   have w1:=ht.2.1;have w2:=ht.2.2;have w3:=q.1;have w4:=q.2;rw[oD,oD];congr 2;omega
  have hpd:DE (ct pd (x.get 1).toInt.toNat (((BL yh d).get 3).get (x.get 1).toInt.toNat)):=by rw[ht.1];exact hW.hpd.set (by omega) ht.2
  rw[pay,VD hpd];refine⟨hW.tt,hW.hph,hpd,fun _=>?_,fun y=>absurd y n2⟩;rw[ht.1];have e2:=hW.hpd.eta;have e3:=h.yi.eta;rcases hs with hs|hs <;> rw[hs]
  ·have k1:ct pd (aq 0) (.int (((BL yh d).get 3).get (aq 0)).toInt)= .agg [.int (tk (BL yh d) 0),.int (pd.get 1).toInt]:=by
    conv=>lhs;rw[e2]
    rfl
   have k2:ct yi (aq 0) (.int (((BL yh d).get 3).get (aq 0)).toInt)= .agg [.int (tk (BL yh d) 0),.int (yi.get 1).toInt]:=by
    conv=>lhs;rw[e3]
    rfl
   rw[k1,k2];exact⟨rfl,b,gu _,g2,g3⟩
  ·have k1:ct pd (aq 1) (.int (((BL yh d).get 3).get (aq 1)).toInt)= .agg [.int (pd.get 0).toInt,.int (tk (BL yh d) 1)]:=by
    conv=>lhs;rw[e2]
    rfl
   have k2:ct yi (aq 1) (.int (((BL yh d).get 3).get (aq 1)).toInt)= .agg [.int (yi.get 0).toInt,.int (tk (BL yh d) 1)]:=by
    conv=>lhs;rw[e3]
    rfl
   rw[k1,k2];exact⟨a,rfl,g1,gu _,g3⟩
 rw[if_neg z1]at he ⊢;by_cases z2:(x.get 0).toInt=2
 ·rw[if_pos z2]at he ⊢;rcases uY (id:=.int 7) (who:=CJ) (rts:=rts) (yj:=yj) h hd w t with⟨_,hl,n1,u,h1,h2⟩|⟨h1,_⟩
  case inr=>exact absurd he h1
  have n2:=(Wn hl).1;obtain⟨a,b,c,e,f⟩:=hW.run n2;obtain⟨g0,g1,g2,g3⟩:=ZU hd h.put hl c e f;refine⟨_,_,_,_,_,h1,h2,?_,g0,fun y=>absurd y n1,?_,n2⟩;{dsimp only;rw[z6t _ z1,VD hW.hpd];exact⟨hW.tt,.inr (.inl rfl),hW.hpd,fun _=>⟨a,b,g1,g2,g3⟩,fun y=>absurd y (show ¬(1:Int)=2 by decide)⟩};{show ph.toInt<=1;have:=hW.hph;omega}
 rw[if_neg z2]at he ⊢;by_cases z3:(x.get 0).toInt=3
 ·rw[if_pos z3]at he ⊢;rcases q1M (id:=.int 7) (who:=CJ) (rts:=rts) (yj:=yj) h hd w t with⟨_,hl,h1,h2⟩|⟨h1,_⟩
  case inr=>exact absurd he h1
  have n2:=(Wn hl).1;obtain⟨a,b,c,e,f⟩:=hW.run n2;obtain⟨g0,g1,g2,g3⟩:=ZU hd h.put hl c e f;refine⟨_,_,_,_,_,h1,h2,?_,g0,fun _=>rfl,gu _,n2⟩;dsimp only;rw[z6t _ z1,VD hW.hpd];exact⟨hW.tt,hW.hph,hW.hpd,fun _=>⟨a,b,g1,g2,g3⟩,fun y=>absurd y n2⟩
 rw[if_neg z3]at he ⊢;rcases tQ (id:=.int 7) (who:=CJ) (rts:=rts) (yj:=yj) h (l.map CE) t with⟨_,n0,n2,hsp,h1,ho,h2⟩|⟨h1,_⟩
 case inr=>exact absurd he h1
 obtain⟨a,b,c,e,f⟩:=hW.run n2;obtain⟨o1,o2⟩:=z4x h.yh h.put h.yi hsp;refine⟨_,_,_,_,_,h1,h2,?_,gu _,fun _=>rfl,?_,n2⟩
 ·dsimp only;rw[z6t _ z1,ho];have u0:=o1.a.1;have u1:=o1.b.1;have v0:=h.yi.a.1;have v1:=h.yi.b.1;have tt:=hW.tt;have s0:(pd.get 0).toInt+((Ci yh put yi (Hr (l.map CE) t (AU yh))).2.get 0).toInt<18446744073709551616:=by omega
  have s1:(pd.get 1).toInt+((Ci yh put yi (Hr (l.map CE) t (AU yh))).2.get 1).toInt<18446744073709551616:=by omega
  rw[pB hW.hpd o1 s0 s1];refine⟨hW.tt,.inr (.inr rfl),⟨rfl,⟨?_,s0⟩,⟨?_,s1⟩⟩,fun y=>absurd rfl y,fun _=>?_⟩;{show 0<=(pd.get 0).toInt+_;omega};{show 0<=(pd.get 1).toInt+_;omega};{show(pd.get 0).toInt+_+((pd.get 1).toInt+_)=_;omega}
 ·show ph.toInt<=2;have:=hW.hph;omega
end
end
def Xj (k2:KD R):KD R->KD R:=fun k3 d1 m1=>(jn (fun d2 m2=>(bif cz (dk d2 4)then(if 0<=aj (dk d2 3)/\aj (dk d2 3)<(↑(ak (ao (dk d2 0))):Int)then(Fv N (dk d2 1) (bj (ao (dk d2 0)) (aq (aj (dk d2 3))) du) (fun d3 m3=>(k3 [dk d2 0,dk d3 0,dk d3 1,aw (al ar (aj (dk d2 3)+1))] [])))else none)else(k2 [dk d2 1,dk d2 2] []))) (fun k4=>(bif decide (aj (dk d1 3)<(↑(ak (ao (dk d1 0))):Int))then(k4 [dk d1 0,dk d1 1,dk d1 2,dk d1 3,cd (decide (aj (dk d1 2)=0))] [])else(k4 [dk d1 0,dk d1 1,dk d1 2,dk d1 3,cd false] []))))
def jH (a0:C) (k1:KD R):Option R:=jn (fun d1 m1=>(k1 [dk d1 0,dk d1 1] [])) (fun k2=>(Ae N (Xj N k2) [a0,aw 0,aw 0,aw 0] []))
def Pg:=lid "" (@jH R N)
def H2 {R N a0 k}:@Pg R N a0 k=jH N a0 k:=by unfold Pg;rw[AW]
def z1y:OvG R:=Af [.slice 8 (.int .u64)] (Bs (Pg N)) fun a K d1 m1=>K (V.tup [V.d (bn av) (dk d1 0),V.d (bn ar) (dk d1 1)]) []
def z1z:okX 25 (@z1y R N):=Ai (AH (LS N) <| AZ) N [] [(25,[([1,0,1,1],(Ah [(4,.d (.int .u64)),(5,.d (.int .i64))])),
  ([4,1,0,1,1],(AY [0] [(4,.d (.int .u64)),(5,.d (.int .i64)),(6,.d (.int .i64))])),
  ([0,0,5,4,1,0,1,1],(AY [0,4,5,6] [(14,.d .bool)])),
  ([9],(Ah [(2,.d (.int .u64)),(3,.d (.int .i64))]))])] (fun _ _=>H2)
def Wb (k1:KD R) (k2:KD R):KD R->KD R:=fun k3 d8 m8=>(bif decide (aj (dk d8 2)<aj (dk d8 1))then(if 0<=aj (dk d8 2)/\aj (dk d8 2)<(↑(ak (ao (dk d8 0))):Int)then(jn (fun d9 m9=>(bif cz (dk d9 3)then(k2 [] [])else(if BO AX (db (Aw (swU (di 4) (di 25046))) (db (Aw (swU (di 3) (di 68001))) (db (Aw (swU (di 2) (di 68003))) (db (Aw (swU (di 1) (di 25048))) (db (Aw ga) (dE AX (dm m9 0)))))))=true then(Om N (dk d9 6) (dk d9 11) (dk d9 7) (dk d9 8) (dk d9 9) (dk d9 10) (dk d9 4) (bc (ao (dk d9 5))) du du (unE (db (Aw (swU (di 4) (di 25046))) (db (Aw (swU (di 3) (di 68001))) (db (Aw (swU (di 2) (di 68003))) (db (Aw (swU (di 1) (di 25048))) (db (Aw ga) (dE AX (dm m9 0)))))))) (fun d10 m10=>(Fv N (ax (ax (dk d10 3) 4) (aq 0)) (ax (ax (dk d10 3) 4) (aq 1)) (fun d11 m11=>(Nl N (dk d10 3) (fun d12 m12=>(Pg N (bc [ax (dk d10 6) (aq 0),ax (dk d10 6) (aq 1),dk d12 0]) (fun d13 m13=>(jn (fun d14 m14=>(bif cz (dk d14 3)then(k1 [cd false] [])else(jn (fun d15 m15=>(bif cz (dk d15 3)then(k1 [cd false] [])else(if BO AX (dE AX (dm m15 0))=true then(k3 [dk d15 0,dk d15 1,aw (al ar (aj (dk d15 2)+1)),dk d15 4,bc (ao (dk d15 5)),dk d15 6,dk d15 7,dk d15 8,dk d15 9,dk d15 10] [unE (dE AX (dm m15 0))])else none))) (fun k4=>(bif decide (aj (ax (ax (dk d14 12) 8) 1)<aj (ax (ax (dk d14 11) 8) 1))then(if BO AX (dE AX (dm m14 0))=true then(k4 [dk d14 0,dk d14 1,dk d14 2,cd true,dk d14 4,bc (ao (dk d14 5)),dk d14 6,dk d14 7,dk d14 8,dk d14 9,dk d14 10] [unE (dE AX (dm m14 0))])else none)else(bif decide (aj (ax (dk d14 11) 6)=1)then(bif !decide (aj (ax (dk d14 12) 7)=aj (ax (dk d14 11) 7))then(if BO AX (dE AX (dm m14 0))=true then(k4 [dk d14 0,dk d14 1,dk d14 2,cd true,dk d14 4,bc (ao (dk d14 5)),dk d14 6,dk d14 7,dk d14 8,dk d14 9,dk d14 10] [unE (dE AX (dm m14 0))])else none)else(bif decide (aj (ax (dk d14 12) 6)<aj (ax (dk d14 11) 6))then(if BO AX (dE AX (dm m14 0))=true then(k4 [dk d14 0,dk d14 1,dk d14 2,cd true,dk d14 4,bc (ao (dk d14 5)),dk d14 6,dk d14 7,dk d14 8,dk d14 9,dk d14 10] [unE (dE AX (dm m14 0))])else none)else(bif decide (aj (ax (dk d14 11) 6)=2)then(GU N (dk d14 12) (fun d15 m15=>(GU N (dk d14 11) (fun d16 m16=>(Hb N (dk d15 0) (dk d16 0) (fun d17 m17=>(if BO AX (dE AX (dm m14 0))=true then(k4 [dk d14 0,dk d14 1,dk d14 2,cd !cz (dk d17 0),dk d14 4,bc (ao (dk d14 5)),dk d14 6,dk d14 7,dk d14 8,dk d14 9,dk d14 10] [unE (dE AX (dm m14 0))])else none)))))))else(if BO AX (dE AX (dm m14 0))=true then(k4 [dk d14 0,dk d14 1,dk d14 2,cd false,dk d14 4,bc (ao (dk d14 5)),dk d14 6,dk d14 7,dk d14 8,dk d14 9,dk d14 10] [unE (dE AX (dm m14 0))])else none))))else(bif decide (aj (ax (dk d14 12) 6)<aj (ax (dk d14 11) 6))then(if BO AX (dE AX (dm m14 0))=true then(k4 [dk d14 0,dk d14 1,dk d14 2,cd true,dk d14 4,bc (ao (dk d14 5)),dk d14 6,dk d14 7,dk d14 8,dk d14 9,dk d14 10] [unE (dE AX (dm m14 0))])else none)else(bif decide (aj (ax (dk d14 11) 6)=2)then(GU N (dk d14 12) (fun d15 m15=>(GU N (dk d14 11) (fun d16 m16=>(Hb N (dk d15 0) (dk d16 0) (fun d17 m17=>(if BO AX (dE AX (dm m14 0))=true then(k4 [dk d14 0,dk d14 1,dk d14 2,cd !cz (dk d17 0),dk d14 4,bc (ao (dk d14 5)),dk d14 6,dk d14 7,dk d14 8,dk d14 9,dk d14 10] [unE (dE AX (dm m14 0))])else none)))))))else(if BO AX (dE AX (dm m14 0))=true then(k4 [dk d14 0,dk d14 1,dk d14 2,cd false,dk d14 4,bc (ao (dk d14 5)),dk d14 6,dk d14 7,dk d14 8,dk d14 9,dk d14 10] [unE (dE AX (dm m14 0))])else none))))))))) (fun k4=>(bif !decide (aj (dk d11 1)=0)then(if BO AX (db (Aw (dn 49)) (db (Aw (swU (di 1) (di 25048))) (db (Aw (swU (di 2) (di 68003))) (db (Aw (swU (di 3) (di 68001))) (db (Aw (swU (di 4) (di 25046))) (dE AX (dm m10 0)))))))=true then(k4 [dk d9 0,dk d9 1,dk d9 2,cd true,dk d10 1,bc (ao (dk d10 2)),dk d9 6,dk d10 3,dk d10 4,dk d10 5,dk d10 6,dk d9 7,dk d10 3] [unE (db (Aw (dn 49)) (db (Aw (swU (di 1) (di 25048))) (db (Aw (swU (di 2) (di 68003))) (db (Aw (swU (di 3) (di 68001))) (db (Aw (swU (di 4) (di 25046))) (dE AX (dm m10 0)))))))])else none)else(bif !decide (aj (dk d13 1)=0)then(if BO AX (db (Aw (dn 49)) (db (Aw (swU (di 1) (di 25048))) (db (Aw (swU (di 2) (di 68003))) (db (Aw (swU (di 3) (di 68001))) (db (Aw (swU (di 4) (di 25046))) (dE AX (dm m10 0)))))))=true then(k4 [dk d9 0,dk d9 1,dk d9 2,cd true,dk d10 1,bc (ao (dk d10 2)),dk d9 6,dk d10 3,dk d10 4,dk d10 5,dk d10 6,dk d9 7,dk d10 3] [unE (db (Aw (dn 49)) (db (Aw (swU (di 1) (di 25048))) (db (Aw (swU (di 2) (di 68003))) (db (Aw (swU (di 3) (di 68001))) (db (Aw (swU (di 4) (di 25046))) (dE AX (dm m10 0)))))))])else none)else(if BO AX (db (Aw (dn 49)) (db (Aw (swU (di 1) (di 25048))) (db (Aw (swU (di 2) (di 68003))) (db (Aw (swU (di 3) (di 68001))) (db (Aw (swU (di 4) (di 25046))) (dE AX (dm m10 0)))))))=true then(k4 [dk d9 0,dk d9 1,dk d9 2,cd !decide (aj (dk d11 0)=aj (dk d13 0)),dk d10 1,bc (ao (dk d10 2)),dk d9 6,dk d10 3,dk d10 4,dk d10 5,dk d10 6,dk d9 7,dk d10 3] [unE (db (Aw (dn 49)) (db (Aw (swU (di 1) (di 25048))) (db (Aw (swU (di 2) (di 68003))) (db (Aw (swU (di 3) (di 68001))) (db (Aw (swU (di 4) (di 25046))) (dE AX (dm m10 0)))))))])else none)))))))))))))else none))) (fun k4=>(bif decide (30<=aj (dk d8 2))then(if BO AX (dE AX (dm m8 0))=true then(k4 [dk d8 0,dk d8 1,dk d8 2,cd true,dk d8 3,bc (ao (dk d8 4)),dk d8 5,dk d8 6,dk d8 7,dk d8 8,dk d8 9,bj (ao (dk d8 0)) (aq (aj (dk d8 2))) du] [unE (dE AX (dm m8 0))])else none)else(SC N (bj (ao (dk d8 0)) (aq (aj (dk d8 2))) du) (fun d9 m9=>(if BO AX (dE AX (dm m8 0))=true then(k4 [dk d8 0,dk d8 1,dk d8 2,cd !cz (dk d9 0),dk d8 3,bc (ao (dk d8 4)),dk d8 5,dk d8 6,dk d8 7,dk d8 8,dk d8 9,bj (ao (dk d8 0)) (aq (aj (dk d8 2))) du] [unE (dE AX (dm m8 0))])else none))))))else none)else(k2 [] []))
def eB (a0 a1 a2 a3:C) (k1:KD R):Option R:=SB N a0 a1 (fun d1 m1=>(Oj N (dk d1 0) (fun d2 m2=>(UD N (aw 7) (ct (ct (AJ (cq 2 (bn ar))) 0 (aw 0)) 1 (aw 1)) (dk d2 0) a2 (fun d3 m3=>(Oj N (dk d1 0) (fun d4 m4=>(Rx N (dk d4 0) (fun d5 m5=>(Qk N (aw 7) (ct (ct (AJ (cq 2 (bn ar))) 0 (aw 0)) 1 (aw 1)) (dk d5 0) a2 (fun d6 m6=>(jn (fun d7 m7=>(bif cz (dk d7 3)then(Ol N (fun d8 m8=>(k1 [cd (cz (dk d8 0))] [])))else(jn (fun d8 m8=>(Ol N (fun d9 m9=>(k1 [cd (cz (dk d9 0))] [])))) (fun k2=>(Ae N (Wb N k1 k2) [a3,aw (↑(ak (ao a3)):Int),aw 0,ax (dk d7 0) 0,bc [],dk d1 0,dk d7 2,dk d7 1,AJ (bn av),AJ (cq 2 (bn av))] [unE []]))))) (fun k2=>(bif !decide (aj (dk d6 0)=aj (dk d3 0))then(k2 [dk d1 0,dk d3 1,dk d6 1,cd true] [])else(GU N (dk d6 1) (fun d7 m7=>(Hb N (dk d7 0) (dk d3 1) (fun d8 m8=>(bif !cz (dk d8 0)then(k2 [dk d1 0,dk d3 1,dk d6 1,cd true] [])else(k2 [dk d1 0,dk d3 1,dk d6 1,cd !decide (aj (dk d3 0)=0)] []))))))))))))))))))))
def Wc:=lid "" (@eB R N)
def yC {R N a0 a1 a2 a3 k}:@Wc R N a0 a1 a2 a3 k=eB N a0 a1 a2 a3 k:=by unfold Wc;rw[AW]
def eA:OvG R:=Af [.arr 32 (.int .u8),.arr 32 (.int .u8),.slice 1 (.int .u8),.slice 136 IW] (fun a=>Wc N (a 0) (a 1) (a 2) (a 3)) Ev
def q8i:okX 5 (@eA R N):=Ai (AH (q8t N) <| AH (q8r N) <| AH (q4a N) <| AH (q8f N) <| AH (q8n N) <| AH (z25 N) <| AH (q0T N) <| AH (yD N) <| AH (q8v N) <| AH (q8y N) <| AH (q3Z N) <| AH (LS N) <| AH (z1z N) <| AZ) N [(5,[(0,[(4,5),(5,5)]),(13,[(76,7),(78,7),(14,6)]),(16,[(124,7),(126,7),(127,7),(13,6),(14,6)])]),(18,[(0,[(2,5)]),(3,[(31,7),(33,7),(5,6),(7,6)]),(5,[(5,6),(7,6)])])] [(5,[([1,0,1,1,1,1],(Ah [])),
  ([9],(Ah [(8,.d .bool)])),
  ([4,1,0,1,1,1,1],⟨[9,10,28,29],[(30,.d (.int .i64))],[],[(.l 25046,.box (.agg DB [.d Br,.ts 72 EP]))],[],[]⟩),
  ([0,0,1,4,0,1,1,5,4,1,0,1,1,1,1],⟨[9,10,12,28,29,30],[(41,.d .bool)],[],[(.l 25046,.box (.agg DB [.d Br,.ts 72 EP]))],[],[]⟩),
  ([0,0,1,1,1,1,1,1,1,4,0,1,1,5,4,1,0,1,1,1,1],⟨[9,10,13,14,28,29,30],[(91,.d .bool)],[],[(.l 25046,.box (.agg DB [.d Br,.ts 72 EP]))],[],[]⟩),
  ([0,1,1,1,1,1,1,1,1,4,0,1,1,5,4,1,0,1,1,1,1],⟨[9,10,28,29,30],[(130,.d .bool)],[],[(.l 25046,.box (.agg DB [.d Br,.ts 72 EP]))],[],[]⟩)]),(18,[([0,0,1,1,1],(AY [2,5,7] [(39,.d .bool)]))])] (fun _ _=>yC)
section
variable {R:Type} {N:Nat}
def pD {a b:Int} (h0:0<=a+b) (h1:a+b<18446744073709551616):Ap a b=(a+b,0):=by unfold Ap;rw[if_pos (by omega)];congr 1;omega
def q2c {l:List C} {i:Nat} (h:i<l.length):BZ (l.take (i+1))=BZ (l.take i)+(l.getD i .nil).toInt:=by rw[List.take_add_one,bg h,Yd,List.getD_eq_getElem?_getD,bg h];simp[BZ]
def z3O (l:List C) (hl:l.length<=1000) (hw:∀c∈l,W64 c.toInt) (hs:BZ l<18446744073709551616) (hN:2000<N) (k:KD R):Pg N (.slice l) k=k [.int (BZ l),.int 0] []:=by
 have part:∀i,0<=BZ (l.take i)/\BZ (l.take i)<=BZ l:=fun i=>by have e:=Yd (l.take i) (l.drop i);rw[List.take_append_drop]at e;have a:=Ui (l.take i) fun c hc=>hw c (List.mem_of_mem_take hc);have b:=Ui (l.drop i) fun c hc=>hw c (List.mem_of_mem_drop hc);omega
 rw[H2];unfold jH;rw[AP];refine(DX (F:=Xj N _) (fun i=>[.slice l,.int (BZ (l.take i)),.int 0,.int i]) (fun _=>[]) l.length (k [.int (BZ (l.take l.length)),.int 0] []) (fun i hi rec=>?_) (fun rec=>?_) (N:=N) (by omega)).trans (by rw[List.take_length])
 ·have e1:(i:Int)<(l.length:Int):=by omega
  have e2:0<=(i:Int)/\(i:Int)<(l.length:Int):=by omega
  have hc:=hw _ (CT hi);have p0:=part i;have p1:=part (i+1);rw[q2c hi]at p1;unfold Xj;rw[AP];simp only[AF,AK,AO,AV,Ac,AB,Ag,AI,e1,e2,AE,and_self,bf,Je (.int (BZ (l.take i))) _ (show W64 (BZ (l.take i)) from⟨p0.1,by omega⟩) hc,pD p1.1 (show BZ (l.take i)+(l.getD i .nil).toInt<18446744073709551616 by omega),q2c hi,BK (show i<4611686018427387904 by omega)]
 ·unfold Xj;rw[AP];simp only[AF,AK,AO,AV,Ac,AB,Ag,AI,Int.lt_irrefl,AE]
structure WSt (s:PS):Prop where
 b:q3j s
 w:VA s.put s.yi s.ph s.yh s.pd
section
variable {rts:C} {yj:List C}
def z5i (K T x:C) (hK:K.get 0=T) (hT:DH T) (d:C) (hd:Yy d) (hS:∀k:KD R,KC N K x k=k [d] []) (hx:oS x)
  (hr:ua (.slice 1 (.int .u8)) (.slice yj)) (hro:NY rts) (ht:rts.get 1= .int 2) (s:PS) (hs:WSt s) (hi:s.i<=30) (a b:C) (hN:2199023255552<N) (hN2:N<4611686018427387904):
  ∃s':PS,WSt s'/\s'.i=s.i+1/\(s.yh.get 1).toInt<=(s'.yh.get 1).toInt/\(s.ph.toInt=1->s'.un.toInt=s.un.toInt)/\s.ph.toInt<=s'.ph.toInt/\
   (s.ph.toInt=2->bnd rts yj s'.put s'.yi s'.ph s'.un s'.yh=bnd rts yj s.put s.yi s.ph s.un s.yh)/\
   ∀k:KD R,Om N K x (bnd rts yj s.put s.yi s.ph s.un s.yh) (bnd rts yj s.put s.yi s.ph s.un s.yh) (.int s.h) s.pd T (.slice (s.l.map DL)) a b (s.l.map CE) k=
    k [.bool true,T,.slice (s'.l.map DL),bnd rts yj s'.put s'.yi s'.ph s'.un s'.yh,bnd rts yj s'.put s'.yi s'.ph s'.un s'.yh,.int s'.h,s'.pd] [s'.l.map CE]:=by
 have hl:=hs.b.l;have hq:=fun k:KD R=>q5K K T x hK hT d hd hS hx.n hx.s hs.b.b hr hro ht (.int s.h) rfl hs.b.h s.pd s.l (by omega) a b hN hN2 k;by_cases z5:(x.get 0).toInt=5;{exact⟨⟨s.i+1,s.l,s.put,s.yi,s.ph,s.un,s.yh,YO s.h (x.get 2).toInt,s.pd⟩,⟨⟨hs.b.b,z3x _ _,by show s.l.length<=s.i+1;omega⟩,hs.w⟩,rfl,gu _,fun _=>rfl,gu _,fun _=>rfl,fun k=>by rw[hq,if_pos z5];rfl⟩};by_cases z6:(x.get 0).toInt<0\/5<(x.get 0).toInt;{have:=z4U s.l (x.get 5) s.h;exact⟨⟨s.i+1,(IX s.l (x.get 5) s.h).2,s.put,s.yi,s.ph,s.un,s.yh,s.h,s.pd⟩,⟨⟨hs.b.b,hs.b.h,by show(IX s.l (x.get 5) s.h).2.length<=s.i+1;omega⟩,hs.w⟩,rfl,gu _,fun _=>rfl,gu _,fun _=>rfl,fun k=>by rw[hq,if_neg z5,if_pos z6];rfl⟩};by_cases he:(opP s.l x d (DD rts d 7) s.h rts yj s.put s.yi s.ph s.un s.yh).1=0;{obtain⟨zu,z51,ph',un',zv,h1,h2,h3,h4,h5,h6,h7⟩:=z0G hs.b.b hs.w s.l x hx.n.1 hd.s (DD rts d 7) s.h he;refine⟨⟨s.i+1,s.l,zu,z51,ph',un',zv,s.h,Ke (Kf x s.pd (opP s.l x d (DD rts d 7) s.h rts yj s.put s.yi s.ph s.un s.yh).2.1) (opP s.l x d (DD rts d 7) s.h rts yj s.put s.yi s.ph s.un s.yh).2.2.2⟩,⟨⟨h2,hs.b.h,by show s.l.length<=s.i+1;omega⟩,h3⟩,rfl,h4,fun y=>congrArg aj (h5 y),h6,fun y=>absurd y h7,fun k=>?_⟩;rw[hq,if_neg z5,if_neg z6];refine(if_pos he).trans ?_;dsimp only;rw[show aj (aw s.h)=s.h from rfl,h1]};{refine⟨⟨s.i+1,s.l,s.put,s.yi,s.ph,s.un,s.yh,s.h,s.pd⟩,⟨⟨hs.b.b,hs.b.h,by show s.l.length<=s.i+1;omega⟩,hs.w⟩,rfl,gu _,fun _=>rfl,gu _,fun _=>rfl,fun k=>?_⟩;rw[hq,if_neg z5,if_neg z6];exact if_neg he}
def z5h (T sa sb:C) (hT:DH T) (hsa:Ao 32 sa) (hsb:Ao 32 sb) (a0 a1 a2 b0 b1 b2:List C) (ga0:∀y∈a0,Ao 32 y) (ga1:∀y∈a1,Ao 32 y) (gb0:∀y∈b0,Ao 32 y) (gb1:∀y∈b1,Ao 32 y) (ha0:a0.length=4) (ha1:a1.length=2) (ha2:a2.length=1) (hb0:b0.length=4) (hb1:b1.length=2) (hb2:b2.length=1)
  (hr:ua (.slice 1 (.int .u8)) (.slice yj)) (hro:NY rts) (ht:rts.get 1= .int 2) (xs:List C) (hxs:∀x∈xs,ua IW x) (hl:xs.length<2199023255552) (hN:2199023255552<N) (hN2:N<4611686018427387904) (k1 k2:KD R):
  ∀s:PS,WSt s->Ae N (Wb N k1 k2) [.slice xs,.int xs.length,.int s.i,T,.slice (s.l.map DL),Rk T sa sb a0 a1 a2 b0 b1 b2,bnd rts yj s.put s.yi s.ph s.un s.yh,bnd rts yj s.put s.yi s.ph s.un s.yh,.int s.h,s.pd] [s.l.map CE]=k2 [] []:=by
 have t0:aq 0=0:=rfl;have t1:aq 1=1:=rfl;intro s0 hs0;refine Hy (F:=Wb N k1 k2) (fun s:PS=>[.slice xs,.int xs.length,.int s.i,T,.slice (s.l.map DL),Rk T sa sb a0 a1 a2 b0 b1 b2,bnd rts yj s.put s.yi s.ph s.un s.yh,bnd rts yj s.put s.yi s.ph s.un s.yh,.int s.h,s.pd]) (fun s=>[s.l.map CE]) (fun s=>xs.length-s.i) WSt (fun _=>k2 [] []) (fun s hs rec zd=>?_) N s0 hs0 (by show xs.length-s0.i<N;omega);unfold Wb;by_cases e1:s.i<xs.length
 case neg=>
  have e1':¬(s.i:Int)<(xs.length:Int):=by omega
  simp only[AK,AO,AB,e1',AE]
 have e1':(s.i:Int)<(xs.length:Int):=by omega
 have e2':0<=(s.i:Int)/\(s.i:Int)<(xs.length:Int):=by omega
 by_cases e3:30<=s.i
 ·have e3':(30:Int)<=(s.i:Int):=by omega
  simp only[AP,AF,AK,AO,AV,Ac,AB,Ag,AI,e1',e2',e3',AE,and_self,Cu,GL]
 have e3':¬(30:Int)<=(s.i:Int):=by omega
 have hx:=hxs _ (CT e1);by_cases e4:(((xs.getD s.i .nil).get 3).get 4).elems.length<=12
 case neg=>
  have e4':¬(((((xs.getD s.i .nil).get 3).get 4).elems.length:Nat):Int)<=12:=by omega
  simp only[AP,AF,AK,AO,AV,Ac,AB,Ag,AI,e1',e2',e3',AE,and_self,Cu,GL,bf,vH,e4']
 have e4':(((((xs.getD s.i .nil).get 3).get 4).elems.length:Nat):Int)<=12:=by omega
 have hw3:ua Bk ((xs.getD s.i .nil).get 3):=C.Gx (i:=3) hx rfl;obtain⟨d,hd,hS⟩:=z4c (R:=R) (N:=N) hT _ sa sb (xs.getD s.i .nil) rfl hsa hsb a0 a1 a2 b0 b1 b2 ga0 ga1 gb0 gb1 ha0 ha1 ha2 hb0 hb1 hb2 (z4z hw3 e4) (iM (C.Gx (i:=2) hw3 rfl)).1 (by omega);obtain⟨s',hs',hi',hrd,hun,hph,hsh,hq⟩:=z5i (R:=R) (N:=N) (Rk T sa sb a0 a1 a2 b0 b1 b2) T (xs.getD s.i .nil) rfl hT d hd hS (z4D hx) hr hro ht s hs (by omega) .nil .nil hN hN2;have hr':=zd s' hs' (by omega);rw[hi']at hr';have w:=hs'.w;have bo:=hs'.b.b;have hA:∀k:KD R,Fv N (s'.put.get 0) (s'.put.get 1) k=k [.int (tot s'.put),.int 0] []:=fun k=>by have h0:=bo.put.a.1;have h1:=bo.put.b.1;have h2:=w.tt;unfold tot at h2;rw[Je _ _ bo.put.a bo.put.b,pD (by omega) h2];rfl
 have z8v:∀k:KD R,Pg N (.slice [s'.pd.get 0,s'.pd.get 1,.int (if s'.ph.toInt=2 then 0 else((s'.put.get 0).toInt+(s'.put.get 1).toInt-(s'.yi.get 0).toInt-(s'.yi.get 1).toInt)%18446744073709551616)]) k=k [.int (tot s'.put),.int 0] []:=fun k=>by
  have h2:=w.tt;have p0:=w.hpd.a.1;have p1:=w.hpd.b.1;have q0:=bo.yi.a.1;have q1:=bo.yi.b.1;have e:BZ [s'.pd.get 0,s'.pd.get 1,.int (if s'.ph.toInt=2 then 0 else((s'.put.get 0).toInt+(s'.put.get 1).toInt-(s'.yi.get 0).toInt-(s'.yi.get 1).toInt)%18446744073709551616)]=tot s'.put:=by have i0:∀z:Int,(aw z).toInt=z:=fun _=>rfl;simp only[BZ,i0];by_cases z:s'.ph.toInt=2;{rw[if_pos z];have:=w.shut z;omega};{rw[if_neg z];obtain⟨a,b,c,f,g⟩:=w.run z;unfold tot at g h2 ⊢;omega}
  have hn:=z3O (R:=R) (N:=N) [s'.pd.get 0,s'.pd.get 1,.int (if s'.ph.toInt=2 then 0 else((s'.put.get 0).toInt+(s'.put.get 1).toInt-(s'.yi.get 0).toInt-(s'.yi.get 1).toInt)%18446744073709551616)] (by simp) (by
   intro c hc;simp only[fz,ic,or_false]at hc;rcases hc with rfl|rfl|rfl;{exact w.hpd.a};{exact w.hpd.b}
   ·show W64 (if s'.ph.toInt=2 then 0 else _);split;{exact⟨by decide,by decide⟩}
    ·exact⟨by omega,by omega⟩) (by rw[e];exact h2) (by omega) k
  rw[hn,e]
 have hF:∀k:KD R,GU N (bnd rts yj s.put s.yi s.ph s.un s.yh) k=k [bnd rts yj s.put s.yi s.ph s.un s.yh] []:=fun k=>Ux _ _ _ _ _ _ _ _ _ hro hs.b.b.yh.b.e (by omega) k;have hE:∀k:KD R,Hb N (bnd rts yj s.put s.yi s.ph s.un s.yh) (bnd rts yj s.put s.yi s.ph s.un s.yh) k=k [.bool true] []:=fun k=>QX _ (by have:=hs.b.b.yh.b.w.ln;show(s.yh.get 4).elems.length<_;omega) hN k;have g1:¬(s'.yh.get 1).toInt<(s.yh.get 1).toInt:=by omega
 have g2:¬s'.ph.toInt<s.ph.toInt:=by omega
 have f4:ax (bnd rts yj s'.put s'.yi s'.ph s'.un s'.yh) 4=s'.put:=rfl;have f6:ax (bnd rts yj s'.put s'.yi s'.ph s'.un s'.yh) 6=s'.ph:=rfl;have f7:ax (bnd rts yj s'.put s'.yi s'.ph s'.un s'.yh) 7=s'.un:=rfl;have f8:ax (bnd rts yj s'.put s'.yi s'.ph s'.un s'.yh) 8=s'.yh:=rfl;have g6:ax (bnd rts yj s.put s.yi s.ph s.un s.yh) 6=s.ph:=rfl;have g7:ax (bnd rts yj s.put s.yi s.ph s.un s.yh) 7=s.un:=rfl;have g8:ax (bnd rts yj s.put s.yi s.ph s.un s.yh) 8=s.yh:=rfl;have hL:∀k:KD R,Nl N (bnd rts yj s'.put s'.yi s'.ph s'.un s'.yh) k=k [.int (if s'.ph.toInt=2 then 0 else((s'.put.get 0).toInt+(s'.put.get 1).toInt-(s'.yi.get 0).toInt-(s'.yi.get 1).toInt)%18446744073709551616)] []:=fun k=>q8U k;simp only[AP,AF,AK,AO,AV,Ac,Av,BW,Cm,DK,Ee,Fj,OA,OB,AB,Ag,AI,e1',e2',e3',AE,and_self,Cu,Dn,YD,GL,bf,vH,e4',hq,f4,t0,t1,hA,hL,z8v,f8,g8,g1,g6,f6,g7,f7,g2];rcases hs.w.hph with z|z|z;{simp only[z,show ¬(0:Int)=1 by decide,show ¬(0:Int)=2 by decide,AE,AF,AK,AO,AV,Ac,Av,BW,Cm,DK,Ee,Fj,Ag,AB,AI,Cu,Dn,GL,BK (show s.i<4611686018427387904 by omega),hr']};{simp only[z,hun z,show ¬(1:Int)=2 by decide,AE,AF,AK,AO,AV,Ac,Av,BW,Cm,DK,Ee,Fj,Ag,AB,AI,Cu,Dn,GL,BK (show s.i<4611686018427387904 by omega),hr']};{have eb:=hsh z;simp only[eb]at hr' ⊢;simp only[z,show ¬(2:Int)=1 by decide,hF,hE,AE,AF,AK,AO,AV,Ac,Av,BW,Cm,DK,Ee,Fj,Ag,AB,AI,Cu,Dn,GL,BK (show s.i<4611686018427387904 by omega),hr']}
end
end
section
variable {R:Type} {N:Nat}
def q3g (a b r s:C) (ha:ua (.arr 32 (.int .u8)) a) (hb:ua (.arr 32 (.int .u8)) b) (hr:ua (.slice 1 (.int .u8)) r) (hs:ua (.slice 136 IW) s) (hN:2199023255552<N) (hN2:N<4611686018427387904) (k:KD R):Wc N a b r s k=k [.bool true] []:=by
 have hr1:r= .slice r.elems:=by simp only[ua]at hr;exact hr.1
 have hs1:s= .slice s.elems:=by simp only[ua]at hs;exact hs.1
 have hs2:s.elems.length<2199023255552/\∀x∈s.elems,ua IW x:=by simp only[ua]at hs;exact⟨by omega,hs.2.2.2⟩
 generalize r.elems=yj at hr1;generalize s.elems=xs at hs1 hs2;subst hr1 hs1;have ba:=Qm ha;have bb:=Qm hb;obtain⟨T,a0,a1,a2,b0,b1,b2,hT,⟨⟨ha0,ha1,ha2⟩,ga0,ga1⟩,⟨⟨hb0,hb1,hb2⟩,gb0,gb1⟩,z71⟩:=q8Y (R:=R) (N:=N) a b ba bb (by omega);obtain⟨x,y,z7G⟩:=z3D (R:=R) (N:=N) T a b a0 a1 a2 b0 b1 b2 ha2 hb2;have hro:NY (.agg [.agg [x,y],.int 2]):=rfl;rw[yC];unfold eB;simp only[z5f,z71,z7G,z3A,z3C,q9P,AF,AK,AP,AB,AE];by_cases h:Cv yj=0
 ·have z7H:BOk zz zz (.int 0) (.int 0) (stZ 7):=by have hz:DE zz:=⟨rfl,⟨by decide,by decide⟩,⟨by decide,by decide⟩⟩;refine⟨hz,hz,rfl,rfl,⟨⟨⟨⟨by decide,by decide⟩,⟨by decide,by decide⟩,⟨by decide,by decide⟩,⟨by decide,by decide⟩,⟨by decide,by decide⟩,⟨by decide,by decide⟩,(fun c hc=>nomatch hc),Nat.zero_le _⟩,⟨rfl,(fun c hc=>nomatch hc),Nat.zero_le _⟩,(fun c hc=>nomatch hc),by decide⟩,rfl,rfl,rfl⟩⟩
  have e1:∀k:KD R,GU N (Nk (.agg [.agg [x,y],.int 2]) yj) k=k [Nk (.agg [.agg [x,y],.int 2]) yj] []:=fun k=>Ux _ _ _ _ _ _ _ _ _ hro z7H.yh.b.e (by omega) k;have e2:∀k:KD R,Hb N (Nk (.agg [.agg [x,y],.int 2]) yj) (Nk (.agg [.agg [x,y],.int 2]) yj) k=k [.bool true] []:=fun k=>QX _ (by show(0:Nat)<_;omega) hN k;simp only[h,AE,e1,e2,AF,AK,AO,AV,Ag,AI];have hw0:VA zz zz (.int 0) (stZ 7) zz:=⟨by decide,.inl rfl,q3c,fun _=>⟨by decide,by decide,by decide,by decide,by decide⟩,fun y=>absurd y (show ¬(0:Int)=2 by decide)⟩;exact(z5h T a b hT ba bb a0 a1 a2 b0 b1 b2 ga0 ga1 gb0 gb1 ha0 ha1 ha2 hb0 hb1 hb2 hr hro rfl xs hs2.2 hs2.1 hN hN2 _ _ ⟨0,[],zz,zz,.int 0,.int 0,stZ 7,0,zz⟩ ⟨⟨z7H,⟨by decide,by decide⟩,Nat.le_refl _⟩,hw0⟩).trans (by simp only[pW,AF,Ag])
 ·have e2:∀k:KD R,Hb N zB zB k=k [.bool true] []:=fun k=>QX _ (by show(0:Nat)<_;omega) hN k;simp only[h,AE,oO (show 2000<N by omega),e2,pW,AF,AK,AO,AV,Ag]
def z3Q (A:Key->Option O) (a b r s:C):Bo (X0 gl0) 5 [.d (.arr 32 (.int .u8)) a,.d (.arr 32 (.int .u8)) b,.d (.slice 1 (.int .u8)) r,.d (.slice 136 IW) s] A (.d .bool (.bool true)) []:=by refine Vd (ts:=[.arr 32 (.int .u8),.arr 32 (.int .u8),.slice 1 (.int .u8),.slice 136 IW]) (cs:=[a,b,r,s]) fun W=>?_;refine XH (q8i 2199023255553) ?_;show eA 2199023255553 [.d (.arr 32 (.int .u8)) a,.d (.arr 32 (.int .u8)) b,.d (.slice 1 (.int .u8)) r,.d (.slice 136 IW) s] A kR=_;simp only[eA,Af,Kj,and_self,if_true,AF,AK,AO,AV,Ac,Bs,Bl,Ds,BD,Ev];rw[q3g a b r s (W 0 _ _ rfl rfl) (W 1 _ _ rfl rfl) (W 2 _ _ rfl rfl) (W 3 _ _ rfl rfl) (by omega) (by omega)];rfl
end
end Go.Proofs.YtgdonkaoajbclaaGreatDoor
