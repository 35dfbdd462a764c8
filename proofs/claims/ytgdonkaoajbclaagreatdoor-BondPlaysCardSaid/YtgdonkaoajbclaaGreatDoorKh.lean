/-
 What the functions on the way compute, part 8.
 Conditions: none.
-/
import Derived.Test.YtgdonkaoajbclaaGreatDoorKg
set_option linter.all false
noncomputable section
set_option maxRecDepth 100000
set_option maxHeartbeats 4000000
open Go.E.C renaming agg->dj,bool->cg,elems->au,get->bc,int->az,nil->dw,set->db,slice->bj,toBool->cz,toInt->ao,wf->ub
open Go.E.Key renaming g->gb,l->dt
open Go.E.Ty renaming arr->ct,bool->ei,int->br
open Go.IntKind renaming i64->aw,u64->ay,u8->bt,wrap->ar
open Int renaming ofNat->ja,toNat->av,toNat_natCast->bh,toNat_one->yd,toNat_zero->kb
open List renaming forall_mem_cons->uk,getD->bp,length->aq,map->dg,replicate->bf
open Nat renaming beq->bo,beq_refl->bw
namespace Go.Proofs.YtgdonkaoajbclaaGreatDoor
open Go Go.E
variable {R:Type} (N:Nat)
section
variable {R:Type} {N:Nat}
theorem q23 {x:Int} (h:W64 x):Ap 0 x=(x,0):=by
 have:=h.1;have:=h.2;unfold Ap;rw[if_pos (by omega)];congr 1;omega
theorem q1T {x y:C} (hx:W64 x.toInt):(Di [x,y]).2=(Ap x.toInt y.toInt).2:=by
 unfold Di;simp only[BG,Hd,q23 hx,if_true];by_cases h:(Ap x.toInt y.toInt).2=0 <;> simp[Je,h]
section
variable {id who rts:C} {yj:List C} {put yi ph un yh:C}
theorem z3c (side yo:C) (h0:W64 (put.get 0).toInt) (h1:W64 (put.get 1).toInt) (ha:W64 yo.toInt) (hp:put= .agg [put.get 0,put.get 1]) (k:KD R):
  Tz N (mkB id who rts yj put yi ph un yh) side yo k=k [.int (HR id who rts yj put yi ph un yh side.toInt yo.toInt).1,(HR id who rts yj put yi ph un yh side.toInt yo.toInt).2] []:=by
 have h6:(mkB id who rts yj put yi ph un yh).get 6=ph:=rfl;have h4:(mkB id who rts yj put yi ph un yh).get 4=put:=rfl;rw[q0B];unfold kY HR;rw[Fu];refine(Oc [side,yo,.bool (decide ((side.toInt≠0/\side.toInt≠1)\/yo.toInt=0)),mkB id who rts yj put yi ph un yh,zB] [] fun K=>?_).trans ?_
 ·by_cases z0:side.toInt=0
  ·simp[z0]
  ·by_cases z1:side.toInt=1 <;> simp[z0,z1]
 simp only[AF,AL,AP,AU,Ah,h6,h4];by_cases a1:(side.toInt≠0/\side.toInt≠1)\/yo.toInt=0
 ·simp only[a1,AE]
 have hs:0<=side.toInt/\side.toInt<2:=by omega
 by_cases a2:ph.toInt=2
 ·simp only[a1,a2,AE]
 have hg:W64 (put.get side.toInt.toNat).toInt:=by
  rcases(by omega:side.toInt.toNat=0\/side.toInt.toNat=1)with e|e <;> rw[e]
  ·exact h0
  ·exact h1
 simp only[a1,a2,AE,hs,and_self,LN _ _ hg ha,AF,AL,AB];by_cases b1:(Ap (put.get side.toInt.toNat).toInt yo.toInt).2=0
 case neg=>simp only[b1,AE,ne_eq,not_false_iff]
 have hw:W64 (Ap (put.get side.toInt.toNat).toInt yo.toInt).1:=NX;have es:db (mkB id who rts yj put yi ph un yh) 4 (put.set side.toInt.toNat (.int (Ap (put.get side.toInt.toNat).toInt yo.toInt).1))=mkB id who rts yj (put.set side.toInt.toNat (.int (Ap (put.get side.toInt.toNat).toInt yo.toInt).1)) yi ph un yh:=rfl;have e4:∀x:C,(mkB id who rts yj x yi ph un yh).get 4=x:=fun x=>rfl;simp only[b1,AE,ne_eq,not_true,es,e4,kb,yd];generalize (Ap (put.get side.toInt.toNat).toInt yo.toInt).1=v at hw;have g:W64 ((put.set side.toInt.toNat (.int v)).get 0).toInt/\W64 ((put.set side.toInt.toNat (.int v)).get 1).toInt:=by
  rw[hp];rcases(by omega:side.toInt.toNat=0\/side.toInt.toNat=1)with e|e <;> rw[e]
  ·exact⟨hw,h1⟩
  ·exact⟨h0,hw⟩
 rw[LN _ _ g.1 g.2];simp only[AF,AL,AB,q1T g.1];by_cases b2:(Ap ((put.set side.toInt.toNat (az v)).get 0).toInt ((put.set side.toInt.toNat (az v)).get 1).toInt).2=0
 ·simp only[b2,AE,not_true]
 ·simp only[b2,AE,not_false_iff]
theorem z3b (k:KD R):Tx N (mkB id who rts yj put yi ph un yh) k=k [.int (if ph.toInt=2 then 0 else((put.get 0).toInt+(put.get 1).toInt-(yi.get 0).toInt-(yi.get 1).toInt)%18446744073709551616)] []:=by
 have w:∀x:Int,IntKind.u64.wrap x=x%18446744073709551616:=fun x=>by simp[ar,IntKind.bits,IntKind.signed]
 rw[q0z];unfold kV mkB;simp only[MM,WA,WB,kb,yd,AB,w];by_cases h:ph.toInt=2
 ·simp only[h,AE]
 ·simp only[h,AE];congr 3;omega
theorem z2T (hst:StN yh put) (hpd:∀i<2,W64 (yi.get i).toInt) (hl:(AY yh).length<1099511627776) (l:List Ent) (hll:l.length<=1000) (T yk:C) (hN:2199023255552<N) (k:KD R):
  Tv N (mkB id who rts yj put yi ph un yh) yk T (.slice (l.map DE)) k=
   k [.int (Eg (l.map CF) id who rts yj put yi ph un yh yk.toInt).1,(Eg (l.map CF) id who rts yj put yi ph un yh yk.toInt).2.1,(Eg (l.map CF) id who rts yj put yi ph un yh yk.toInt).2.2] []:=by
 have hz:AI (ct 2 (br ay))=zz:=rfl;have h6:(mkB id who rts yj put yi ph un yh).get 6=ph:=rfl;have h7:(mkB id who rts yj put yi ph un yh).get 7=un:=rfl;have h8:(mkB id who rts yj put yi ph un yh).get 8=yh:=rfl;have h4:(mkB id who rts yj put yi ph un yh).get 4=put:=rfl;have h5:(mkB id who rts yj put yi ph un yh).get 5=yi:=rfl;rw[q0x];unfold kT Eg;rw[Fu,hz];simp only[h6,h7];by_cases a1:ph.toInt=0
 ·simp[a1]
 by_cases a2:ph.toInt=2
 ·simp[a1,a2]
 by_cases a3:yk.toInt<un.toInt
 ·simp[a1,a2,a3]
 have hbl:(yh.get 4).elems.length=(AY yh).length:=rfl;simp only[a1,a2,a3,AE,AQ]
 refine(Ol (N:=N) (F:=Xy N T (.slice (l.map DE)) k _) (fun i (acc:List C)=>[yk,.slice acc,.int i,mkB id who rts yj put yi ph un yh,zB,zz]) (fun _ _=>[])
  (AY yh) (Kf (l.map CF) yk.toInt) (fun acc=>if(EE yh put yi acc).1≠0 then k [.int (EE yh put yi acc).1,zB,zz] []else k [.int 0,mkB id who rts yj put yi (.int 2) un yh,(EE yh put yi acc).2] [])
  (fun _=>k [.int 30,zB,zz] []) (fun i acc=>acc.length=i) (s0:=[]) rfl ?_ ?_ (by omega)).trans ?_
 ·intro i acc c hx hP;have hi:i<(AY yh).length:=(List.getElem?_eq_some_iff.1 hx).1;refine⟨fun rec=>?_,fun z71 h'=>?_⟩
  ·have h1:(i:Int)<((AY yh).length:Int):=by omega
   have h1':(i:Int)<((yh.get 4).elems.length:Int):=h1;have hg:(yh.get 4).elems.getD i .nil=c:=HD hx;have h3:(acc.length+1)*1<=140737488355328/\acc.length+1<=9223372036854775807:=by omega
   unfold Xy Kf;rw[Fu,hz];simp only[AF,AL,AP,AU,Ab,Av,AB,AJ,h8,h1',hg,List.length_append,List.length_cons,List.length_nil,Nat.zero_add,bh,BM (show i<4611686018427387904 by omega),Int.natCast_nonneg,and_self,AE,h3,bw,z3f c yk l hll (show 5000<N by omega)];by_cases h:ofP (l.map CF) c yk.toInt=0
   ·simp only[h,AE]
   ·simp only[h,AE]
    all_goals rfl
  ·unfold Kf at h';split at h'
   ·cases h'
   ·cases h';simp[hP]
 ·intro acc hP rec;have h1':¬((AY yh).length:Int)<((yh.get 4).elems.length:Int):=by rw[hbl];omega
  unfold Xy;rw[Fu,hz];simp only[AF,AL,AP,AU,Ab,Av,AB,AJ,h8,h1',AE,bw,h4,h5,z3p yh put yi (.slice acc) rfl hst hpd hN];by_cases h:(EE yh put yi acc).1=0
  ·simp[h,mkB];rfl
  ·simp[h,mkB]
 ·rw[aX];by_cases h:Jv (l.map CF) yk.toInt (AY yh)=true
  ·simp[h,EA]
  ·simp only[h,if_false,List.nil_append,EA];by_cases h9:(EE yh put yi (JK (l.map CF) yk.toInt (AY yh))).1=0 <;> simp[h9]
end
end
section
structure Gs (c:C):Prop where
 eta:c= .agg [.int (c.get 0).toInt,.int (c.get 1).toInt]
 a:W64 (c.get 0).toInt
 b:W64 (c.get 1).toInt
theorem Gs.g0 {c:C} (h:Gs c):c.get 0= .int (c.get 0).toInt:=congrArg (fun x=>bc x 0) h.eta
theorem Gs.g1 {c:C} (h:Gs c):c.get 1= .int (c.get 1).toInt:=congrArg (fun x=>bc x 1) h.eta
theorem Gs.gi {c:C} (h:Gs c):∀i<2,W64 (c.get i).toInt:=fun i hi=>by
 rcases(by omega:i=0\/i=1)with rfl|rfl
 ·exact h.a
 ·exact h.b
theorem Gs.set {c:C} (h:Gs c) {i:Nat} (hi:i<2) {v:Int} (hv:W64 v):Gs (c.set i (.int v)):=by
 rw[h.eta];rcases(by omega:i=0\/i=1)with rfl|rfl
 ·exact⟨rfl,hv,h.b⟩
 ·exact⟨rfl,h.a,hv⟩
def tot (c:C):Int:=(c.get 0).toInt+(c.get 1).toInt
structure BOk (put yi ph un yh:C):Prop where
 put:Gs put
 yi:Gs yi
 ph:ph= .int ph.toInt
 un:un= .int un.toInt
 yh:StC yh
theorem VI {yh d:C} (h:StC yh) (hd:StC (d.get 0)):StC (Bn yh d):=by
 unfold Bn;split
 ·exact hd
 ·exact h
theorem StC.tk {s:C} (h:StC s):∀i<2,(s.get 3).get i= .int ((s.get 3).get i).toInt/\W64 ((s.get 3).get i).toInt:=fun i hi=>by
 rcases(by omega:i=0\/i=1)with rfl|rfl
 ·exact⟨h.t0,h.b.w.q0⟩
 ·exact⟨h.t1,h.b.w.q1⟩
theorem W64.u {x:Int} (h:W64 x):U64 x:=⟨h.1,h.2⟩
theorem nX {put yh:C} (h:Gs put) (hb:StC yh):BU put yh:=⟨⟨h.g0,h.g1,hb.r⟩,h.a.u,h.b.u,hb.b.w.rd.u⟩
theorem oL {a b:Int} (h:¬(Ap a b).2≠0):(a+b) / 18446744073709551616=0/\(Ap a b).1=(a+b)%18446744073709551616:=by
 unfold Ap at h ⊢;split
 ·rename_i h1;exact⟨h1,rfl⟩
 ·rename_i h1;rw[if_neg h1]at h;exact absurd (show(11:Int)≠0 by decide) h
section
variable {id who rts:C} {yj:List C} {put yi ph un yh:C}
theorem z8 (h:BOk put yi ph un yh) (side yo:Int):
  ((HR id who rts yj put yi ph un yh side yo).1=0/\∃zu,(HR id who rts yj put yi ph un yh side yo).2=mkB id who rts yj zu yi ph un yh/\BOk zu yi ph un yh/\ph.toInt≠2/\(0<=yo->tot put<=tot zu)/\tot zu<18446744073709551616)\/
  ((HR id who rts yj put yi ph un yh side yo).1≠0/\(HR id who rts yj put yi ph un yh side yo).2=zB):=by
 unfold HR;split
 ·exact .inr ⟨by decide,rfl⟩
 rename_i a1;split
 ·exact .inr ⟨by decide,rfl⟩
 rename_i a2;split
 ·rename_i a3;exact .inr ⟨a3,rfl⟩
 rename_i a3;split
 ·rename_i a4;exact .inr ⟨a4,rfl⟩
 rename_i a4;have hs:side=0\/side=1:=by omega
 have hw:W64 (Ap (put.get side.toNat).toInt yo).1:=NX;have hp:=h.put.set (i:=side.toNat) (by omega) hw;refine .inl ⟨rfl,_,rfl,⟨hp,h.yi,h.ph,h.un,h.yh⟩,a2,fun ha=>?_,?_⟩
 ·have hv:(Ap (put.get side.toNat).toInt yo).1=(put.get side.toNat).toInt+yo:=by
   have:=oL a3;omega
  unfold tot;rw[hv];rcases hs with rfl|rfl
  ·rw[h.put.eta];show _<=(put.get 0).toInt+yo+(put.get 1).toInt;show(put.get 0).toInt+(put.get 1).toInt<=_;omega
  ·rw[h.put.eta];show(put.get 0).toInt+(put.get 1).toInt<=(put.get 0).toInt+((put.get 1).toInt+yo);omega
 ·rw[q1T hp.a]at a4;unfold tot;have h1:=hp.a.1;have h2:=hp.b.1;have:=(oL a4).1;omega
theorem aY (h:BOk put yi ph un yh) {d:C} (hd:StC (d.get 0)) (w:Bool) (side:Int):
  ((Ef id who rts yj put yi ph un yh d w side).2.1=0/\(side=0\/side=1)/\EY ph put yi yh d w=0/\(Ef id who rts yj put yi ph un yh d w side).1=Sy yi yh d side.toNat/\
    (Ef id who rts yj put yi ph un yh d w side).2.2=mkB id who rts yj put (yi.set side.toNat (((Bn yh d).get 3).get side.toNat)) ph un (Bn yh d)/\BOk put (yi.set side.toNat (((Bn yh d).get 3).get side.toNat)) ph un (Bn yh d))\/
  ((Ef id who rts yj put yi ph un yh d w side).2.1≠0/\(Ef id who rts yj put yi ph un yh d w side).2.2=zB/\(Ef id who rts yj put yi ph un yh d w side).1=0):=by
 unfold Ef;split
 ·exact .inr ⟨by decide,rfl,rfl⟩
 rename_i a1;split
 ·rename_i a2;exact .inr ⟨a2,rfl,rfl⟩
 rename_i a2;split
 ·exact .inr ⟨by decide,rfl,rfl⟩
 have hb:=VI h.yh hd;have ht:=hb.tk side.toNat (by omega);refine .inl ⟨rfl,by omega,by omega,rfl,rfl,⟨h.put,?_,h.ph,h.un,hb⟩⟩;rw[ht.1];exact h.yi.set (by omega) ht.2
theorem uH (h:BOk put yi ph un yh) {d:C} (hd:StC (d.get 0)) (w:Bool) (yk:Int):
  ((Gy id who rts yj put yi ph un yh d w yk).1=0/\EY ph put yi yh d w=0/\ph.toInt≠1/\∃un',(Gy id who rts yj put yi ph un yh d w yk).2=mkB id who rts yj put yi (.int 1) un' (Bn yh d)/\BOk put yi (.int 1) un' (Bn yh d))\/
  ((Gy id who rts yj put yi ph un yh d w yk).1≠0/\(Gy id who rts yj put yi ph un yh d w yk).2=zB):=by
 unfold Gy;split
 ·exact .inr ⟨by decide,rfl⟩
 rename_i a1;split
 ·rename_i a2;exact .inr ⟨a2,rfl⟩
 rename_i a2;split
 ·rename_i a3;exact .inr ⟨a3,rfl⟩
 exact .inl ⟨rfl,by omega,a1,_,rfl,⟨h.put,h.yi,rfl,rfl,VI h.yh hd⟩⟩
theorem q1w (h:BOk put yi ph un yh) {d:C} (hd:StC (d.get 0)) (w:Bool) (yk:Int):
  ((Hb id who rts yj put yi ph un yh d w yk).1=0/\EY ph put yi yh d w=0/\(Hb id who rts yj put yi ph un yh d w yk).2=mkB id who rts yj put yi ph un (Bn yh d)/\BOk put yi ph un (Bn yh d))\/
  ((Hb id who rts yj put yi ph un yh d w yk).1≠0/\(Hb id who rts yj put yi ph un yh d w yk).2=zB):=by
 unfold Hb;split
 ·exact .inr ⟨by decide,rfl⟩
 split
 ·rename_i a2;exact .inr ⟨a2,rfl⟩
 rename_i a2;split
 ·exact .inr ⟨by decide,rfl⟩
 split
 ·exact .inr ⟨by decide,rfl⟩
 exact .inl ⟨rfl,by omega,rfl,⟨h.put,h.yi,h.ph,h.un,VI h.yh hd⟩⟩
theorem tB (h:BOk put yi ph un yh) (m:Es) (yk:Int):
  ((Eg m id who rts yj put yi ph un yh yk).1=0/\ph.toInt≠0/\ph.toInt≠2/\(EE yh put yi (JK m yk (AY yh))).1=0/\(Eg m id who rts yj put yi ph un yh yk).2.1=mkB id who rts yj put yi (.int 2) un yh/\
    (Eg m id who rts yj put yi ph un yh yk).2.2=(EE yh put yi (JK m yk (AY yh))).2/\BOk put yi (.int 2) un yh)\/
  ((Eg m id who rts yj put yi ph un yh yk).1≠0/\(Eg m id who rts yj put yi ph un yh yk).2.1=zB/\(Eg m id who rts yj put yi ph un yh yk).2.2=zz):=by
 unfold Eg;split
 ·exact .inr ⟨by decide,rfl,rfl⟩
 rename_i a1;split
 ·exact .inr ⟨by decide,rfl,rfl⟩
 rename_i a2;split
 ·exact .inr ⟨by decide,rfl,rfl⟩
 split
 ·exact .inr ⟨by decide,rfl,rfl⟩
 split
 ·rename_i a5;exact .inr ⟨a5,rfl,rfl⟩
 rename_i a5;exact .inl ⟨rfl,a1,a2,by omega,rfl,rfl,⟨h.put,h.yi,rfl,h.un,h.yh⟩⟩
end
end
def q79:List Sh:=[.as (.ptr (.g (.l 1)) [] mX),.d ND,.d IK]
def q8c:List (Key × OSh):=[(.l 1,.box (.agg mX [.d Ax,.d Ax,.as (.ptr (.g (.l 2)) [] FY),.as (.ptr (.g (.l 4)) [] DJ),.d (.int .u64),.d (.arr 2 (.int .u64))])),(.l 2,.box (.agg FY [.as (.mp (.g (.l 3)))])),(.l 3,.map (.arr 32 (.int .u8)) Ag),(.l 4,.box (.agg DJ [.d Bo,.ts 72 ER]))]
def dV (a0 a1 b0 b1 b2 b3 b4 b5 b6 b7:C) (m0:Es) (k1:KD R):Option R:=jn (fun d1 m1=>(jn (fun d2 m2=>(bif cz (dk d2 3)then(if BV Ag (dE Ag (dm m2 0))=true then(k1 [cg false,dk d2 4,bj (au (dk d2 5)),dk d2 6,dk d2 7,dk d2 8,dk d2 9] [unE (dE Ag (dm m2 0))])else none)else(jn (fun d3 m3=>(if BV Ag (dE Ag (dm m3 0))=true then(k1 [cg true,dk d3 0,bj (au (dk d3 1)),dk d3 2,dk d3 3,dk d3 4,dk d3 5] [unE (dE Ag (dm m3 0))])else none)) (fun k2=>(bif decide (ao (dk d2 1)=0)then(jn (fun d3 m3=>(if BV Ag (dE Ag (dm m3 0))=true then(k2 [dk d3 0,bj (au (dk d3 1)),dk d3 2,dk d3 3,dk d3 4,db (db (dk d3 5) (av 0) (az (ar ay (ao (bc (dk d3 5) (av 0))+ao (bc (dk d3 6) (av 0)))))) (av 1) (az (ar ay (ao (bc (db (dk d3 5) (av 0) (az (ar ay (ao (bc (dk d3 5) (av 0))+ao (bc (dk d3 6) (av 0)))))) (av 1))+ao (bc (dk d3 6) (av 1)))))] [unE (dE Ag (dm m3 0))])else none)) (fun k3=>(bif decide (ao (bc (dk d2 0) 0)=1)then(if 0<=ao (bc (dk d2 0) 1)/\ao (bc (dk d2 0) 1)<2 then(if 0<=ao (bc (dk d2 0) 1)/\ao (bc (dk d2 0) 1)<2 then(if BV Ag (dE Ag (dm m2 0))=true then(k3 [dk d2 4,bj (au (dk d2 5)),dk d2 10,dk d2 11,dk d2 8,db (dk d2 9) (av (ao (bc (dk d2 0) 1))) (az (ar ay (ao (bc (dk d2 9) (av (ao (bc (dk d2 0) 1))))+ao (dk d2 2)))),dk d2 12] [unE (dE Ag (dm m2 0))])else none)else none)else none)else(if BV Ag (dE Ag (dm m2 0))=true then(k3 [dk d2 4,bj (au (dk d2 5)),dk d2 10,dk d2 11,dk d2 8,dk d2 9,dk d2 12] [unE (dE Ag (dm m2 0))])else none))))else(if BV Ag (dE Ag (dm m2 0))=true then(k2 [dk d2 4,bj (au (dk d2 5)),dk d2 6,dk d2 7,dk d2 8,dk d2 9] [unE (dE Ag (dm m2 0))])else none)))))) (fun k2=>(bif !decide (ao (dk d1 1)=ao (dk d1 2))then(if BV Ag (dE Ag (dm m1 0))=true then(k2 [dk d1 0,dk d1 2,dk d1 3,cg true,dk d1 5,bj (au (dk d1 6)),dk d1 7,dk d1 8,dk d1 9,dk d1 10,dk d1 11,dk d1 12,dk d1 13] [unE (dE Ag (dm m1 0))])else none)else(bif !decide (ao (dk d1 3)=ao (dk d1 4))then(if BV Ag (dE Ag (dm m1 0))=true then(k2 [dk d1 0,dk d1 2,dk d1 3,cg true,dk d1 5,bj (au (dk d1 6)),dk d1 7,dk d1 8,dk d1 9,dk d1 10,dk d1 11,dk d1 12,dk d1 13] [unE (dE Ag (dm m1 0))])else none)else(bif !C.beq (dk d1 13) (dk d1 14)then(if BV Ag (dE Ag (dm m1 0))=true then(k2 [dk d1 0,dk d1 2,dk d1 3,cg true,dk d1 5,bj (au (dk d1 6)),dk d1 7,dk d1 8,dk d1 9,dk d1 10,dk d1 11,dk d1 12,dk d1 13] [unE (dE Ag (dm m1 0))])else none)else(JT N (dk d1 11) (fun d2 m2=>(Ja N (dk d2 0) (dk d1 12) (fun d3 m3=>(if BV Ag (dE Ag (dm m1 0))=true then(k2 [dk d1 0,dk d1 2,dk d1 3,cg !cz (dk d3 0),dk d1 5,bj (au (dk d1 6)),dk d1 7,dk d1 8,dk d1 9,dk d1 10,dk d1 11,dk d1 12,dk d1 13] [unE (dE Ag (dm m1 0))])else none))))))))))) (fun k2=>(bif decide (ao (bc a1 0)=0)then(Qc N b0 (bc a1 1) (bc a1 2) (fun d1 m1=>(Tz N b1 (bc a1 1) (bc a1 2) (fun d2 m2=>(if BV Ag (dE Ag m0)=true then(k2 [a1,dk d1 0,dk d2 0,az 0,az 0,b4,bj (au b5),b0,b1,b2,b3,dk d1 1,dk d2 1,AI (ct 2 (br ay)),AI (ct 2 (br ay))] [unE (dE Ag m0)])else none)))))else(jn (fun d1 m1=>(if BV Ag (dE Ag (dm m1 0))=true then(k2 [dk d1 0,dk d1 1,dk d1 2,dk d1 3,dk d1 4,dk d1 5,bj (au (dk d1 6)),dk d1 7,dk d1 8,dk d1 9,dk d1 10,dk d1 11,dk d1 12,dk d1 13,dk d1 14] [unE (dE Ag (dm m1 0))])else none)) (fun k3=>(bif decide (ao (bc a1 0)=1)then(Jw N a0 a1 (fun d1 m1=>(Kv N (dk d1 0) (fun d2 m2=>(QY N b0 (bc a1 1) (dk d2 0) (fun d3 m3=>(Tu N (bc a0 0) b1 (bc a1 1) (dk d1 0) (fun d4 m4=>(if BV Ag (dE Ag m0)=true then(k3 [a1,dk d3 1,dk d4 1,dk d3 0,dk d4 0,b4,bj (au b5),b0,b1,b2,b3,dk d3 2,dk d4 2,AI (ct 2 (br ay)),AI (ct 2 (br ay))] [unE (dE Ag m0)])else none)))))))))else(jn (fun d1 m1=>(if BV Ag (dE Ag (dm m1 0))=true then(k3 [dk d1 0,dk d1 3,dk d1 4,dk d1 1,dk d1 2,dk d1 5,bj (au (dk d1 6)),dk d1 7,dk d1 8,dk d1 9,dk d1 10,dk d1 11,dk d1 12,dk d1 13,dk d1 14] [unE (dE Ag (dm m1 0))])else none)) (fun k4=>(bif decide (ao (bc a1 0)=2)then(Jw N a0 a1 (fun d1 m1=>(Kv N (dk d1 0) (fun d2 m2=>(Qa N b0 (dk d2 0) b2 (fun d3 m3=>(Tw N (bc a0 0) b1 (dk d1 0) b2 (fun d4 m4=>(if BV Ag (dE Ag m0)=true then(k4 [a1,az 0,az 0,dk d3 0,dk d4 0,b4,bj (au b5),b0,b1,b2,b3,dk d3 1,dk d4 1,AI (ct 2 (br ay)),AI (ct 2 (br ay))] [unE (dE Ag m0)])else none)))))))))else(jn (fun d1 m1=>(if BV Ag (dE Ag (dm m1 0))=true then(k4 [dk d1 0,dk d1 1,dk d1 2,dk d1 3,dk d1 4,dk d1 5,bj (au (dk d1 6)),dk d1 7,dk d1 8,dk d1 9,dk d1 10,dk d1 11,dk d1 12,dk d1 13,dk d1 14] [unE (dE Ag (dm m1 0))])else none)) (fun k5=>(bif decide (ao (bc a1 0)=3)then(Jw N a0 a1 (fun d1 m1=>(Kv N (dk d1 0) (fun d2 m2=>(Qd N b0 (dk d2 0) b2 (fun d3 m3=>(UA N (bc a0 0) b1 (dk d1 0) b2 (fun d4 m4=>(if BV Ag (dE Ag m0)=true then(k5 [a1,az 0,az 0,dk d3 0,dk d4 0,b4,bj (au b5),b0,b1,b2,b3,dk d3 1,dk d4 1,AI (ct 2 (br ay)),AI (ct 2 (br ay))] [unE (dE Ag m0)])else none)))))))))else(bif decide (ao (bc a1 0)=4)then(if BV Ag (dg (Az (swU (dt 2) (gb (dt 3)))) (dg (Az (swU (dt 1) (gb (dt 2)))) (dg (Az gb) (dE Ag m0))))=true then(QZ N b0 b2 dw (unE (dg (Az (swU (dt 2) (gb (dt 3)))) (dg (Az (swU (dt 1) (gb (dt 2)))) (dg (Az gb) (dE Ag m0))))) (fun d1 m1=>(Tv N b1 b2 b4 (bj (au b5)) (fun d2 m2=>(if BV Ag (dE Ag m0)=true then(k5 [a1,az 0,az 0,dk d1 0,dk d2 0,b4,bj (au b5),b0,b1,b2,b3,dk d1 1,dk d2 1,dk d1 2,dk d2 2] [unE (dE Ag m0)])else none)))))else none)else(bif decide (ao (bc a1 0)=5)then(if BV Ag (dE Ag m0)=true then(k1 [cg true,b4,bj (au b5),b0,b1,az (if 1125899906842624<ar ay (ao b2+if 1099511627776<ao (bc a1 2)then 1099511627776 else ao (bc a1 2))then 1125899906842624 else ar ay (ao b2+if 1099511627776<ao (bc a1 2)then 1099511627776 else ao (bc a1 2))),b3] [unE (dE Ag m0)])else none)else(if BV Ag (dg (Az (swU (dt 2) (gb (dt 3)))) (dg (Az (swU (dt 1) (gb (dt 2)))) (dg (Az gb) (dE Ag m0))))=true then(Se N (bc a1 5) b2 dw dw (unE (dg (Az (swU (dt 2) (gb (dt 3)))) (dg (Az (swU (dt 1) (gb (dt 2)))) (dg (Az gb) (dE Ag m0))))) (fun d1 m1=>(Tg N (bc a1 5) b2 b4 (bj (au b5)) dw (fun d2 m2=>(if BV Ag (dg (Az (dn 30)) (dg (Az (swU (dt 1) (gb (dt 2)))) (dg (Az (swU (dt 2) (gb (dt 3)))) (dE Ag (dm m1 0)))))=true then(k1 [cg (decide (ao (dk d1 0)=ao (dk d2 0))),dk d2 1,bj (au (dk d2 2)),b0,b1,b2,b3] [unE (dg (Az (dn 30)) (dg (Az (swU (dt 1) (gb (dt 2)))) (dg (Az (swU (dt 2) (gb (dt 3)))) (dE Ag (dm m1 0)))))])else none)))))else none))))))))))))))
def Oh:=lid "" (@dV R N)
theorem xZ {R N a0 a1 b0 b1 b2 b3 b4 b5 b6 b7 m0 k}:@Oh R N a0 a1 b0 b1 b2 b3 b4 b5 b6 b7 m0 k=dV N a0 a1 b0 b1 b2 b3 b4 b5 b6 b7 m0 k:=by unfold Oh;rw[AV]
def q8a:OvG R:=Cc q79 q8c (fun ds ms=>Oh N (dk ds 0) (dk ds 1) (dk ds 2) (dk ds 3) (dk ds 4) (dk ds 5) (dk ds 6) (dk ds 7) (dk ds 8) (dk ds 9) (dm ms 0)) fun ds ms K d1 m1=>K (V.d ei (cg (cz (dk d1 0)))) [(gb (dt 4),O.box (V.agg DJ [V.d Bo (dk d1 1),V.ts 72 ER (au (dk d1 2))])),
 (gb (dt 1),
  O.box
   (V.agg mX
    [V.d Ax (dk d1 3),V.d Ax (dk d1 4),V.ptr (gb (dt 2)) [] FY,
     V.ptr (gb (dt 4)) [] DJ,V.d (br ay) (dk d1 5),
     V.d (ct 2 (br ay)) (dk d1 6)])),
 (gb (dt 2),O.box (V.agg FY [V.mp (gb (dt 3))])),
 (gb (dt 3),O.map (ct 32 (br bt)) Ag (dE Ag (dm m1 0)))]
theorem q8b:okX 21 (@q8a R N):=Cj (AH (q3E N) <| AH (q3A N) <| AH (q7R N) <| AH (q3G N) <| AH (q0D N) <| AH (xO N) <| AH (q3x N) <| AH (z2G N) <| AH (q7Z N) <| AH (q3u N) <| AH (z2v N) <| AH (z2B N) <| AH (z2L N) <| AH (z2y N) <| AH (q9M N) <| AH (z1Q N) <| AW) N [(21,[(0,[(4,5),(5,5)]),(33,[(2000007,19),(2000008,19),(243,19),(244,19)]),(8,[(3000001,19),(34,19),(40,19)]),(10,[(54,7)]),(11,[(66,7)]),(14,[(82,7),(83,7),(15,6)]),(15,[(97,7),(15,6)]),(18,[(112,7),(117,7),(16,6)]),(19,[(132,7),(16,6)]),(22,[(146,7),(151,7),(17,6)]),(23,[(166,7),(17,6)]),(30,[(234,7),(236,7)]),(37,[(13,6)])])] [(21,[([1,4,1,0,1,1,1,1,1,1,1],⟨[0,5,7,8,13,14],[(9,.d (.int .i64)),(10,.d (.int .i64)),(11,.d (.int .u64)),(12,.d (.int .u64))],[.g (.l 1),.g (.l 2),.g (.l 3),.g (.l 4)],[(.g (.l 4),.box (.agg DJ [.d Bo,.ts 72 ER]))],[],[]⟩),
  ([1,3,1,4,1,0,1,1,1,1,1,1,1],⟨[0,5,7,8,13,14],[(9,.d (.int .i64)),(10,.d (.int .i64)),(11,.d (.int .u64)),(12,.d (.int .u64))],[.g (.l 1),.g (.l 2),.g (.l 3),.g (.l 4)],[(.g (.l 4),.box (.agg DJ [.d Bo,.ts 72 ER]))],[],[]⟩),
  ([1,3,1,3,1,4,1,0,1,1,1,1,1,1,1],⟨[0,5,7,8,11,12,13,14],[(9,.d (.int .i64)),(10,.d (.int .i64))],[.g (.l 1),.g (.l 2),.g (.l 3),.g (.l 4)],[(.g (.l 4),.box (.agg DJ [.d Bo,.ts 72 ER]))],[],[]⟩),
  ([1,3,1,3,1,3,1,4,1,0,1,1,1,1,1,1,1],⟨[0,5,7,8,11,12,13,14],[(9,.d (.int .i64)),(10,.d (.int .i64))],[.g (.l 1),.g (.l 2),.g (.l 3),.g (.l 4)],[(.g (.l 4),.box (.agg DJ [.d Bo,.ts 72 ER]))],[],[]⟩),
  ([0,0,1,1,1,1,1,1,1,1],⟨[0,5,7,8,10,11,13],[(238,.d .bool)],[.g (.l 1),.g (.l 2),.g (.l 3),.g (.l 4)],[(.g (.l 4),.box (.agg DJ [.d Bo,.ts 72 ER]))],[],[]⟩),
  ([1,0,1,1,1,1,1,1,1,1,1],⟨[0],[],[.g (.l 1),.g (.l 2),.g (.l 3),.g (.l 4)],[(.g (.l 4),.box (.agg DJ [.d Bo,.ts 72 ER]))],[],[]⟩),
  ([1,0,1,2,1,0,1,1,1,1,1,1,1,1,1],⟨[0,13],[],[.g (.l 1),.g (.l 2),.g (.l 3),.g (.l 4)],[(.g (.l 4),.box (.agg DJ [.d Bo,.ts 72 ER]))],[],[]⟩),
  ([9],⟨[],[(6,.d .bool)],[.g (.l 1),.g (.l 2),.g (.l 3),.g (.l 4)],[(.g (.l 4),.box (.agg DJ [.d Bo,.ts 72 ER]))],[],[]⟩)])] (fun _ _ _=>xZ)
section
variable {R:Type} {N:Nat}
def CK:C:=.agg [.int 0,.int 1]
def bnd (rts:C) (yj:List C) (put yi ph un yh:C):C:=mkB (.int 7) CK rts yj put yi ph un yh
def opP (l:List Ent) (x d:C) (w:Bool) (h:Int) (rts:C) (yj:List C) (put yi ph un yh:C):Int × Int × C × C:=
 if(x.get 0).toInt=0 then((HR (.int 7) CK rts yj put yi ph un yh (x.get 1).toInt (x.get 2).toInt).1,0,(HR (.int 7) CK rts yj put yi ph un yh (x.get 1).toInt (x.get 2).toInt).2,zz)
 else if(x.get 0).toInt=1 then((Ef (.int 7) CK rts yj put yi ph un yh d w (x.get 1).toInt).2.1,(Ef (.int 7) CK rts yj put yi ph un yh d w (x.get 1).toInt).1,(Ef (.int 7) CK rts yj put yi ph un yh d w (x.get 1).toInt).2.2,zz)
 else if(x.get 0).toInt=2 then((Gy (.int 7) CK rts yj put yi ph un yh d w h).1,0,(Gy (.int 7) CK rts yj put yi ph un yh d w h).2,zz)
 else if(x.get 0).toInt=3 then((Hb (.int 7) CK rts yj put yi ph un yh d w h).1,0,(Hb (.int 7) CK rts yj put yi ph un yh d w h).2,zz)
 else((Eg (l.map CF) (.int 7) CK rts yj put yi ph un yh h).1,0,(Eg (l.map CF) (.int 7) CK rts yj put yi ph un yh h).2.1,(Eg (l.map CF) (.int 7) CK rts yj put yi ph un yh h).2.2)
def Uy (pd out:C):C:=db (db pd 0 (.int (IntKind.u64.wrap ((pd.get 0).toInt+(out.get 0).toInt)))) 1 (.int (IntKind.u64.wrap (((db pd 0 (.int (IntKind.u64.wrap ((pd.get 0).toInt+(out.get 0).toInt)))).get 1).toInt+(out.get 1).toInt)))
def Uz (x pd:C) (pay:Int):C:=if(x.get 0).toInt=1 then db pd (x.get 1).toInt.toNat (.int (IntKind.u64.wrap ((pd.get (x.get 1).toInt.toNat).toInt+pay)))else pd
def YJ (h n:Int):Int:=if 1125899906842624<IntKind.u64.wrap (h+if 1099511627776<n then 1099511627776 else n)then 1125899906842624 else IntKind.u64.wrap (h+if 1099511627776<n then 1099511627776 else n)
theorem z3a (h n:Int):W64 (YJ h n):=by
 have m1:IntKind.u64.min=0:=by decide
 have:=wrap_within ay (h+if 1099511627776<n then 1099511627776 else n);unfold YJ;generalize IntKind.u64.wrap (h+if 1099511627776<n then 1099511627776 else n)=v at this ⊢;split
 ·exact⟨by decide,by decide⟩
 ·exact⟨by omega,by omega⟩
theorem Gu (m:Es):dm [m] 0=m:=rfl
section
variable {rts:C} {yj:List C} {put yi ph un yh:C}
theorem z0h (hr:NW rts) (h:BOk put yi ph un yh) (l:List Ent) (x:C) {d:C} (hd:StC (d.get 0)) (w:Bool) (t:Int) (hN:2199023255552<N):
  (∀k:KD R,JT N (opP l x d w t rts yj put yi ph un yh).2.2.1 k=k [(opP l x d w t rts yj put yi ph un yh).2.2.1] [])/\
  ∀k:KD R,Ja N (opP l x d w t rts yj put yi ph un yh).2.2.1 (opP l x d w t rts yj put yi ph un yh).2.2.1 k=k [.bool true] []:=by
 have key:∀c:C,(c=zB\/∃zu z5E ph' un' z5z,c=mkB (.int 7) CK rts yj zu z5E ph' un' z5z/\BOk zu z5E ph' un' z5z)->(∀k:KD R,JT N c k=k [c] [])/\∀k:KD R,Ja N c c k=k [.bool true] []:=by
  intro c hc;rcases hc with rfl|⟨zu,z5E,ph',un',z5z,rfl,hb⟩
  ·exact⟨fun k=>nY (by omega) k,fun k=>Ut _ (by show(0:Nat)<_;omega) hN k⟩
  ·refine⟨fun k=>Yv _ _ _ _ _ _ _ _ _ hr hb.yh.b.e (by omega) k,fun k=>Ut _ ?_ hN k⟩;have:=hb.yh.b.w.ln;show(z5z.get 4).elems.length<_;omega
 apply key;unfold opP;split
 ·rcases z8 (id:=.int 7) (who:=CK) (rts:=rts) (yj:=yj) h (x.get 1).toInt (x.get 2).toInt with⟨_,p,h1,h2,_⟩|⟨_,h1⟩
  ·exact .inr ⟨_,_,_,_,_,h1,h2⟩
  ·exact .inl h1
 split
 ·rcases aY (id:=.int 7) (who:=CK) (rts:=rts) (yj:=yj) h hd w (x.get 1).toInt with⟨_,_,_,_,h1,h2⟩|⟨_,h1,_⟩
  ·exact .inr ⟨_,_,_,_,_,h1,h2⟩
  ·exact .inl h1
 split
 ·rcases uH (id:=.int 7) (who:=CK) (rts:=rts) (yj:=yj) h hd w t with⟨_,_,_,u,h1,h2⟩|⟨_,h1⟩
  ·exact .inr ⟨_,_,_,_,_,h1,h2⟩
  ·exact .inl h1
 split
 ·rcases q1w (id:=.int 7) (who:=CK) (rts:=rts) (yj:=yj) h hd w t with⟨_,_,h1,h2⟩|⟨_,h1⟩
  ·exact .inr ⟨_,_,_,_,_,h1,h2⟩
  ·exact .inl h1
 ·rcases tB (id:=.int 7) (who:=CK) (rts:=rts) (yj:=yj) h (l.map CF) t with⟨_,_,_,_,h1,_,h2⟩|⟨_,h1,_⟩
  ·exact .inr ⟨_,_,_,_,_,h1,h2⟩
  ·exact .inl h1
theorem z0i (h:BOk put yi ph un yh) (l:List Ent) (x:C) {d:C} (hd:StC (d.get 0)) (w:Bool) (t:Int) (hk:(x.get 0).toInt=1) (he:(opP l x d w t rts yj put yi ph un yh).1=0):0<=(x.get 1).toInt/\(x.get 1).toInt<2:=by
 unfold opP at he;rw[if_neg (by omega),if_pos hk]at he;rcases aY (id:=.int 7) (who:=CK) (rts:=rts) (yj:=yj) h hd w (x.get 1).toInt with⟨_,h1,_⟩|⟨h1,_⟩
 ·omega
 ·exact absurd he h1
theorem q5l (K T x:C) (hK:K.get 0=T) (hT:Cz T) (d:C) (hd:Ys d) (hS:∀k:KD R,Jw N K x k=k [d] []) (hx2:W64 (x.get 2).toInt) (hx5:Ao 32 (x.get 5))
  (h:BOk put yi ph un yh) (hr:ub (.slice 1 (.int .u8)) (.slice yj)) (hro:NW rts) (ht:rts.get 1= .int 2) (t:C) (ht1:t= .int t.toInt) (ht2:W64 t.toInt) (pd:C) (l:List Ent) (hl:l.length<=900) (a b:C)
  (hN:2199023255552<N) (hN2:N<4611686018427387904) (k:KD R):
  Oh N K x (bnd rts yj put yi ph un yh) (bnd rts yj put yi ph un yh) t pd T (.slice (l.map DE)) a b (l.map CF) k=
   if(x.get 0).toInt=5 then k [.bool true,T,.slice (l.map DE),bnd rts yj put yi ph un yh,bnd rts yj put yi ph un yh,.int (YJ t.toInt (x.get 2).toInt),pd] [l.map CF]
   else if(x.get 0).toInt<0\/5<(x.get 0).toInt then k [.bool true,T,.slice ((IL l (x.get 5) t.toInt).2.map DE),bnd rts yj put yi ph un yh,bnd rts yj put yi ph un yh,t,pd] [(IL l (x.get 5) t.toInt).2.map CF]
   else if(opP l x d (Cv rts d 7) t.toInt rts yj put yi ph un yh).1=0 then
    k [.bool true,T,.slice (l.map DE),(opP l x d (Cv rts d 7) t.toInt rts yj put yi ph un yh).2.2.1,(opP l x d (Cv rts d 7) t.toInt rts yj put yi ph un yh).2.2.1,t,Uy (Uz x pd (opP l x d (Cv rts d 7) t.toInt rts yj put yi ph un yh).2.1) (opP l x d (Cv rts d 7) t.toInt rts yj put yi ph un yh).2.2.2] [l.map CF]
   else k [.bool true,T,.slice (l.map DE),bnd rts yj put yi ph un yh,bnd rts yj put yi ph un yh,t,pd] [l.map CF]:=by
 have t0:av 0=0:=rfl;have t1:av 1=1:=rfl;have hz:AI (ct 2 (br ay))=zz:=rfl;have hrt:rts.get 1= .int (rts.get 1).toInt:=by rw[ht];rfl
 have hrl:(rts.get 1).toInt<=10:=by rw[ht];decide
 have hb:=h.yh;have hst:=hb.stn h.put.a h.put.b;have hds:=hd.s.stn h.put.a h.put.b;have hln:=hb.b.w.ln;have hcl:(AY yh).length<1099511627776:=by show(yh.get 4).elems.length<_;omega
 have hW:∀k:KD R,JJ N rts d (.int 7) k=k [.bool (Cv rts d 7)] []:=fun k=>z4R rts d 7 hd.b hrt hrl (by omega) hN2 k;have hW2:∀k:KD R,JZ N T rts d (.int 7) k=k [.bool (Cv rts d 7)] []:=fun k=>z3F T rts d hT 7 hd.b hrt hrl (by omega) k;have hTo:∀k:KD R,Kv N d k=k [d] []:=fun k=>q7N d hd.b (by omega) k;have hbb:=VI hb hd.s;rw[xZ];unfold dV bnd;by_cases z5:(x.get 0).toInt=5
 ·rw[if_pos z5];simp only[AQ,z5,show ¬(5:Int)=0 by decide,show ¬(5:Int)=1 by decide,show ¬(5:Int)=2 by decide,show ¬(5:Int)=3 by decide,show ¬(5:Int)=4 by decide,AE,DN,EF,AJ];rfl
 rw[if_neg z5];by_cases z6:(x.get 0).toInt<0\/5<(x.get 0).toInt
 ·have n0:¬(x.get 0).toInt=0:=by omega
  have n1:¬(x.get 0).toInt=1:=by omega
  have n2:¬(x.get 0).toInt=2:=by omega
  have n3:¬(x.get 0).toInt=3:=by omega
  have n4:¬(x.get 0).toInt=4:=by omega
  rw[if_pos z6];simp only[AQ,n0,n1,n2,n3,n4,z5,AE,UC,DN,EF,AJ,z4u (x.get 5) hx5 t _ _ ht1 l (show 5000<N by omega) hN2,z3s (x.get 5) hx5 t ht1 T hT l (show l.length<=1000 by omega) (show 5000<N by omega),AF,AL,AP,Gu,AB]
 rw[if_neg z6];obtain⟨hF,hSa⟩:=z0h (R:=R) (N:=N) (yj:=yj) hro h l x hd.s (Cv rts d 7) t.toInt hN;have hsd:=z0i (rts:=rts) (yj:=yj) h l x hd.s (Cv rts d 7) t.toInt
 refine(Oc [x,.int (opP l x d (Cv rts d 7) t.toInt rts yj put yi ph un yh).1,.int (opP l x d (Cv rts d 7) t.toInt rts yj put yi ph un yh).1,.int (opP l x d (Cv rts d 7) t.toInt rts yj put yi ph un yh).2.1,.int (opP l x d (Cv rts d 7) t.toInt rts yj put yi ph un yh).2.1,T,.slice (l.map DE),
  mkB (.int 7) CK rts yj put yi ph un yh,mkB (.int 7) CK rts yj put yi ph un yh,t,pd,(opP l x d (Cv rts d 7) t.toInt rts yj put yi ph un yh).2.2.1,(opP l x d (Cv rts d 7) t.toInt rts yj put yi ph un yh).2.2.1,(opP l x d (Cv rts d 7) t.toInt rts yj put yi ph un yh).2.2.2,(opP l x d (Cv rts d 7) t.toInt rts yj put yi ph un yh).2.2.2] [l.map CF] fun K'=>?_).trans ?_
 ·unfold opP;by_cases z0:(x.get 0).toInt=0
  ·simp only[z0,decide_true,cond_true,if_true,q9l hb.b.e.eta,z3c (x.get 1) (x.get 2) h.put.a h.put.b hx2 (by rw[h.put.eta];rfl),AF,AL,DN,EF,AJ,hz]
  by_cases z1:(x.get 0).toInt=1
  ·simp only[AQ,z1,show ¬(1:Int)=0 by decide,AE,hS,hTo,hK,q5o hW hb.b.e.eta hd.s.b.e.eta hN (x.get 1) h.yi.gi hbb.tk,z04 hW2 hds hN (x.get 1),AF,AL,AP,AU,Ab,Av,Ba,DD,Da,FJ,Gb,Ny,Qv,Qw,Qx,Gu,DN,EF,AJ,hz]
  by_cases z2:(x.get 0).toInt=2
  ·simp only[AQ,z2,show ¬(2:Int)=0 by decide,show ¬(2:Int)=1 by decide,AE,hS,hTo,hK,q6b hW hr hb.b.e.eta hd.s.b.e.eta (nX h.put hb).i hd.s.r hN t,z22 hW2 hds hr (nX h.put hbb) hN t ht2,AF,AL,AP,AU,Ab,Av,Ba,DD,Da,FJ,Gb,Ny,Qv,Qw,Qx,Gu,DN,EF,AJ,hz]
  by_cases z3:(x.get 0).toInt=3
  ·simp only[AQ,z3,show ¬(3:Int)=0 by decide,show ¬(3:Int)=1 by decide,show ¬(3:Int)=2 by decide,AE,hS,hTo,hK,z3N hW hb.b.e.eta hd.s.b.e.eta hN t,z3o hW2 hds hN t,AF,AL,AP,AU,Ab,Av,Ba,DD,Da,FJ,Gb,Ny,Qv,Qw,Qx,Gu,DN,EF,AJ,hz]
  have z4:(x.get 0).toInt=4:=by omega
  simp only[AQ,z4,show ¬(4:Int)=0 by decide,show ¬(4:Int)=1 by decide,show ¬(4:Int)=2 by decide,show ¬(4:Int)=3 by decide,AE,q53 hb.b.e.eta hcl (l.map CF) t dw hN,z2T hst h.yi.gi hcl l (show l.length<=1000 by omega) T t hN,AF,AL,AP,AU,Ab,Av,Ba,DD,Da,FJ,Gb,Ny,Qv,Qw,Qx,Gu,UC,DN,EF,AJ,hz]
 ·generalize hop:opP l x d (Cv rts d 7) t.toInt rts yj put yi ph un yh=r at hF hSa hsd ⊢;obtain⟨e,pay,c,out⟩:=r;dsimp only at hF hSa hsd ⊢;rw[AQ];simp only[AF,AL,AP,AU,Ab,Av,Ba,DD,Da,FJ,Gb,Ny,Qv,Qw,Qx,AB,AJ,Gu,AE,q3p,hF,hSa,Ah,DN,EF];by_cases he:e=0
  ·rw[if_pos he];by_cases z1:(x.get 0).toInt=1
   ·have hs2:=hsd z1 he;unfold Uy Uz;simp only[AQ,he,z1,hs2,AE,and_self,AF,AL,AP,AU,Ab,Av,Ba,AJ,Gu,DN,EF,t0,t1,AB]
   ·unfold Uy Uz;simp only[AQ,he,z1,AE,AF,AL,AP,AU,Ab,Av,Ba,AJ,Gu,DN,EF,t0,t1,AB]
  ·rw[if_neg he];simp only[AQ,he,AE,AF,AL,AP,AU,Ab,Av,AJ,Gu,DN,EF]
end
end
def xR {R:Type} (N:Nat) (a0:C) (k1:KD R):Option R:=if ja 0<=2/\2<(↑(aq (au (bc (bc a0 2) (av 0)))):Int)then(if ja 0<=0/\0<(↑(aq (au (bp (au (bc (bc a0 2) (av 0))) (av 2) dw))):Int)then(if ja 0<=2/\2<(↑(aq (au (bc (bc a0 2) (av 1)))):Int)then(if ja 0<=0/\0<(↑(aq (au (bp (au (bc (bc a0 2) (av 1))) (av 2) dw))):Int)then(k1 [db (db (dj [dj [dj (bf 32 (az 0)),dj (bf 32 (az 0))],az 0]) 0 (db (db (AI (ct 2 (ct 32 (br bt)))) 0 (bp (au (bp (au (bc (bc a0 2) (av 0))) (av 2) dw)) (av 0) dw)) 1 (bp (au (bp (au (bc (bc a0 2) (av 1))) (av 2) dw)) (av 0) dw))) 1 (az 2)] [])else none)else none)else none)else none
def Kw:=lid "" (@xR R N)
theorem xS {R N a0 k}:@Kw R N a0 k=xR N a0 k:=by unfold Kw;rw[AV]
def q7W:OvG R:=Ae [ND] (Bw (Kw N)) (BD Gl)
theorem q7X:okX 10 (@q7W R N):=Ai AW N [(10,[(0,[(1,5)])])] [(10,[([9],⟨[],[(2,.as (.ptr (.l 2) [] Gl))],[],[(.l 2,.box (.d Gl))],[],[]⟩)])] (fun _ _=>xS)
def xK {R:Type} (N:Nat) (a0:C) (k1:KD R):Option R:=k1 [db (db (dj [dj [dj (bf 32 (az 0)),dj (bf 32 (az 0))],az 0]) 0 (db (db (AI (ct 2 (ct 32 (br bt)))) 0 (bc (bc a0 0) (av 0))) 1 (bc (bc a0 0) (av 1)))) 1 (bc a0 1)] []
def Og:=lid "" (@xK R N)
theorem xL {R N a0 k}:@Og R N a0 k=xK N a0 k:=by unfold Og;rw[AV]
def q7O:OvG R:=Ae [Gl] (Bw (Og N)) (BD Gl)
theorem q7P:okX 9 (@q7O R N):=Ai AW N [(9,[(0,[(1,5)])])] [(9,[([9],⟨[],[(2,.as (.ptr (.l 2) [] Gl))],[],[(.l 2,.box (.d Gl))],[],[]⟩)])] (fun _ _=>xL)
def kZ {R:Type} (N:Nat) (a0 a1 a2 a3:C) (k1:KD R):Option R:=jn (fun d1 m1=>(bif cz (dk d1 4)then(k1 [az 1,BF] [])else(bif !decide (Cn (au (dk d1 1))=0)then(k1 [az (Cn (au (dk d1 1))),BF] [])else(k1 [az 0,dj [dk d1 0,dk d1 2,dk d1 3,dk d1 1,AI (ct 2 (br ay)),AI (ct 2 (br ay)),AI (br aw),AI (br ay),dj [dk d1 0,AI (br ay),AI (ct 2 (br ay)),AI (ct 2 (br ay)),bj []]]] [])))) (fun k2=>(bif decide (ao (bc a1 (av 0))=ao (bc a1 (av 1)))then(k2 [a0,a3,a1,a2,cg true,BF] [])else(bif decide (ao (bc a2 1)<0)then(k2 [a0,a3,a1,a2,cg true,BF] [])else(k2 [a0,a3,a1,a2,cg (decide (8<ao (bc a2 1))),BF] []))))
def Ps:=lid "" (@kZ R N)
theorem q0C {R N a0 a1 a2 a3 k}:@Ps R N a0 a1 a2 a3 k=kZ N a0 a1 a2 a3 k:=by unfold Ps;rw[AV]
def z2H:OvG R:=Ae [.int .u32,.arr 2 (.int .i64),Gl,.slice 1 (.int .u8)] (fun a=>Ps N (a 0) (a 1) (a 2) (a 3)) fun a K d1 m1=>K (V.tup [V.d Ax (dk d1 1),V.d (br aw) (dk d1 0)]) []
theorem z2I:okX 19 (@z2H R N):=Ai (AH (z1T N) <| AW) N [(19,[(0,[(5,5),(6,5)])])] [(19,[([0,0,1],(AX [0,3,5,6,8] [(25,.d .bool)])),
  ([9],⟨[],[(8,.as (.ptr (.l 8) [] Ax)),(9,.d (.int .i64))],[],[(.l 8,.box (.d Ax))],[],[]⟩)])] (fun _ _=>q0C)
def Zc (a0 a1 a2 a3:C) (k1:KD R):Option R:=jn (fun d1 m1=>(bif cz (dk d1 4)then(k1 [az 1,BF] [])else(bif !decide (Cn (au (dk d1 1))=0)then(k1 [az (Cn (au (dk d1 1))),BF] [])else(PJ N (dk d1 0) (fun d2 m2=>(bif bo (aq (au (dk d1 1))) (aq (au (dk d1 1)))&&true then(k1 [az 0,dj [dk d1 0,dk d1 2,dk d1 3,bj (au (dk d1 1)),AI (ct 2 (br ay)),AI (ct 2 (br ay)),AI (br aw),AI (br ay),dk d2 0]] [])else none)))))) (fun k2=>(bif decide (ao (bc a1 (av 0))=ao (bc a1 (av 1)))then(k2 [a0,a3,a1,a2,cg true,BF] [])else(bif decide (ao (bc a2 1)<0)then(k2 [a0,a3,a1,a2,cg true,BF] [])else(k2 [a0,a3,a1,a2,cg (decide (8<ao (bc a2 1))),BF] []))))
def Nj:=lid "" (@Zc R N)
theorem qA {R N a0 a1 a2 a3 k}:@Nj R N a0 a1 a2 a3 k=Zc N a0 a1 a2 a3 k:=by unfold Nj;rw[AV]
def q3M:OvG R:=Ae [.int .u32,.arr 2 (.int .i64),Gl,.slice 1 (.int .u8)] (fun a=>Nj N (a 0) (a 1) (a 2) (a 3)) fun a K d1 m1=>K (V.tup [V.d Ax (dk d1 1),V.d (br aw) (dk d1 0)]) []
theorem q3N:okX 8 (@q3M R N):=Ai (AH (q33 N) <| AH (Zm N) <| AH (Z6 N) <| AW) N [(8,[(0,[(5,5),(6,5)]),(6,[(39,7)])])] [(8,[([0,0,1],(AX [0,3,5,6,8] [(25,.d .bool)])),
  ([9],⟨[],[(8,.as (.ptr (.l 8) [] Ax)),(9,.d (.int .i64))],[],[(.l 8,.box (.d Ax))],[],[]⟩)])] (fun _ _=>qA)
def q74:Hints:=[([0,1,1,1,1,1],⟨[],[(0,.d .bool)],[],[],[],[]⟩),
  ([9],⟨[],[(0,.d .bool)],[],[],[],[]⟩)]
def xV (N:Nat):OvS (X0 gl0) where
 g R:=[(34,qO N),(89,qP N)]
 ok:=fun R=>uk.2 ⟨Zm N,uk.2 ⟨qQ N,fun _ h=>nomatch h⟩⟩
def Wc {R:Type} (N:Nat) (k1:KD R):Option R:=(jn (fun d1 m1=>(k1 [cg (cz (dk d1 0))] [])) (fun k2=>(k2 [cg true] [])))
def MV {R:Type} (N:Nat):KD R->Option R:=lid "" (Wc N)
theorem xW {R:Type} (N:Nat) (k:KD R):MV N k=Wc N k:=by unfold MV;rw[AV]
theorem q76 {R:Type} (N:Nat) (K:V->List (Key × O)->Option R):exF (X0 gl0) ((xV N).ov R) OT (fun f r=>bif bo f 8 then(bif bo r 0 then[(5,5),(6,5)]else[])else bif bo f 12 then(bif bo r 0 then[(4,5)]else[])else bif bo f 39 then(bif bo r 0 then[(2,5),(3,5)]else[])else bif bo f 65 then(bif bo r 0 then[(3,5),(4,5)]else[])else bif bo f 90 then(bif bo r 0 then[(2,5),(3,5)]else[])else bif bo f 91 then(bif bo r 0 then[(4,5),(6,5),(7,5)]else[])else bif bo f 112 then(bif bo r 0 then[(5,5),(6,5),(9,5)]else[])else bif bo f 135 then(bif bo r 0 then[(2,5),(3,5)]else[])else bif bo f 145 then(bif bo r 0 then[(2,5)]else[])else bif bo f 146 then(bif bo r 0 then[(1,5)]else bif bo r 2 then[(8,100)]else[])else bif bo f 106 then(bif bo r 2 then[(5,16)]else bif bo r 6 then[(5,16)]else bif bo r 8 then[(5,16)]else[])else bif bo f 131 then(bif bo r 4 then[(0,16)]else[])else bif bo f 144 then(bif bo r 5 then[(0,16)]else[])else bif bo f 132 then(bif bo r 1 then[(14,4)]else[])else bif bo f 133 then(bif bo r 7 then[(27,100),(3,16)]else bif bo r 8 then[(3,16)]else[])else bif bo f 147 then(bif bo r 0 then[(1,5)]else[])else bif bo f 136 then(bif bo r 0 then[(2,5),(3,5)]else[])else bif bo f 114 then(bif bo r 0 then[(1,5)]else bif bo r 1 then[(7,1),(9,1)]else[])else bif bo f 137 then(bif bo r 4 then[(16,1)]else[])else bif bo f 138 then(bif bo r 0 then[(3,5)]else bif bo r 1 then[(11,1),(27,1),(33,1)]else bif bo r 5 then[(43,1)]else[])else bif bo f 149 then(bif bo r 4 then[(15,1)]else[])else bif bo f 151 then(bif bo r 0 then[(3,5)]else bif bo r 1 then[(9,1),(14,1),(18,1),(22,1),(26,1)]else[])else bif bo f 66 then(bif bo r 0 then[(2,5),(3,5)]else[])else bif bo f 84 then(bif bo r 0 then[(3,5),(4,5)]else[])else bif bo f 108 then(bif bo r 0 then[(2,5)]else[])else bif bo f 93 then(bif bo r 0 then[(2,5)]else[])else bif bo f 116 then(bif bo r 0 then[(2,5)]else[])else bif bo f 40 then(bif bo r 0 then[(3,5)]else[])else bif bo f 41 then(bif bo r 0 then[(1,5)]else[])else bif bo f 67 then(bif bo r 0 then[(4,5)]else[])else bif bo f 95 then(bif bo r 0 then[(4,5)]else[])else bif bo f 29 then(bif bo r 20 then[(12,6),(3,6)]else[])else bif bo f 83 then(bif bo r 0 then[(4,5)]else[])else bif bo f 107 then(bif bo r 0 then[(4,5)]else[])else bif bo f 134 then(bif bo r 0 then[(3,5)]else[])else bif bo f 58 then(bif bo r 0 then[(4,5),(5,5),(6,5)]else bif bo r 14 then[(61,4)]else bif bo r 18 then[(19,6)]else[])else[]) (fun f=>bif bo f 6 then q74 else[]) N 3000 20 6 [] A0 K=
  MV N (fun d1 m1=>K (V.d ei (cg (cz (dk d1 0)))) []):=by
 rw[xW];exact(show _=jn (fun d1 m1=>(K (V.d ei (cg (cz (dk d1 0)))) [])) (Wc N) by kernel_rfl).trans (AQ _ _)
def xU (N:Nat) {R:Type}:OvG R:=fun xs _ K=>match xs with
 | []=>MV N (fun d1 m1=>K (V.d ei (cg (cz (dk d1 0)))) [])
 |_=>none
theorem q75 (N:Nat) {R:Type}:GOk (X0 gl0) 6 (xU N (R:=R)):=by
 intro xs A Kr r hr;unfold xU at hr;split at hr
 ·skip;rw[<-q76]at hr;exact okA (xV N) hr
 ·cases hr
def xX {R:Type} (N:Nat) (a0:C) (k1:KD R):Option R:=k1 [cg (decide ((↑(aq (au (bc (bc a0 3) 4))):Int)<=12))] []
def Rw:=lid "" (@xX R N)
theorem xY {R N a0 k}:@Rw R N a0 k=xX N a0 k:=by unfold Rw;rw[AV]
def q77:OvG R:=Ae [IK] (Bw (Rw N)) Gz
theorem q78:okX 20 (@q77 R N):=Ai AW N [(20,[(0,[(1,5)])])] [(20,[([9],(Af [(2,.d .bool)]))])] (fun _ _=>xY)
section
variable {R:Type} {N:Nat}
def Rf (T a b:C) (a0 a1 a2 b0 b1 b2:List C):C:=.agg [T,.agg [a,b],.agg [.slice [.slice a0,.slice a1,.slice a2],.slice [.slice b0,.slice b1,.slice b2]]]
theorem q8A (a b:C) (ha:Ao 32 a) (hb:Ao 32 b) (hN:20000<N):∃(T:C) (a0 a1 a2 b0 b1 b2:List C),Cz T/\((a0.length=4/\a1.length=2/\a2.length=1)/\(∀y∈a0,Ao 32 y)/\∀y∈a1,Ao 32 y)/\((b0.length=4/\b1.length=2/\b2.length=1)/\(∀y∈b0,Ao 32 y)/\∀y∈b1,Ao 32 y)/\
  ∀k:KD R,Rv N a b k=k [Rf T a b a0 a1 a2 b0 b1 b2] []:=by
 obtain⟨T,hT,h0⟩:=q8B (R:=R) (N:=N) (fun _ _=>none);obtain⟨a0,a1,a2,e,⟨e0,e1,_⟩,h1⟩:=W6 (R:=R) (N:=N) hT a ha hN;obtain⟨b0,b1,b2,f,⟨f0,f1,_⟩,h2⟩:=W6 (R:=R) (N:=N) hT b hb hN;refine⟨T,a0,a1,a2,b0,b1,b2,hT,⟨e,e0,e1⟩,⟨f,f0,f1⟩,fun k=>?_⟩;rw[xT];unfold dU;simp only[h0,AQ,AF,AL,h1,h2,AJ,bw,cond_true];rfl
theorem z3h (T a b:C) (a0 a1 a2 b0 b1 b2:List C) (ha:a2.length=1) (hb:b2.length=1):∃x y:C,∀k:KD R,Kw N (Rf T a b a0 a1 a2 b0 b1 b2) k=k [.agg [.agg [x,y],.int 2]] []:=by
 obtain⟨x,rfl⟩:∃x,a2=[x]:=by
  match a2,ha with
  | [x],_=>exact⟨x,rfl⟩
 obtain⟨y,rfl⟩:∃y,b2=[y]:=by
  match b2,hb with
  | [y],_=>exact⟨y,rfl⟩
 refine⟨x,y,fun k=>?_⟩;rw[xS];rfl
theorem z3g (x y:C) (k:KD R):Og N (.agg [.agg [x,y],.int 2]) k=k [.agg [.agg [x,y],.int 2]] []:=by rw[xL];rfl
def Ni (rts:C) (yj:List C):C:=bnd rts yj zz zz (.int 0) (.int 0) (stZ 7)
theorem z4Q:db (db (AI (ct 2 (br aw))) 0 (az 0)) 1 (az 1)=CK:=rfl
theorem q9r (x y:C) (yj:List C) (k:KD R):Nj N (.int 7) CK (.agg [.agg [x,y],.int 2]) (.slice yj) k=
  k [.int (Cn yj),if Cn yj=0 then Ni (.agg [.agg [x,y],.int 2]) yj else zB] []:=by
 have e1:(CK.get (av 0)).toInt=0:=rfl;have e2:(CK.get (av 1)).toInt=1:=rfl;have d1:((0:Int)=1)=False:=by simp
 have d0:((dj [.agg [x,y],.int 2]).get 1).toInt=2:=rfl;have d2:¬(2:Int)<0:=by decide
 have d3:¬(8:Int)<2:=by decide
 rw[qA];unfold Zc;rw[Fu];simp only[e1,e2,d0,d1,d2,d3,AQ,AE,AF,AL,AP,AU,Ab,Ah,Z5,AJ,bw,Bool.and_true];by_cases h:Cn yj=0
 ·simp only[h,AE];rfl
 ·simp only[h,AE]
theorem z3e (x y:C) (yj:List C) (k:KD R):Ps N (.int 7) CK (.agg [.agg [x,y],.int 2]) (.slice yj) k=
  k [.int (Cn yj),if Cn yj=0 then Ni (.agg [.agg [x,y],.int 2]) yj else zB] []:=by
 have e1:(CK.get (av 0)).toInt=0:=rfl;have e2:(CK.get (av 1)).toInt=1:=rfl;have d1:((0:Int)=1)=False:=by simp
 have d0:((dj [.agg [x,y],.int 2]).get 1).toInt=2:=rfl;have d2:¬(2:Int)<0:=by decide
 have d3:¬(8:Int)<2:=by decide
 rw[q0C];unfold kZ;rw[Fu];simp only[e1,e2,d0,d1,d2,d3,AQ,AE,AF,AL,AP,AU,Ab,Ah,AJ];by_cases h:Cn yj=0
 ·simp only[h,AE];rfl
 ·simp only[h,AE]
theorem pG (k:KD R):MV N k=k [.bool true] []:=by
 rw[xW];unfold Wc;simp only[AQ,AF,Ah]
theorem uT (x:C) (k:KD R):Rw N x k=k [.bool (decide (((((x.get 3).get 4).elems.length:Nat):Int)<=12))] []:=by
 rw[xY];rfl
structure PS where
 i:Nat
 l:List Ent
 put:C
 yi:C
 ph:C
 un:C
 yh:C
 h:Int
 pd:C
structure Ur (s:PS):Prop where
 b:BOk s.put s.yi s.ph s.un s.yh
 h:W64 s.h
 l:s.l.length<=s.i
structure oB (x:C):Prop where
 n:W64 (x.get 2).toInt
 s:Ao 32 (x.get 5)
section
variable {rts:C} {yj:List C}
theorem z0g {put yi ph un yh:C} (h:BOk put yi ph un yh) (l:List Ent) (x:C) {d:C} (hd:StC (d.get 0)) (w:Bool) (t:Int) (he:(opP l x d w t rts yj put yi ph un yh).1=0):
  ∃zu z5E ph' un' z5z,(opP l x d w t rts yj put yi ph un yh).2.2.1=bnd rts yj zu z5E ph' un' z5z/\BOk zu z5E ph' un' z5z:=by
 unfold opP at he ⊢;split at he
 ·rename_i z;rw[if_pos z];rcases z8 (id:=.int 7) (who:=CK) (rts:=rts) (yj:=yj) h (x.get 1).toInt (x.get 2).toInt with⟨_,p,h1,h2,_⟩|⟨h1,_⟩
  ·exact⟨_,_,_,_,_,h1,h2⟩
  ·exact absurd he h1
 rename_i z0;rw[if_neg z0];split at he
 ·rename_i z;rw[if_pos z];rcases aY (id:=.int 7) (who:=CK) (rts:=rts) (yj:=yj) h hd w (x.get 1).toInt with⟨_,_,_,_,h1,h2⟩|⟨h1,_⟩
  ·exact⟨_,_,_,_,_,h1,h2⟩
  ·exact absurd he h1
 rename_i z1;rw[if_neg z1];split at he
 ·rename_i z;rw[if_pos z];rcases uH (id:=.int 7) (who:=CK) (rts:=rts) (yj:=yj) h hd w t with⟨_,_,_,u,h1,h2⟩|⟨h1,_⟩
  ·exact⟨_,_,_,_,_,h1,h2⟩
  ·exact absurd he h1
 rename_i z2;rw[if_neg z2];split at he
 ·rename_i z;rw[if_pos z];rcases q1w (id:=.int 7) (who:=CK) (rts:=rts) (yj:=yj) h hd w t with⟨_,_,h1,h2⟩|⟨h1,_⟩
  ·exact⟨_,_,_,_,_,h1,h2⟩
  ·exact absurd he h1
 rename_i z3;rw[if_neg z3];rcases tB (id:=.int 7) (who:=CK) (rts:=rts) (yj:=yj) h (l.map CF) t with⟨_,_,_,_,h1,_,h2⟩|⟨h1,_⟩
 ·exact⟨_,_,_,_,_,h1,h2⟩
 ·exact absurd he h1
theorem q5m (K T x:C) (hK:K.get 0=T) (hT:Cz T) (d:C) (hd:Ys d) (hS:∀k:KD R,Jw N K x k=k [d] []) (hx:oB x)
  (hr:ub (.slice 1 (.int .u8)) (.slice yj)) (hro:NW rts) (ht:rts.get 1= .int 2) (s:PS) (hs:Ur s) (hi:s.i<=30) (a b:C) (hN:2199023255552<N) (hN2:N<4611686018427387904):
  ∃s':PS,Ur s'/\s'.i=s.i+1/\∀k:KD R,Oh N K x (bnd rts yj s.put s.yi s.ph s.un s.yh) (bnd rts yj s.put s.yi s.ph s.un s.yh) (.int s.h) s.pd T (.slice (s.l.map DE)) a b (s.l.map CF) k=
   k [.bool true,T,.slice (s'.l.map DE),bnd rts yj s'.put s'.yi s'.ph s'.un s'.yh,bnd rts yj s'.put s'.yi s'.ph s'.un s'.yh,.int s'.h,s'.pd] [s'.l.map CF]:=by
 have hl:=hs.l;have hq:=fun k:KD R=>q5l K T x hK hT d hd hS hx.n hx.s hs.b hr hro ht (.int s.h) rfl hs.h s.pd s.l (by omega) a b hN hN2 k;by_cases z5:(x.get 0).toInt=5
 ·exact⟨⟨s.i+1,s.l,s.put,s.yi,s.ph,s.un,s.yh,YJ s.h (x.get 2).toInt,s.pd⟩,⟨hs.b,z3a _ _,by show s.l.length<=s.i+1;omega⟩,rfl,fun k=>by rw[hq,if_pos z5];rfl⟩
 by_cases z6:(x.get 0).toInt<0\/5<(x.get 0).toInt
 ·have:=z4v s.l (x.get 5) s.h;exact⟨⟨s.i+1,(IL s.l (x.get 5) s.h).2,s.put,s.yi,s.ph,s.un,s.yh,s.h,s.pd⟩,⟨hs.b,hs.h,by show(IL s.l (x.get 5) s.h).2.length<=s.i+1;omega⟩,rfl,fun k=>by rw[hq,if_neg z5,if_pos z6];rfl⟩
 by_cases he:(opP s.l x d (Cv rts d 7) s.h rts yj s.put s.yi s.ph s.un s.yh).1=0
 ·obtain⟨zu,z5E,ph',un',z5z,h1,h2⟩:=z0g hs.b s.l x hd.s (Cv rts d 7) s.h he;refine⟨⟨s.i+1,s.l,zu,z5E,ph',un',z5z,s.h,Uy (Uz x s.pd (opP s.l x d (Cv rts d 7) s.h rts yj s.put s.yi s.ph s.un s.yh).2.1) (opP s.l x d (Cv rts d 7) s.h rts yj s.put s.yi s.ph s.un s.yh).2.2.2⟩,⟨h2,hs.h,by show s.l.length<=s.i+1;omega⟩,rfl,fun k=>?_⟩;rw[hq,if_neg z5,if_neg z6];refine(if_pos he).trans ?_;dsimp only;rw[show ao (az s.h)=s.h from rfl,h1]
 ·refine⟨⟨s.i+1,s.l,s.put,s.yi,s.ph,s.un,s.yh,s.h,s.pd⟩,⟨hs.b,hs.h,by show s.l.length<=s.i+1;omega⟩,rfl,fun k=>?_⟩;rw[hq,if_neg z5,if_neg z6];exact if_neg he
theorem z4e {x:C} (h:ub IK x):oB x:=⟨(Ln (C.Gp (i:=2) h rfl)).1,Qg (C.Gp (i:=5) (f:=.arr 32 (.int .u8)) h rfl)⟩
end
end
def WY (k1:KD R) (k2:KD R):KD R->KD R:=fun k3 d8 m8=>(bif decide (ao (dk d8 3)<ao (dk d8 2))then(if 0<=ao (dk d8 3)/\ao (dk d8 3)<(↑(aq (au (dk d8 1))):Int)then(jn (fun d9 m9=>(bif cz (dk d9 4)then(k2 [] [])else(jn (fun d10 m10=>(bif cz (dk d10 4)then(k1 [cg false] [])else(if BV Ag (dE Ag (dm m10 0))=true then(k3 [dk d10 0,dk d10 1,dk d10 2,az (ar aw (ao (dk d10 3)+1)),dk d10 5,bj (au (dk d10 6)),dk d10 7,dk d10 8,dk d10 9,dk d10 10] [unE (dE Ag (dm m10 0))])else none))) (fun k4=>(if BV Ag (dg (Az (swU (dt 4) (dt 23046))) (dg (Az (swU (dt 3) (dt 66001))) (dg (Az (swU (dt 2) (dt 66003))) (dg (Az (swU (dt 1) (dt 23048))) (dg (Az gb) (dE Ag (dm m9 0)))))))=true then(Oh N (dk d9 0) (dk d9 11) (dk d9 7) (dk d9 8) (dk d9 9) (dk d9 10) (dk d9 5) (bj (au (dk d9 6))) dw dw (unE (dg (Az (swU (dt 4) (dt 23046))) (dg (Az (swU (dt 3) (dt 66001))) (dg (Az (swU (dt 2) (dt 66003))) (dg (Az (swU (dt 1) (dt 23048))) (dg (Az gb) (dE Ag (dm m9 0)))))))) (fun d10 m10=>(bif !cz (dk d10 0)then(if BV Ag (dg (Az (dn 69)) (dg (Az (swU (dt 1) (dt 23048))) (dg (Az (swU (dt 2) (dt 66003))) (dg (Az (swU (dt 3) (dt 66001))) (dg (Az (swU (dt 4) (dt 23046))) (dE Ag (dm m10 0)))))))=true then(k4 [dk d9 0,dk d9 1,dk d9 2,dk d9 3,cg true,dk d10 1,bj (au (dk d10 2)),dk d10 3,dk d10 4,dk d10 5,dk d10 6] [unE (dg (Az (dn 69)) (dg (Az (swU (dt 1) (dt 23048))) (dg (Az (swU (dt 2) (dt 66003))) (dg (Az (swU (dt 3) (dt 66001))) (dg (Az (swU (dt 4) (dt 23046))) (dE Ag (dm m10 0)))))))])else none)else(Qb N (dk d10 3) (fun d11 m11=>(Tx N (dk d10 4) (fun d12 m12=>(if BV Ag (dg (Az (dn 69)) (dg (Az (swU (dt 1) (dt 23048))) (dg (Az (swU (dt 2) (dt 66003))) (dg (Az (swU (dt 3) (dt 66001))) (dg (Az (swU (dt 4) (dt 23046))) (dE Ag (dm m10 0)))))))=true then(k4 [dk d9 0,dk d9 1,dk d9 2,dk d9 3,cg !decide (ao (dk d11 0)=ao (dk d12 0)),dk d10 1,bj (au (dk d10 2)),dk d10 3,dk d10 4,dk d10 5,dk d10 6] [unE (dg (Az (dn 69)) (dg (Az (swU (dt 1) (dt 23048))) (dg (Az (swU (dt 2) (dt 66003))) (dg (Az (swU (dt 3) (dt 66001))) (dg (Az (swU (dt 4) (dt 23046))) (dE Ag (dm m10 0)))))))])else none))))))))else none))))) (fun k4=>(bif decide (30<=ao (dk d8 3))then(if BV Ag (dE Ag (dm m8 0))=true then(k4 [dk d8 0,dk d8 1,dk d8 2,dk d8 3,cg true,dk d8 4,bj (au (dk d8 5)),dk d8 6,dk d8 7,dk d8 8,dk d8 9,bp (au (dk d8 1)) (av (ao (dk d8 3))) dw] [unE (dE Ag (dm m8 0))])else none)else(Rw N (bp (au (dk d8 1)) (av (ao (dk d8 3))) dw) (fun d9 m9=>(if BV Ag (dE Ag (dm m8 0))=true then(k4 [dk d8 0,dk d8 1,dk d8 2,dk d8 3,cg !cz (dk d9 0),dk d8 4,bj (au (dk d8 5)),dk d8 6,dk d8 7,dk d8 8,dk d8 9,bp (au (dk d8 1)) (av (ao (dk d8 3))) dw] [unE (dE Ag (dm m8 0))])else none))))))else none)else(k2 [] []))
def dS (a0 a1 a2 a3:C) (k1:KD R):Option R:=Rv N a0 a1 (fun d1 m1=>(Kw N (dk d1 0) (fun d2 m2=>(Ps N (az 7) (db (db (AI (ct 2 (br aw))) 0 (az 0)) 1 (az 1)) (dk d2 0) a2 (fun d3 m3=>(Kw N (dk d1 0) (fun d4 m4=>(Og N (dk d4 0) (fun d5 m5=>(Nj N (az 7) (db (db (AI (ct 2 (br aw))) 0 (az 0)) 1 (az 1)) (dk d5 0) a2 (fun d6 m6=>(jn (fun d7 m7=>(bif cz (dk d7 3)then(Kw N (dk d1 0) (fun d8 m8=>(Ps N (az 7) (db (db (AI (ct 2 (br aw))) 0 (az 0)) 1 (az 1)) (dk d8 0) a2 (fun d9 m9=>(Kw N (dk d1 0) (fun d10 m10=>(Og N (dk d10 0) (fun d11 m11=>(Nj N (az 7) (db (db (AI (ct 2 (br aw))) 0 (az 0)) 1 (az 1)) (dk d11 0) a2 (fun d12 m12=>(jn (fun d13 m13=>(k1 [cg (cz (dk d13 0))] [])) (fun k2=>(MV N (fun d13 m13=>(bif cz (dk d13 0)then(bif !decide (ao (dk d9 0)=0)then(k2 [cg (decide (ao (dk d12 0)=ao (dk d9 0)))] [])else(k2 [cg false] []))else(k2 [cg false] []))))))))))))))))else(jn (fun d8 m8=>(MV N (fun d9 m9=>(k1 [cg (cz (dk d9 0))] [])))) (fun k2=>(Ac N (WY N k1 k2) [dk d1 0,a3,az (↑(aq (au a3)):Int),az 0,bc (dk d7 0) 0,bj [],dk d7 2,dk d7 1,AI (br ay),AI (ct 2 (br ay))] [unE []]))))) (fun k2=>(bif !decide (ao (dk d6 0)=ao (dk d3 0))then(k2 [dk d1 0,dk d3 1,dk d6 1,cg true] [])else(JT N (dk d6 1) (fun d7 m7=>(Ja N (dk d7 0) (dk d3 1) (fun d8 m8=>(bif !cz (dk d8 0)then(k2 [dk d1 0,dk d3 1,dk d6 1,cg true] [])else(k2 [dk d1 0,dk d3 1,dk d6 1,cg !decide (ao (dk d3 0)=0)] []))))))))))))))))))))
def WZ:=lid "" (@dS R N)
theorem xN {R N a0 a1 a2 a3 k}:@WZ R N a0 a1 a2 a3 k=dS N a0 a1 a2 a3 k:=by unfold WZ;rw[AV]
def dR:OvG R:=Ae [.arr 32 (.int .u8),.arr 32 (.int .u8),.slice 1 (.int .u8),.slice 136 IK] (fun a=>WZ N (a 0) (a 1) (a 2) (a 3)) Gz
theorem q7S:okX 4 (@dR R N):=Ai (AH (q75 N) <| AH (q73 N) <| AH (q3N N) <| AH (q7P N) <| AH (q7X N) <| AH (z2I N) <| AH (q0D N) <| AH (xO N) <| AH (q78 N) <| AH (q8b N) <| AH (q3C N) <| AH (z2D N) <| AW) N [(4,[(0,[(4,5),(5,5)]),(7,[(9,6)]),(11,[(76,7),(81,7),(9,6),(16,6)])]),(18,[(0,[(2,5)]),(3,[(31,7),(33,7),(5,6),(7,6)]),(5,[(5,6),(7,6)])])] [(4,[([0,1,1,2,1,0,1,1,1],(Af [(8,.d .bool)])),
  ([1,0,1,1,1,1],(Af [])),
  ([9],(Af [(8,.d .bool)])),
  ([4,1,0,1,1,1,1],⟨[9,10,52,53],[(54,.d (.int .i64))],[],[(.l 23046,.box (.agg DJ [.d Bo,.ts 72 ER]))],[],[]⟩),
  ([0,0,1,4,0,1,1,5,4,1,0,1,1,1,1],⟨[9,10,16,52,53,54],[(65,.d .bool)],[],[(.l 23046,.box (.agg DJ [.d Bo,.ts 72 ER]))],[],[]⟩),
  ([0,1,1,4,0,1,1,5,4,1,0,1,1,1,1],⟨[9,10,52,53,54],[(83,.d .bool)],[],[(.l 23046,.box (.agg DJ [.d Bo,.ts 72 ER]))],[],[]⟩)]),(18,[([0,0,1,1,1],(AX [2,5,7] [(39,.d .bool)]))])] (fun _ _=>xN)
section
variable {R:Type} {N:Nat}
section
variable {rts:C} {yj:List C}
theorem z0L (T sa sb:C) (hT:Cz T) (hsa:Ao 32 sa) (hsb:Ao 32 sb) (a0 a1 a2 b0 b1 b2:List C) (ga0:∀y∈a0,Ao 32 y) (ga1:∀y∈a1,Ao 32 y) (gb0:∀y∈b0,Ao 32 y) (gb1:∀y∈b1,Ao 32 y) (ha0:a0.length=4) (ha1:a1.length=2) (ha2:a2.length=1) (hb0:b0.length=4) (hb1:b1.length=2) (hb2:b2.length=1)
  (hr:ub (.slice 1 (.int .u8)) (.slice yj)) (hro:NW rts) (ht:rts.get 1= .int 2) (xs:List C) (hxs:∀x∈xs,ub IK x) (hl:xs.length<2199023255552) (hN:2199023255552<N) (hN2:N<4611686018427387904) (k1 k2:KD R):
  ∀s:PS,Ur s->Ac N (WY N k1 k2) [Rf T sa sb a0 a1 a2 b0 b1 b2,.slice xs,.int xs.length,.int s.i,T,.slice (s.l.map DE),bnd rts yj s.put s.yi s.ph s.un s.yh,bnd rts yj s.put s.yi s.ph s.un s.yh,.int s.h,s.pd] [s.l.map CF]=k2 [] []:=by
 intro s0 hs0;refine Hr (F:=WY N k1 k2) (fun s:PS=>[Rf T sa sb a0 a1 a2 b0 b1 b2,.slice xs,.int xs.length,.int s.i,T,.slice (s.l.map DE),bnd rts yj s.put s.yi s.ph s.un s.yh,bnd rts yj s.put s.yi s.ph s.un s.yh,.int s.h,s.pd]) (fun s=>[s.l.map CF]) (fun s=>xs.length-s.i) Ur (fun _=>k2 [] []) (fun s hs rec zd=>?_) N s0 hs0 (by show xs.length-s0.i<N;omega);unfold WY;by_cases e1:s.i<xs.length
 case neg=>
  have e1':¬(s.i:Int)<(xs.length:Int):=by omega
  simp only[AP,AU,AB,e1',AE]
 have e1':(s.i:Int)<(xs.length:Int):=by omega
 have e2':0<=(s.i:Int)/\(s.i:Int)<(xs.length:Int):=by omega
 by_cases e3:30<=s.i
 ·have e3':(30:Int)<=(s.i:Int):=by omega
  simp only[AQ,AF,AL,AP,AU,Ab,AB,Ah,AJ,e1',e2',e3',AE,and_self,DN,Gu]
 have e3':¬(30:Int)<=(s.i:Int):=by omega
 have hx:=hxs _ (CR e1);by_cases e4:(((xs.getD s.i .nil).get 3).get 4).elems.length<=12
 case neg=>
  have e4':¬(((((xs.getD s.i .nil).get 3).get 4).elems.length:Nat):Int)<=12:=by omega
  simp only[AQ,AF,AL,AP,AU,Ab,AB,Ah,AJ,e1',e2',e3',AE,and_self,DN,Gu,bh,uT,e4']
 have e4':(((((xs.getD s.i .nil).get 3).get 4).elems.length:Nat):Int)<=12:=by omega
 have hw3:ub Bi ((xs.getD s.i .nil).get 3):=C.Gp (i:=3) hx rfl;obtain⟨d,hd,hS⟩:=z3O (R:=R) (N:=N) hT _ sa sb (xs.getD s.i .nil) rfl hsa hsb a0 a1 a2 b0 b1 b2 ga0 ga1 gb0 gb1 ha0 ha1 ha2 hb0 hb1 hb2 (z4a hw3 e4) (iB (C.Gp (i:=2) hw3 rfl)).1 (by omega);obtain⟨s',hs',hi',hq⟩:=q5m (R:=R) (N:=N) (Rf T sa sb a0 a1 a2 b0 b1 b2) T (xs.getD s.i .nil) rfl hT d hd hS (z4e hx) hr hro ht s hs (by omega) .nil .nil hN hN2;have hr':=zd s' hs' (by omega);rw[hi']at hr';simp only[AQ,AF,AL,AP,AU,Ab,Av,Ba,DD,Da,FJ,Gb,Ny,AB,Ah,AJ,e1',e2',e3',AE,and_self,DN,EF,UC,Gu,bh,uT,e4',hq];unfold bnd at hr' ⊢;simp only[q8w,z3b,AF,AL,AP,AU,Ab,Av,Ba,DD,Da,FJ,Gb,AB,Ah,AJ,AE,DN,EF,UC,Gu,BM (show s.i<4611686018427387904 by omega),hr']
end
theorem q2V (a b r s:C) (ha:ub (.arr 32 (.int .u8)) a) (hb:ub (.arr 32 (.int .u8)) b) (hr:ub (.slice 1 (.int .u8)) r) (hs:ub (.slice 136 IK) s) (hN:2199023255552<N) (hN2:N<4611686018427387904) (k:KD R):WZ N a b r s k=k [.bool true] []:=by
 have hr1:r= .slice r.elems:=by simp only[ub]at hr;exact hr.1
 have hs1:s= .slice s.elems:=by simp only[ub]at hs;exact hs.1
 have hs2:s.elems.length<2199023255552/\∀x∈s.elems,ub IK x:=by
  simp only[ub]at hs;exact⟨by omega,hs.2.2.2⟩
 generalize r.elems=yj at hr1;generalize s.elems=xs at hs1 hs2;subst hr1 hs1;have ba:=Qg ha;have bb:=Qg hb;obtain⟨T,a0,a1,a2,b0,b1,b2,hT,⟨⟨ha0,ha1,ha2⟩,ga0,ga1⟩,⟨⟨hb0,hb1,hb2⟩,gb0,gb1⟩,z7z⟩:=q8A (R:=R) (N:=N) a b ba bb (by omega);obtain⟨x,y,z7e⟩:=z3h (R:=R) (N:=N) T a b a0 a1 a2 b0 b1 b2 ha2 hb2;have hro:NW (.agg [.agg [x,y],.int 2]):=rfl;rw[xN];unfold dS;simp only[z4Q,z7z,z7e,z3e,z3g,q9r,AF,AL,AQ,AB,AE];by_cases h:Cn yj=0
 ·have z7f:BOk zz zz (.int 0) (.int 0) (stZ 7):=by
   have hz:Gs zz:=⟨rfl,⟨by decide,by decide⟩,⟨by decide,by decide⟩⟩;refine⟨hz,hz,rfl,rfl,⟨⟨⟨⟨by decide,by decide⟩,⟨by decide,by decide⟩,⟨by decide,by decide⟩,⟨by decide,by decide⟩,⟨by decide,by decide⟩,⟨by decide,by decide⟩,(fun c hc=>nomatch hc),Nat.zero_le _⟩,⟨rfl,(fun c hc=>nomatch hc),Nat.zero_le _⟩,(fun c hc=>nomatch hc),by decide⟩,rfl,rfl,rfl⟩⟩
  have e1:∀k:KD R,JT N (Ni (.agg [.agg [x,y],.int 2]) yj) k=k [Ni (.agg [.agg [x,y],.int 2]) yj] []:=fun k=>Yv _ _ _ _ _ _ _ _ _ hro z7f.yh.b.e (by omega) k;have e2:∀k:KD R,Ja N (Ni (.agg [.agg [x,y],.int 2]) yj) (Ni (.agg [.agg [x,y],.int 2]) yj) k=k [.bool true] []:=fun k=>Ut _ (by show(0:Nat)<_;omega) hN k;simp only[h,AE,e1,e2,AF,AL,AP,AU,Ah,AJ];exact(z0L T a b hT ba bb a0 a1 a2 b0 b1 b2 ga0 ga1 gb0 gb1 ha0 ha1 ha2 hb0 hb1 hb2 hr hro rfl xs hs2.2 hs2.1 hN hN2 _ _ ⟨0,[],zz,zz,.int 0,.int 0,stZ 7,0,zz⟩ ⟨z7f,⟨by decide,by decide⟩,Nat.le_refl _⟩).trans (by simp only[pG,AF,Ah])
 ·have e2:∀k:KD R,Ja N zB zB k=k [.bool true] []:=fun k=>Ut _ (by show(0:Nat)<_;omega) hN k;simp only[h,AE,nY (show 2000<N by omega),e2,pG,AF,AL,AP,AU,Ah]
theorem z3t (A:Key->Option O) (a b r s:C):Bg (X0 gl0) 4 [.d (.arr 32 (.int .u8)) a,.d (.arr 32 (.int .u8)) b,.d (.slice 1 (.int .u8)) r,.d (.slice 136 IK) s] A (.d .bool (.bool true)) []:=by
 refine VZ (ts:=[.arr 32 (.int .u8),.arr 32 (.int .u8),.slice 1 (.int .u8),.slice 136 IK]) (cs:=[a,b,r,s]) fun W=>?_;refine XE (q7S 2199023255553) ?_;show dR 2199023255553 [.d (.arr 32 (.int .u8)) a,.d (.arr 32 (.int .u8)) b,.d (.slice 1 (.int .u8)) r,.d (.slice 136 IK) s] A kR=_;simp only[dR,Ae,Kd,and_self,if_true,AF,AL,AP,AU,Ab,Bw,Bq,Eb,BD,Gz];rw[q2V a b r s (W 0 _ _ rfl rfl) (W 1 _ _ rfl rfl) (W 2 _ _ rfl rfl) (W 3 _ _ rfl rfl) (by omega) (by omega)];rfl
end
end Go.Proofs.YtgdonkaoajbclaaGreatDoor
