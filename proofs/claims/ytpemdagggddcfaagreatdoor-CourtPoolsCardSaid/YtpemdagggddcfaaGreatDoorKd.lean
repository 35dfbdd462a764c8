/-
 What the functions on the way compute, part 4.
 Conditions: none.
-/
import Derived.Test.YtpemdagggddcfaaGreatDoorKc
import Derived.WalkLawsBesides
set_option linter.all false
noncomputable section
set_option maxRecDepth 100000
set_option maxHeartbeats 4000000
open Array renaming ext->rz,getElem?_eq_getElem->dz
open Go.E.C renaming agg->fh,bool->dw,elems->bq,get->cd,int->br,set->dt,slice->cz,toBool->ez,toInt->bp
open Go.E.Key renaming g->ei,l->df
open Go.E.O renaming box->fx,dead->gf
open Go.E.Ty renaming arr->dc,int->cg
open Go.E.V renaming agg->mb,sr->nq
open Go.IntKind renaming i64->ca,u64->bw,u8->de,wrap->bu
open Int renaming toNat->bo,toNat_natCast->bx
open List renaming drop_zero->kr,length->bn,replicate->dh
open Nat renaming eq_zero_or_pos->lg,zero_add->cf
open Option renaming ite_none_right_eq_some->bt
namespace Go.Proofs.YtpemdagggddcfaaGreatDoor
open Go Go.E
variable {R:Type} (N:Nat)
def Wi (a0 a1 a2:C) (k1:KD R):Option R:=bif decide (bp (cd a0 6)=0)then(k1 [br 3,Cg] [])else(LY N a0 a1 (fun d1 m1=>(bif !decide (bp (dk d1 0)=0)then(k1 [dk d1 0,Cg] [])else(bif decide (bp (cd a0 7)<=bp a2)then(k1 [br 29,Cg] [])else(bif decide (bp (cd (cd a1 0) 1)<=bp (cd (cd a0 8) 1))then(k1 [br 25,Cg] [])else(LX N a0 a1 (fun d2 m2=>(k1 [br 0,dk d2 0] []))))))))
def NC:=lid "" (@Wi R N)
theorem fR {R N a0 a1 a2 k}:@NC R N a0 a1 a2 k=Wi N a0 a1 a2 k:=by unfold NC;rw[Ao]
def ab:OvG R:=BW [AQ,Ch,.int .u64] (Io (NC N)) fun a K d1 m1=>K (V.tup [V.d AQ (dk d1 1),V.d (cg ca) (dk d1 0)]) []
theorem ae:okX 106 (@ab R N):=Bf (AR (Wo N) <| AR (Wm N) <| Aq) N [(106,[(0,[(3,5),(4,5)])])] [(106,[([9],⟨[],[(6,.as (.ptr (.l 6) [] AQ)),(7,.d (.int .i64))],[],[(.l 6,.box (.d AQ))],[],[]⟩)])] (fun _ _=>fR)
def Vn {R:Type} (N:Nat) (k1:KD R) (k2:KD R):KD R->KD R:=fun k3 d1 m1=>(bif decide (bp (dk d1 3)<bp (dk d1 2))then(if 0<=bp (dk d1 3)/\bp (dk d1 3)<(↑(bn (bq (dk d1 0))):Int)then(bif decide (bp (dk d1 1)=bp (List.getD (bq (dk d1 0)) (bo (bp (dk d1 3))) C.nil))then(k1 [dk d1 3] [])else(k3 [dk d1 0,dk d1 1,dk d1 2,br (bu ca (bp (dk d1 3)+1))] []))else none)else(k2 [] []))
def cK (a0 a1:C) (k1:KD R):Option R:=jn (fun d1 m1=>(k1 [br (-1)] [])) (fun k2=>(BP N (Vn N k1 k2) [a0,a1,br (↑(bn (bq a0)):Int),br 0] []))
def Oq:=lid "" (@cK R N)
theorem vY {R N a0 a1 k}:@Oq R N a0 a1 k=cK N a0 a1 k:=by unfold Oq;rw[Ao]
def q53:OvG R:=BW [.slice 8 (.int .i64),.int .i64] (De (Oq N)) (Cf (cg ca))
theorem vX:okX 62 (@q53 R N):=Bf Aq N [] [(62,[([1,0,1],(Bh [])),
  ([4,1,0,1],(Bv [0,1,7] [(8,.d (.int .i64))])),
  ([9],(Bh [(4,.d (.int .i64))]))])] (fun _ _=>vY)
def Wj (a0 a1:C) (k1:KD R):Option R:=Oq N (cz (cut (bq (cd a0 1)) 0 2)) a1 (fun d1 m1=>(k1 [br (if bp (dk d1 0)<0 then 0 else bp (dk d1 0)),dw (decide (0<=bp (dk d1 0)))] []))
def PM:=lid "" (@Wj R N)
theorem fS {R N a0 a1 k}:@PM R N a0 a1 k=Wj N a0 a1 k:=by unfold PM;rw[Ao]
def ag:OvG R:=BW [AQ,.int .i64] (De (PM N)) fun a K d1 m1=>K (V.tup [V.d (cg ca) (dk d1 0),V.d Ty.bool (dw (ez (dk d1 1)))]) []
theorem ah:okX 102 (@ag R N):=Bf (AR (vX N) <| Aq) N [(102,[(0,[(2,5)]),(1,[(10,8)])])] [(102,[([9],(Bh [(4,.d (.int .i64)),(5,.d .bool)]))])] (fun _ _=>fS)
def Wr (a0 a1 a2 a3:C) (k1:KD R):Option R:=jn (fun d1 m1=>(bif ez (dk d1 4)then(k1 [br 1,Cg] [])else(bif !decide (Ek (bq (dk d1 1))=0)then(k1 [br (Ek (bq (dk d1 1))),Cg] [])else(OM N (dk d1 0) (fun d2 m2=>(bif Nat.beq (bn (bq (dk d1 1))) (bn (bq (dk d1 1)))&&true then(k1 [br 0,fh [dk d1 0,dk d1 2,dk d1 3,cz (bq (dk d1 1)),AO (dc 2 (cg bw)),AO (dc 2 (cg bw)),AO (cg ca),AO (cg bw),dk d2 0]] [])else none)))))) (fun k2=>(bif decide (bp (cd a1 (bo 0))=bp (cd a1 (bo 1)))then(k2 [a0,a3,a1,a2,dw true,Cg] [])else(bif decide (bp (cd a2 1)<0)then(k2 [a0,a3,a1,a2,dw true,Cg] [])else(k2 [a0,a3,a1,a2,dw (decide (8<bp (cd a2 1))),Cg] []))))
def ND:=lid "" (@Wr R N)
theorem fX {R N a0 a1 a2 a3 k}:@ND R N a0 a1 a2 a3 k=Wr N a0 a1 a2 a3 k:=by unfold ND;rw[Ao]
def aq:OvG R:=BW [.int .u32,.arr 2 (.int .i64),Ci,.slice 1 (.int .u8)] (fun a=>ND N (a 0) (a 1) (a 2) (a 3)) fun a K d1 m1=>K (V.tup [V.d AQ (dk d1 1),V.d (cg ca) (dk d1 0)]) []
theorem ar:okX 100 (@aq R N):=Bf (AR (TF N) <| AR (u0 N) <| AR (sW N) <| Aq) N [(100,[(0,[(5,5),(6,5)]),(6,[(39,7)])])] [(100,[([0,0,1],(Bv [0,3,5,6,8] [(25,.d .bool)])),
  ([9],⟨[],[(8,.as (.ptr (.l 8) [] AQ)),(9,.d (.int .i64))],[],[(.l 8,.box (.d AQ))],[],[]⟩)])] (fun _ _=>fX)
def ZV (a0:C) (k1:KD R):Option R:=Jt N (br 6) (cz [cz (cut (bq a0) 0 32)]) (fun d1 m1=>(k1 [dk d1 0] []))
def RA:=lid "" (@ZV R N)
theorem pT {R N a0 k}:@RA R N a0 k=ZV N a0 k:=by unfold RA;rw[Ao]
def q20:OvG R:=BW [.arr 32 (.int .u8)] (DR (RA N)) (Cf (dc 32 (cg de)))
theorem q21:okX 99 (@q20 R N):=Bf (AR (Qz N) <| Aq) N [(99,[(0,[(1,5)])])] [(99,[([9],⟨[],[(2,.as (.ptr (.l 2) [] (.arr 32 (.int .u8))))],[],[(.l 2,.box (.d (.arr 32 (.int .u8))))],[],[]⟩)])] (fun _ _=>pT)
def q3S:List Sh:=[.as (.ptr (.g (.l 1)) [] Bc),.d (.arr 32 (.int .u8)),.d (.int .u64)]
def q3V:List (Key × OSh):=[(.l 1,.box (.agg Bc [.as (.mp (.g (.l 2)))])),(.l 2,.map (.arr 32 (.int .u8)) AB)]
def Uv (a0 a1 a2 b0:C) (m0:Es) (k1:KD R):Option R:=RA N a0 (fun d1 m1=>(bif DY AB (dE AB m0)then(bif Hd (dE AB m0) (dk d1 0)then(if AW AB (dE AB m0)=true then(k1 [br 7] [unE (dE AB m0)])else none)else(if AW AB (Fg (dE AB (dm [m0] 0)) (dk d1 0) (V.d AB (dt (dt (fh [fh (dh 32 (br 0)),br 0]) 0 a0) 1 a1)))=true then(k1 [br 0] [unE (Fg (dE AB (dm [m0] 0)) (dk d1 0) (V.d AB (dt (dt (fh [fh (dh 32 (br 0)),br 0]) 0 a0) 1 a1)))])else none))else none))
def RW:=lid "" (@Uv R N)
theorem Zs {R N a0 a1 a2 b0 m0 k}:@RW R N a0 a1 a2 b0 m0 k=Uv N a0 a1 a2 b0 m0 k:=by unfold RW;rw[Ao]
def q3T:OvG R:=Ca q3S q3V (fun ds ms=>RW N (dk ds 0) (dk ds 1) (dk ds 2) (dk ds 3) (dm ms 0)) fun ds ms K d1 m1=>K (V.d (cg ca) (dk d1 0)) [(ei (df 1),fx (mb Bc [V.mp (ei (df 2))])),
 (ei (df 2),O.map (dc 32 (cg de)) AB (dE AB (dm m1 0)))]
theorem q3U:okX 81 (@q3T R N):=Cc (AR (q21 N) <| Aq) N [(81,[(0,[(4,5)]),(4,[(7,6)]),(7,[(7,6)])])] [(81,[([9],⟨[],[(6,.d (.int .i64))],[.g (.l 1),.g (.l 2)],[],[],[]⟩)])] (fun _ _ _=>Zs)
section
variable {R:Type} {N:Nat}
theorem yS {a b:Int}:W64 (Bp a b).1:=by unfold Bp;split;{exact⟨Int.emod_nonneg _ (by decide),Int.emod_lt_of_pos _ (by decide)⟩};{exact⟨by decide,by decide⟩}
section
variable {id who rts:C} {wm:List C} {put wj ph un wg:C}
def LB (id who rts:C) (wm:List C) (put wj ph un wg d:C) (w:Bool) (wh:Int):Int × C:=
 if ph.toInt=0 then(3,zB)else if GU ph put wj wg d w≠0 then(GU ph put wj wg d w,zB)else
  if un.toInt<=wh then(29,zB)else if((d.get 0).get 1).toInt<=(wg.get 1).toInt then(25,zB)else(0,mkB id who rts wm put wj ph un (Cq wg d))
theorem q5Q {d:C} {w:Bool} (hW:∀k:KD R,Jb N rts d id k=k [.bool w] []) (h:SOk wg) (hd:SOk (d.get 0)) (hN:2199023255552<N) (wh:C) (k:KD R):
  NC N (mkB id who rts wm put wj ph un wg) d wh k=k [.int (LB id who rts wm put wj ph un wg d w wh.toInt).1,(LB id who rts wm put wj ph un wg d w wh.toInt).2] []:=by
 have h6:(mkB id who rts wm put wj ph un wg).get 6=ph:=rfl;have h7:(mkB id who rts wm put wj ph un wg).get 7=un:=rfl;have h8:(mkB id who rts wm put wj ph un wg).get 8=wg:=rfl;rw[fR];unfold Wi LB;rw[LK];simp only[h6,h7,h8,look_eq hW hN,AI,AF,Wc h hd];by_cases h1:ph.toInt=0;{simp[h1]};by_cases h2:GU ph put wj wg d w=0
 case neg=>simp[h1,h2]
 by_cases h3:un.toInt<=wh.toInt;{simp[h1,h2,h3]};by_cases h4:((d.get 0).get 1).toInt<=(wg.get 1).toInt <;> simp[h1,h2,h3,h4]
def VP (wj wg d:C) (side:Nat):Int:=IntKind.u64.wrap ((((Cq wg d).get 3).get side).toInt-(wj.get side).toInt)
def IL (id who rts:C) (wm:List C) (put wj ph un wg d:C) (w:Bool) (side:Int):Int × Int × C:=
 if side≠0/\side≠1 then(0,1,zB)else if GU ph put wj wg d w≠0 then(0,GU ph put wj wg d w,zB)else
  if VP wj wg d side.toNat=0 then(0,6,zB)else(VP wj wg d side.toNat,0,mkB id who rts wm put (wj.set side.toNat (((Cq wg d).get 3).get side.toNat)) ph un (Cq wg d))
theorem q5S (side:Int) (a b c e:C) (K:KD R):(bif !decide (side=0)then K [a,b,.bool (!decide (side=1)),c,e] []else K [a,b,.bool false,c,e] [])=K [a,b,.bool (decide (side≠0/\side≠1)),c,e] []:=by by_cases h0:side=0;{simp[h0]};{by_cases h1:side=1 <;> simp[h0,h1]}
theorem F3 {d:C} {w:Bool} (hW:∀k:KD R,Jb N rts d id k=k [.bool w] []) (h:SOk wg) (hd:SOk (d.get 0)) (hN:2199023255552<N) (side:C)
  (hp:∀i<2,W64 (wj.get i).toInt) (ht:∀i<2,((Cq wg d).get 3).get i= .int (((Cq wg d).get 3).get i).toInt/\W64 (((Cq wg d).get 3).get i).toInt) (k:KD R):
  Mz N (mkB id who rts wm put wj ph un wg) side d k=k [.int (IL id who rts wm put wj ph un wg d w side.toInt).1,.int (IL id who rts wm put wj ph un wg d w side.toInt).2.1,(IL id who rts wm put wj ph un wg d w side.toInt).2.2] []:=by
 rw[fL];unfold Wd IL;rw[LK];refine(q1L [side,d,.bool (decide (side.toInt≠0/\side.toInt≠1)),mkB id who rts wm put wj ph un wg,zB] [] fun K=>q5S _ _ _ _ _ K).trans ?_;by_cases h0:side.toInt≠0/\side.toInt≠1;{simp only[AP,AX,h0,AG,ne_eq,not_false_iff,and_self]};have hs:0<=side.toInt/\side.toInt<2:=by omega
 have h5:(mkB id who rts wm put wj ph un (Cq wg d)).get 5=wj:=rfl;have h8:(mkB id who rts wm put wj ph un (Cq wg d)).get 8=Cq wg d:=rfl;rw[if_neg h0];simp only[AI,AL,AP,AU,AX,h0,AG,look_eq hW hN,AF,Wc h hd,hs,and_self,h5,h8];by_cases h1:GU ph put wj wg d w=0
 case neg=>simp[h1]
 simp only[h1,AG,ne_eq,not_true];obtain⟨t1,t2,t3⟩:=ht side.toInt.toNat (by omega);obtain⟨p1,p2⟩:=hp side.toInt.toNat (by omega);have wu:∀n:Int,IntKind.u64.wrap n=n%18446744073709551616:=fun n=>by simp[bu,IntKind.bits,IntKind.signed]
 have back:IntKind.u64.wrap ((wj.get side.toInt.toNat).toInt+IntKind.u64.wrap ((((Cq wg d).get 3).get side.toInt.toNat).toInt-(wj.get side.toInt.toNat).toInt))=(((Cq wg d).get 3).get side.toInt.toNat).toInt:=by rw[wu,wu];omega
 rw[back,<-t1];unfold VP;by_cases h2:IntKind.u64.wrap ((((Cq wg d).get 3).get side.toInt.toNat).toInt-(wj.get side.toInt.toNat).toInt)=0;{simp only[h2,AG]};{simp only[h2,AG];rfl}
end
structure StG (s:C):Prop where
 w:StW s
 e:StE s
 r:s.get 1= .int (s.get 1).toInt
 t0:(s.get 3).get 0= .int ((s.get 3).get 0).toInt
 t1:(s.get 3).get 1= .int ((s.get 3).get 1).toInt
theorem Mo {c:C} (h:C.wf (.int .u64) c):W64 c.toInt/\c= .int c.toInt:=by
 have m1:IntKind.u64.min=0:=by decide
 have m2:IntKind.u64.max=18446744073709551615:=by decide
 exact⟨⟨by have:=h.2.1;omega,by have:=h.2.2;omega⟩,h.1⟩
theorem tG {c:C} (h:C.wf (.arr 2 (.int .u64)) c):c= .agg [c.get 0,c.get 1]/\(W64 (c.get 0).toInt/\c.get 0= .int (c.get 0).toInt)/\(W64 (c.get 1).toInt/\c.get 1= .int (c.get 1).toInt):=by
 simp only[C.wf]at h;obtain⟨h1,h2,h3⟩:=h;have e:∀i,c.get i=c.elems.getD i .nil:=fun i=>by rw[h1];rfl
 refine⟨?_,Mo (by rw[e];simp only[C.wf];exact h3 _ (IU (by omega))),Mo (by rw[e];simp only[C.wf];exact h3 _ (IU (by omega)))⟩;rw[e,e];generalize hl:c.elems=l at*;rw[h1]
 match l,h2 with
 | [x,y],_=>rfl
theorem q6e {s:C} (h:C.wf Bg s) (hl:(s.get 4).elems.length<=12):StG s:=by
 have m1:IntKind.u32.min=0:=by decide
 have m2:IntKind.u32.max=4294967295:=by decide
 have ch:=C.GK (i:=0) (f:=.int .u32) h rfl;have rd:=Mo (C.GK (i:=1) h rfl);have mv:=tG (C.GK (i:=2) h rfl);have tk:=tG (C.GK (i:=3) h rfl);have cs:=C.GK (i:=4) (f:=.slice 64 CV) h rfl;simp only[C.wf]at cs;obtain⟨c1,_,_,c2⟩:=cs;have hch:(s.get 0).toInt<4294967296:=by have:=ch.2.2;omega
 refine⟨⟨⟨by have:=ch.2.1;omega,by omega⟩,rd.1,mv.2.1.1,mv.2.2.1,tk.2.1.1,tk.2.2.1,fun c hc=>?_,hl⟩,⟨?_,fun c hc=>?_,hl⟩,rd.2,tk.2.1.2,tk.2.2.2⟩;{have hw:=c2 c hc;have hb:=C.GK (i:=3) (f:=.arr 32 (.int .u8)) hw rfl;simp only[C.wf]at hb;exact⟨(Mo (C.GK (i:=0) hw rfl)).1,(Mo (C.GK (i:=2) hw rfl)).1,hb.2.1,(Mo (C.GK (i:=4) hw rfl)).1⟩};{show s= .agg [s.get 0,s.get 1,s.get 2,s.get 3,.slice (s.get 4).elems];rw[<-c1];exact(C.WI h).symm};{exact(C.WI (c2 c hc)).symm}
theorem eK {x:Int} (h:W64 x):Bp 0 x=(x,0):=by have:=h.1;have:=h.2;unfold Bp;rw[if_pos (by omega)];congr 1;omega
theorem wJ {x y:C} (hx:W64 x.toInt):(EU [x,y]).2=(Bp x.toInt y.toInt).2:=by unfold EU;simp only[CP,LQ,eK hx,if_true];by_cases h:(Bp x.toInt y.toInt).2=0 <;> simp[Mb,h]
structure HC (c:C):Prop where
 eta:c= .agg [.int (c.get 0).toInt,.int (c.get 1).toInt]
 a:W64 (c.get 0).toInt
 b:W64 (c.get 1).toInt
theorem HC.g0 {c:C} (h:HC c):c.get 0= .int (c.get 0).toInt:=congrArg (fun x=>cd x 0) h.eta
theorem HC.g1 {c:C} (h:HC c):c.get 1= .int (c.get 1).toInt:=congrArg (fun x=>cd x 1) h.eta
theorem HC.gi {c:C} (h:HC c):∀i<2,W64 (c.get i).toInt:=fun i hi=>by rcases(by omega:i=0\/i=1)with rfl|rfl;{exact h.a};{exact h.b}
theorem HC.set {c:C} (h:HC c) {i:Nat} (hi:i<2) {v:Int} (hv:W64 v):HC (c.set i (.int v)):=by rw[h.eta];rcases(by omega:i=0\/i=1)with rfl|rfl;{exact⟨rfl,hv,h.b⟩};{exact⟨rfl,h.a,hv⟩}
def Sa (c:C):Int:=(c.get 0).toInt+(c.get 1).toInt
structure Gz (put wj ph un wg:C):Prop where
 put:HC put
 wj:HC wj
 ph:ph= .int ph.toInt
 un:un= .int un.toInt
 wg:StG wg
theorem Sw {wg d:C} (h:StG wg) (hd:StG (d.get 0)):StG (Cq wg d):=by unfold Cq;split;{exact hd};{exact h}
theorem StG.tk {s:C} (h:StG s):∀i<2,(s.get 3).get i= .int ((s.get 3).get i).toInt/\W64 ((s.get 3).get i).toInt:=fun i hi=>by rcases(by omega:i=0\/i=1)with rfl|rfl;{exact⟨h.t0,h.w.q0⟩};{exact⟨h.t1,h.w.q1⟩}
theorem eO {a b:Int} (h:¬(Bp a b).2≠0):(a+b) / 18446744073709551616=0/\(Bp a b).1=(a+b)%18446744073709551616:=by unfold Bp at h ⊢;split;{rename_i h1;exact⟨h1,rfl⟩};{rename_i h1;rw[if_neg h1]at h;exact absurd (show(11:Int)≠0 by decide) h}
section
variable {id who rts:C} {wm:List C} {put wj ph un wg:C}
theorem qJ (h:Gz put wj ph un wg) (side wv:Int):
  ((JG id who rts wm put wj ph un wg side wv).1=0/\∃xu,(JG id who rts wm put wj ph un wg side wv).2=mkB id who rts wm xu wj ph un wg/\Gz xu wj ph un wg/\ph.toInt≠2/\(0<=wv->Sa put<=Sa xu)/\Sa xu<18446744073709551616)\/
  ((JG id who rts wm put wj ph un wg side wv).1≠0/\(JG id who rts wm put wj ph un wg side wv).2=zB):=by
 unfold JG;split;{exact .inr ⟨by decide,rfl⟩};rename_i a1;split;{exact .inr ⟨by decide,rfl⟩};rename_i a2;split;{rename_i a3;exact .inr ⟨a3,rfl⟩};rename_i a3;split;{rename_i a4;exact .inr ⟨a4,rfl⟩};rename_i a4;have hs:side=0\/side=1:=by omega
 have hw:W64 (Bp (put.get side.toNat).toInt wv).1:=yS;have hp:=h.put.set (i:=side.toNat) (by omega) hw;refine .inl ⟨rfl,_,rfl,⟨hp,h.wj,h.ph,h.un,h.wg⟩,a2,fun ha=>?_,?_⟩
 ·have hv:(Bp (put.get side.toNat).toInt wv).1=(put.get side.toNat).toInt+wv:=by have:=eO a3;omega
  unfold Sa;rw[hv];rcases hs with rfl|rfl;{rw[h.put.eta];show _<=(put.get 0).toInt+wv+(put.get 1).toInt;show(put.get 0).toInt+(put.get 1).toInt<=_;omega};{rw[h.put.eta];show(put.get 0).toInt+(put.get 1).toInt<=(put.get 0).toInt+((put.get 1).toInt+wv);omega}
 ·rw[wJ hp.a]at a4;unfold Sa;have h1:=hp.a.1;have h2:=hp.b.1;have:=(eO a4).1;omega
theorem F2 (h:Gz put wj ph un wg) {d:C} (hd:StG (d.get 0)) (w:Bool) (side:Int):
  ((IL id who rts wm put wj ph un wg d w side).2.1=0/\(side=0\/side=1)/\GU ph put wj wg d w=0/\(IL id who rts wm put wj ph un wg d w side).1=VP wj wg d side.toNat/\
    (IL id who rts wm put wj ph un wg d w side).2.2=mkB id who rts wm put (wj.set side.toNat (((Cq wg d).get 3).get side.toNat)) ph un (Cq wg d)/\Gz put (wj.set side.toNat (((Cq wg d).get 3).get side.toNat)) ph un (Cq wg d))\/
  ((IL id who rts wm put wj ph un wg d w side).2.1≠0/\(IL id who rts wm put wj ph un wg d w side).2.2=zB/\(IL id who rts wm put wj ph un wg d w side).1=0):=by
 unfold IL;split;{exact .inr ⟨by decide,rfl,rfl⟩};rename_i a1;split;{rename_i a2;exact .inr ⟨a2,rfl,rfl⟩};rename_i a2;split;{exact .inr ⟨by decide,rfl,rfl⟩};have hb:=Sw h.wg hd;have ht:=hb.tk side.toNat (by omega);refine .inl ⟨rfl,by omega,by omega,rfl,rfl,⟨h.put,?_,h.ph,h.un,hb⟩⟩;rw[ht.1];exact h.wj.set (by omega) ht.2
theorem q0V (h:Gz put wj ph un wg) {d:C} (hd:StG (d.get 0)) (w:Bool) (wh:Int):
  ((KX id who rts wm put wj ph un wg d w wh).1=0/\GU ph put wj wg d w=0/\ph.toInt≠1/\∃un',(KX id who rts wm put wj ph un wg d w wh).2=mkB id who rts wm put wj (.int 1) un' (Cq wg d)/\Gz put wj (.int 1) un' (Cq wg d))\/
  ((KX id who rts wm put wj ph un wg d w wh).1≠0/\(KX id who rts wm put wj ph un wg d w wh).2=zB):=by
 unfold KX;split;{exact .inr ⟨by decide,rfl⟩};rename_i a1;split;{rename_i a2;exact .inr ⟨a2,rfl⟩};rename_i a2;split;{rename_i a3;exact .inr ⟨a3,rfl⟩};exact .inl ⟨rfl,by omega,a1,_,rfl,⟨h.put,h.wj,rfl,rfl,Sw h.wg hd⟩⟩
theorem q5P (h:Gz put wj ph un wg) {d:C} (hd:StG (d.get 0)) (w:Bool) (wh:Int):
  ((LB id who rts wm put wj ph un wg d w wh).1=0/\GU ph put wj wg d w=0/\(LB id who rts wm put wj ph un wg d w wh).2=mkB id who rts wm put wj ph un (Cq wg d)/\Gz put wj ph un (Cq wg d))\/
  ((LB id who rts wm put wj ph un wg d w wh).1≠0/\(LB id who rts wm put wj ph un wg d w wh).2=zB):=by
 unfold LB;split;{exact .inr ⟨by decide,rfl⟩};split;{rename_i a2;exact .inr ⟨a2,rfl⟩};rename_i a2;split;{exact .inr ⟨by decide,rfl⟩};split;{exact .inr ⟨by decide,rfl⟩};exact .inl ⟨rfl,by omega,rfl,⟨h.put,h.wj,h.ph,h.un,Sw h.wg hd⟩⟩
theorem q0K (h:Gz put wj ph un wg) (m:Es) (wh:Int):
  ((HW m id who rts wm put wj ph un wg wh).1=0/\ph.toInt≠0/\ph.toInt≠2/\(Gy wg put wj (Jd m wh (BO wg))).1=0/\(HW m id who rts wm put wj ph un wg wh).2.1=mkB id who rts wm put wj (.int 2) un wg/\
    (HW m id who rts wm put wj ph un wg wh).2.2=(Gy wg put wj (Jd m wh (BO wg))).2/\Gz put wj (.int 2) un wg)\/
  ((HW m id who rts wm put wj ph un wg wh).1≠0/\(HW m id who rts wm put wj ph un wg wh).2.1=zB/\(HW m id who rts wm put wj ph un wg wh).2.2=zz):=by
 unfold HW;split;{exact .inr ⟨by decide,rfl,rfl⟩};rename_i a1;split;{exact .inr ⟨by decide,rfl,rfl⟩};rename_i a2;split;{exact .inr ⟨by decide,rfl,rfl⟩};split;{exact .inr ⟨by decide,rfl,rfl⟩};split;{rename_i a5;exact .inr ⟨a5,rfl,rfl⟩};rename_i a5;exact .inl ⟨rfl,a1,a2,by omega,rfl,rfl,⟨h.put,h.wj,rfl,h.un,h.wg⟩⟩
end
end
section
variable {R:Type} {N:Nat}
theorem dZ (id:Int) (rts s x y:C) (h:StW s) (hd:(rts.get 1).toInt<=1000) (hN:4000<N) (hN2:N<4611686018427387904):
  ∃w:Bool,∀k:KD R,Jb N rts (.agg [s,.agg [x,y]]) (.int id) k=k [.bool w] []:=by
 by_cases c0:(s.get 0).toInt=id
 case neg=>
  refine⟨false,fun k=>?_⟩;rw[TS];unfold Po;simp only[Jj,AF,c0,AG]
 by_cases c1:(s.get 1).toInt=0;{refine⟨bX s id,fun k=>?_⟩;rw[TS];unfold Po;simp only[Jj,AF,c0,c1,AG,sV,AI,yP s id (show 10<N by omega),AX]};{obtain⟨b,h1⟩:=uW (R:=R) (N:=N) rts s x 0 (.inl rfl) h hd hN hN2;obtain⟨b',h2⟩:=uW (R:=R) (N:=N) rts s y 1 (.inr rfl) h hd hN hN2;refine⟨b&&b',fun k=>?_⟩;have t0:bo 0=0:=rfl;have t1:bo 1=1:=rfl;rw[TS];unfold Po;simp only[Jj,Lm,t0,t1,AF,c0,c1,AG,AY,h1,h2,AI,AX];cases b <;> rfl}
def KK (d:C):Prop:=∃s x y:C,d= .agg [s,.agg [x,y]]/\StG s
def Gb (b:C):Prop:=∃(id:Int) (who rts:C) (wm:List C) (put wj ph un wg:C),b=mkB (.int id) who rts wm put wj ph un wg/\(rts.get 1).toInt<=8/\C.wf (.slice 1 (.int .u8)) (.slice wm)/\Gz put wj ph un wg
theorem wI (id:Int) (h:W64 id):StG (stZ id):=by
 have z:W64 0:=⟨by decide,by decide⟩;have hn:∀c∈([]:List C),False:=fun c hc=>nomatch hc
 exact⟨⟨h,z,z,z,z,z,fun c hc=>(hn c hc).elim,Nat.zero_le 12⟩,⟨rfl,fun c hc=>(hn c hc).elim,Nat.zero_le 12⟩,rfl,rfl,rfl⟩
theorem WL:HC zz:=⟨rfl,⟨by decide,by decide⟩,⟨by decide,by decide⟩⟩
theorem q3B (id:Int) (hid:W64 id) (who rts:C) (wm:List C) (hr:C.wf (.slice 1 (.int .u8)) (.slice wm)):
  ∃(e:Int) (b:C),(∀k:KD R,ND N (.int id) who rts (.slice wm) k=k [.int e,b] [])/\(e=0->b=mkB (.int id) who rts wm zz zz (.int 0) (.int 0) (stZ id)/\Gb b/\(rts.get 1).toInt<=8)/\
   ((who.get 0).toInt≠(who.get 1).toInt->0<=(rts.get 1).toInt->(rts.get 1).toInt<=8->Ek wm=0->e=0):=by
 have main:∀k:KD R,ND N (.int id) who rts (.slice wm) k=if(who.get 0).toInt=(who.get 1).toInt then k [.int 1,zB] []else if(rts.get 1).toInt<0 then k [.int 1,zB] []else if 8<(rts.get 1).toInt then k [.int 1,zB] []else
   if Ek wm=0 then k [.int 0,mkB (.int id) who rts wm zz zz (.int 0) (.int 0) (stZ id)] []else k [.int (Ek wm),zB] []:=fun k=>by
  have t0:bo 0=0:=rfl;have t1:bo 1=1:=rfl;rw[fX];unfold Wr;rw[LK];simp only[AY,t0,t1];by_cases h1:(who.get 0).toInt=(who.get 1).toInt;{simp only[h1,AG,Aa,AX]};by_cases h2:(rts.get 1).toInt<0;{simp only[h1,h2,AG,Aa,AX]};by_cases h3:8<(rts.get 1).toInt;{simp only[h1,h2,h3,AG,Aa,AX]};by_cases h4:Ek wm=0;{simp only[h1,h2,h3,h4,AG,AI,AL,AP,AU,Aa,AX,Ac,sV,Nat.beq_refl,Bool.true_and];rfl};{simp only[h1,h2,h3,h4,AG,AI,AL,AP,AU,Aa,AX,Ac]}
 by_cases h1:(who.get 0).toInt=(who.get 1).toInt;{exact⟨1,zB,fun k=>by rw[main,if_pos h1],fun h=>by omega,fun h _ _ _=>absurd h1 h⟩};by_cases h2:(rts.get 1).toInt<0;{exact⟨1,zB,fun k=>by rw[main,if_neg h1,if_pos h2],fun h=>by omega,fun _ h _ _=>by omega⟩};by_cases h3:8<(rts.get 1).toInt;{exact⟨1,zB,fun k=>by rw[main,if_neg h1,if_neg h2,if_pos h3],fun h=>by omega,fun _ _ h _=>by omega⟩};by_cases h4:Ek wm=0;{exact⟨0,_,fun k=>by rw[main,if_neg h1,if_neg h2,if_neg h3,if_pos h4],fun _=>⟨rfl,⟨id,who,rts,wm,zz,zz,.int 0,.int 0,stZ id,rfl,by omega,hr,⟨WL,WL,rfl,rfl,wI id hid⟩⟩,by omega⟩,fun _ _ _ _=>rfl⟩};{exact⟨_,zB,fun k=>by rw[main,if_neg h1,if_neg h2,if_neg h3,if_neg h4],fun h=>absurd h h4,fun _ _ _ h=>h⟩}
section
variable {b:C} (hb:Gb b)
include hb
theorem q3x (side wv:C):∃(e:Int) (b':C),(∀k:KD R,KP N b side wv k=k [.int e,b'] [])/\(e=0->Gb b'):=by obtain⟨id,who,rts,wm,put,wj,ph,un,wg,rfl,hr,hw,h⟩:=hb;refine⟨_,_,fun k=>qL h.wg.e.eta side wv k,fun h0=>?_⟩;rcases qJ h (id:=.int id) (who:=who) (rts:=rts) (wm:=wm) side.toInt wv.toInt with⟨_,xu,e1,h1,_⟩|⟨e1,_⟩;{exact⟨id,who,rts,wm,xu,wj,ph,un,wg,e1,hr,hw,h1⟩};{exact absurd h0 e1}
section
variable {d:C} (hd:KK d) (hN:2199023255552<N) (hN2:N<4611686018427387904)
include hd hN hN2
theorem F1 (side:C):∃(p e:Int) (b':C),(∀k:KD R,Mz N b side d k=k [.int p,.int e,b'] [])/\(e=0->Gb b'):=by obtain⟨id,who,rts,wm,put,wj,ph,un,wg,rfl,hr,hw,h⟩:=hb;obtain⟨s,x,y,rfl,hs⟩:=hd;obtain⟨w,hW⟩:=dZ (R:=R) (N:=N) id rts s x y hs.w (by omega) (by omega) hN2;have hs':StG ((fh [s,.agg [x,y]]).get 0):=hs;have hb:=Sw h.wg hs';refine⟨_,_,_,fun k=>F3 hW h.wg.e.eta hs.e.eta hN side h.wj.gi hb.tk k,fun h0=>?_⟩;rcases F2 h hs' w side.toInt (id:=.int id) (who:=who) (rts:=rts) (wm:=wm)with⟨_,_,_,_,e1,h1⟩|⟨e1,_⟩;{exact⟨id,who,rts,wm,_,_,_,_,_,e1,hr,hw,h1⟩};{exact absurd h0 e1}
theorem q0U (wh:C):∃(e:Int) (b':C),(∀k:KD R,NB N b d wh k=k [.int e,b'] [])/\(e=0->Gb b'):=by obtain⟨id,who,rts,wm,put,wj,ph,un,wg,rfl,hr,hw,h⟩:=hb;obtain⟨s,x,y,rfl,hs⟩:=hd;obtain⟨w,hW⟩:=dZ (R:=R) (N:=N) id rts s x y hs.w (by omega) (by omega) hN2;have hs':StG ((fh [s,.agg [x,y]]).get 0):=hs;refine⟨_,_,fun k=>q0W hW hw h.wg.e.eta hs.e.eta ⟨h.put.g0,h.put.g1,h.wg.r⟩ hs.r hN wh k,fun h0=>?_⟩;rcases q0V h hs' w wh.toInt (id:=.int id) (who:=who) (rts:=rts) (wm:=wm)with⟨_,_,_,un',e1,h1⟩|⟨e1,_⟩;{exact⟨id,who,rts,wm,_,_,_,_,_,e1,hr,hw,h1⟩};{exact absurd h0 e1}
theorem q5O (wh:C):∃(e:Int) (b':C),(∀k:KD R,NC N b d wh k=k [.int e,b'] [])/\(e=0->Gb b'):=by obtain⟨id,who,rts,wm,put,wj,ph,un,wg,rfl,hr,hw,h⟩:=hb;obtain⟨s,x,y,rfl,hs⟩:=hd;obtain⟨w,hW⟩:=dZ (R:=R) (N:=N) id rts s x y hs.w (by omega) (by omega) hN2;have hs':StG ((fh [s,.agg [x,y]]).get 0):=hs;refine⟨_,_,fun k=>q5Q hW h.wg.e.eta hs.e.eta hN wh k,fun h0=>?_⟩;rcases q5P h hs' w wh.toInt (id:=.int id) (who:=who) (rts:=rts) (wm:=wm)with⟨_,_,e1,h1⟩|⟨e1,_⟩;{exact⟨id,who,rts,wm,_,_,_,_,_,e1,hr,hw,h1⟩};{exact absurd h0 e1}
end
theorem q0J (m:Es) (wh b0:C) (hN:2199023255552<N):∃(e:Int) (b' out:C),(∀k:KD R,NA N b wh b0 m k=k [.int e,b',out] [])/\((b.get 6).toInt=0->e=3)/\(e=0->Gb b'):=by obtain⟨id,who,rts,wm,put,wj,ph,un,wg,rfl,hr,hw,h⟩:=hb;refine⟨_,_,_,fun k=>q0L h.wg.e.eta (by have:=h.wg.e.ln;omega) m wh b0 hN k,fun h0=>?_,fun h0=>?_⟩;{have h0:ph.toInt=0:=h0;unfold HW;rw[if_pos h0]};rcases q0K h m wh.toInt (id:=.int id) (who:=who) (rts:=rts) (wm:=wm)with⟨_,_,_,_,e1,_,h1⟩|⟨e1,_⟩;{exact⟨id,who,rts,wm,_,_,_,_,_,e1,hr,hw,h1⟩};{exact absurd h0 e1}
end
def Lr (v:C) (i:Nat) (_:Unit) (c:C):Unit ⊕ Nat:=if v.toInt=c.toInt then .inr i else .inl ()
def Ls (l:List C) (v:C):Int:=match CP (Lr v) 0 () l with| .inl _=>-1| .inr i=>(i:Int)
def Ey (l:List C) (v:C):Bool:=l.any fun c=>decide (v.toInt=c.toInt)
theorem mN (v:C):∀(l:List C) (i:Nat),(Ey l v=true->∃j,CP (Lr v) i () l= .inr j/\j<i+l.length)/\(Ey l v=false->CP (Lr v) i () l= .inl ())
 | [],i=>⟨fun h=>by simp[Ey]at h,fun _=>rfl⟩|c::l,i=>by have ih:=mN v l (i+1);simp only[CP,Lr,Ey,List.any_cons,List.length_cons]at ih ⊢;by_cases h:v.toInt=c.toInt;{simp only[h,AG,Bool.true_or];exact⟨fun _=>⟨i,rfl,by omega⟩,fun h=>by simp at h⟩};{simp only[h,AG,Bool.false_or];refine⟨fun h1=>?_,ih.2⟩;obtain⟨j,h2,h3⟩:=ih.1 h1;exact⟨j,h2,by omega⟩}
theorem q1r (l:List C) (v:C):decide (0<=Ls l v)=Ey l v:=by have:=mN v l 0;unfold Ls;cases h:Ey l v;{rw[this.2 h];rfl};{obtain⟨j,h1,_⟩:=this.1 h;rw[h1];exact decide_eq_true (by dsimp only;omega)}
theorem mQ (l:List C) (v:C) (hl:l.length<4611686018427387904) (hN:l.length<N) (k:KD R):Oq N (.slice l) v k=k [.int (Ls l v)] []:=by
 rw[vY];unfold cK;rw[AY];refine(JD (F:=Vn N k fun _ _=>k [.int (-1)] []) (fun i (_:Unit)=>[.slice l,v,.int l.length,.int i]) (fun _ _=>[]) l (Lr v) (fun _=>k [.int (-1)] []) (fun i=>k [.int (i:Nat)] []) (s0:=()) ?_ ?_ hN).trans ?_
 ·intro i _ c hx hi rec;have h1:(i:Int)<(l.length:Int):=by omega
  unfold Vn Lr;simp only[AI,AL,AP,AU,AF,Ac,h1,EW hx,Int.natCast_nonneg,and_self,AG,bx,CZ (show i<4611686018427387904 by omega)];by_cases h2:v.toInt=c.toInt;{simp only[h2,AG]};{simp only[h2,AG]}
 ·intro _ rec;unfold Vn;simp only[AI,AL,AP,AU,AF,Int.lt_irrefl,AG]
 ·unfold Ls FX;cases CP (Lr v) 0 () l <;> rfl
theorem q5R (b v:C) (hN:100<N):∃(i:C) (c:Bool),∀k:KD R,PM N b v k=k [i,.bool c] []:=by
 have hl:(cut (bq (cd b 1)) 0 2).length<=2:=by unfold cut;simp;omega
 refine⟨.int (if Ls (cut (bq (cd b 1)) 0 2) v<0 then 0 else Ls (cut (bq (cd b 1)) 0 2) v),decide (0<=Ls (cut (bq (cd b 1)) 0 2) v),fun k=>?_⟩;rw[fS];unfold Wj;rw[mQ _ _ (by omega) (by omega)];rfl
def Hr:Es->C->C->Es
 | [],c,v=>[(c,v)]|(k,u)::l,c,v=>if C.beq c k=true then(k,v)::l else(k,u)::Hr l c v
theorem FM (τ:Ty) (c v:C):∀m:Es,Fg (dE τ m) c (V.d τ v)=dE τ (Hr m c v)
 | []=>rfl|(k,u)::m=>by have ih:=FM τ c v m;simp only[dE,List.map_cons,Fg,Hr]at ih ⊢;by_cases h:C.beq c k=true;{simp[h]};{simp[h,ih]}
theorem q2M (s:C) (hN:5000<N) (hN2:N<4611686018427387904):∃c:C,∀k:KD R,RA N s k=k [c] []:=by obtain⟨c,_,h⟩:=PD (R:=R) (N:=N) (.int 6) [cz (cut (bq s) 0 32)] 100 (fun x hx=>⟨_,List.mem_singleton.1 hx,by simp[cut];omega⟩) (by simp;omega) (by omega) hN2;refine⟨c,fun k=>?_⟩;rw[pT];unfold ZV;simp only[h,AI]
theorem q6v (s h x y:C) (m:Es) (hN:5000<N) (hN2:N<4611686018427387904):∃(e:Int) (m':Es),(∀k:KD R,RW N s h x y m k=k [.int e] [m'])/\(e≠0->m'=m):=by
 obtain⟨c,hc⟩:=q2M (R:=R) (N:=N) s hN hN2;cases hm:DE m c with
 |true=>
  refine⟨7,m,fun k=>?_,fun _=>rfl⟩;rw[Zs];unfold Uv;simp only[hc,AI,EV,EZ,Aj,Al,hm,AG]
 |false=>
  refine⟨0,Hr m c (dt (dt (fh [fh (dh 32 (br 0)),br 0]) 0 s) 1 h),fun k=>?_,fun h=>absurd rfl h⟩;rw[Zs];unfold Uv;have e:dm [m] 0=m:=rfl;simp only[hc,AI,e,EV,EZ,FM,Aj,Al,hm,AG]
end
def q6Q:List Sh:=[.as (.ptr (.g (.l 1)) [] BV),.d (.int .i64)]
def q6S:List (Key × OSh):=[(.l 1,.box (.agg BV [.vec (.g (.l 2)) 8 (.int .u64),.vec (.g (.l 3)) 8 (.int .u64),.d (.int .u64)])),(.l 2,.box (.arr (.int .u64))),(.l 3,.box (.arr (.int .u64)))]
def dG {R:Type} (N:Nat) (a0 b0 b1 b2 b3 b4:C) (k1:KD R):Option R:=jn (fun d1 m1=>(bif ez (dk d1 0)then(k1 [br 1] [])else(k1 [br 0] []))) (fun k2=>(bif decide (bp a0<0)then(k2 [dw true] [])else(k2 [dw (decide ((↑(bo (bp b0)):Int)<=bp a0))] [])))
def JO:=lid "" (@dG R N)
theorem wU {R N a0 b0 b1 b2 b3 b4 k}:@JO R N a0 b0 b1 b2 b3 b4 k=dG N a0 b0 b1 b2 b3 b4 k:=by unfold JO;rw[Ao]
def q6R:OvG R:=Ca q6Q q6S (fun ds ms=>JO N (dk ds 0) (dk ds 1) (dk ds 2) (dk ds 3) (dk ds 4) (dk ds 5)) fun ds ms K d1 m1=>K (V.d (cg ca) (dk d1 0)) []
theorem SV:okX 74 (@q6R R N):=Cc Aq N [] [(74,[([0,3,1,4,0,1],⟨[0],[(8,.d .bool)],[],[],[.g (.l 1),.g (.l 2),.g (.l 3)],[(.int .u64)]⟩),
  ([9],⟨[],[(4,.d (.int .i64))],[],[],[.g (.l 1),.g (.l 2),.g (.l 3)],[(.int .u64)]⟩)])] (fun _ _ _=>wU)
def q6D:List Sh:=[.as (.ptr (.g (.l 1)) [] BV),.d (.int .i64),.d (.int .u64)]
def q6F:List (Key × OSh):=[(.l 1,.box (.agg BV [.vec (.g (.l 2)) 8 (.int .u64),.vec (.g (.l 3)) 8 (.int .u64),.d (.int .u64)])),(.l 2,.box (.arr (.int .u64))),(.l 3,.box (.arr (.int .u64)))]
def dA (a0 a1 b0 b1 b2 b3 b4:C) (k1:KD R):Option R:=if bn (bq b3)=bn (bq b3)then(if bn (bq b4)=bn (bq b4)then(JO N a0 (br (↑(bo (bp b0)):Int)) (br (↑(bo (bp b1)):Int)) b2 b3 b4 (fun d1 m1=>(bif !decide (bp (dk d1 0)=0)then(if bn (bq b3)=bn (bq b3)then(if bn (bq b4)=bn (bq b4)then(k1 [dk d1 0,br (↑(bo (bp b0)):Int),br (↑(bo (bp b1)):Int),b2,br (↑(bn (bq b3)):Int),b3,br (↑(bn (bq b4)):Int),b4] [])else none)else none)else(if 0<=bp a0/\bp a0<(↑(bo (bp b0)):Int)then(Ju N (cd b3 (0+bo (bp a0))) a1 (fun d2 m2=>(bif !decide (bp (dk d2 1)=0)then(if bn (bq b3)=bn (bq b3)then(if bn (bq b4)=bn (bq b4)then(k1 [dk d2 1,br (↑(bo (bp b0)):Int),br (↑(bo (bp b1)):Int),b2,br (↑(bn (bq b3)):Int),b3,br (↑(bn (bq b4)):Int),b4] [])else none)else none)else(if 0<=bp a0/\bp a0<(↑(bo (bp b0)):Int)then(if bn (bq b3)=bn (bq (dt b3 (0+bo (bp a0)) (dk d2 0)))then(if bn (bq b4)=bn (bq b4)then(k1 [br 0,br (↑(bo (bp b0)):Int),br (↑(bo (bp b1)):Int),br (bu bw (bp b2+bp a1)),br (↑(bn (bq b3)):Int),dt b3 (0+bo (bp a0)) (dk d2 0),br (↑(bn (bq b4)):Int),b4] [])else none)else none)else none))))else none))))else none)else none
def MV:=lid "" (@dA R N)
theorem wP {R N a0 a1 b0 b1 b2 b3 b4 k}:@MV R N a0 a1 b0 b1 b2 b3 b4 k=dA N a0 a1 b0 b1 b2 b3 b4 k:=by unfold MV;rw[Ao]
def q6E:OvG R:=Ca q6D q6F (fun ds ms=>MV N (dk ds 0) (dk ds 1) (dk ds 2) (dk ds 3) (dk ds 4) (dk ds 5) (dk ds 6)) fun ds ms K d1 m1=>K (V.d (cg ca) (dk d1 0)) [(ei (df 1),
  fx
   (mb BV
    [nq (df 1000000000074) [] 0 (bo (bp (dk d1 1))) none 8 (cg bw),
     nq (df 1000000000106) [] 0 (bo (bp (dk d1 2))) none 8 (cg bw),
     V.d (cg bw) (dk d1 3)])),
 (ei (df 2),gf (dc (bo (bp (dk d1 4))) (cg bw))),
 (df 1000000000074,fx (V.d (dc (bn (bq (dk d1 5))) (cg bw)) (dk d1 5))),
 (ei (df 3),gf (dc (bo (bp (dk d1 6))) (cg bw))),
 (df 1000000000106,fx (V.d (dc (bn (bq (dk d1 7))) (cg bw)) (dk d1 7)))]
theorem cZ:okX 97 (@q6E R N):=Cc (AR (SV N) <| AR (RN N) <| Aq) N [] [(97,[([9],⟨[],[(6,.d (.int .i64))],[.g (.l 1),.g (.l 2),.g (.l 3)],[],[],[(.int .u64)]⟩)])] (fun _ _ _=>wP)
def q6w:List Sh:=[.as (.ptr (.g (.l 1)) [] BV),.d (.int .i64),.d (.int .u64)]
def q6y:List (Key × OSh):=[(.l 1,.box (.agg BV [.vec (.g (.l 2)) 8 (.int .u64),.vec (.g (.l 3)) 8 (.int .u64),.d (.int .u64)])),(.l 2,.box (.arr (.int .u64))),(.l 3,.box (.arr (.int .u64)))]
def cX (a0 a1 b0 b1 b2 b3 b4:C) (k1:KD R):Option R:=if bn (bq b3)=bn (bq b3)then(if bn (bq b4)=bn (bq b4)then(JO N a0 (br (↑(bo (bp b0)):Int)) (br (↑(bo (bp b1)):Int)) b2 b3 b4 (fun d1 m1=>(bif !decide (bp (dk d1 0)=0)then(if bn (bq b3)=bn (bq b3)then(if bn (bq b4)=bn (bq b4)then(k1 [dk d1 0,br (↑(bo (bp b0)):Int),br (↑(bo (bp b1)):Int),b2,br (↑(bn (bq b3)):Int),b3,br (↑(bn (bq b4)):Int),b4] [])else none)else none)else(Ju N b2 a1 (fun d2 m2=>(bif !decide (bp (dk d2 1)=0)then(if bn (bq b3)=bn (bq b3)then(if bn (bq b4)=bn (bq b4)then(k1 [dk d2 1,br (↑(bo (bp b0)):Int),br (↑(bo (bp b1)):Int),b2,br (↑(bn (bq b3)):Int),b3,br (↑(bn (bq b4)):Int),b4] [])else none)else none)else(if 0<=bp a0/\bp a0<(↑(bo (bp b0)):Int)then(if 0<=bp a0/\bp a0<(↑(bo (bp b0)):Int)then(if bn (bq b3)=bn (bq (dt b3 (0+bo (bp a0)) (br (bu bw (bp (cd b3 (0+bo (bp a0)))+bp a1)))))then(if bn (bq b4)=bn (bq b4)then(k1 [br 0,br (↑(bo (bp b0)):Int),br (↑(bo (bp b1)):Int),dk d2 0,br (↑(bn (bq b3)):Int),dt b3 (0+bo (bp a0)) (br (bu bw (bp (cd b3 (0+bo (bp a0)))+bp a1))),br (↑(bn (bq b4)):Int),b4] [])else none)else none)else none)else none)))))))else none)else none
def MU:=lid "" (@cX R N)
theorem wN {R N a0 a1 b0 b1 b2 b3 b4 k}:@MU R N a0 a1 b0 b1 b2 b3 b4 k=cX N a0 a1 b0 b1 b2 b3 b4 k:=by unfold MU;rw[Ao]
def q6x:OvG R:=Ca q6w q6y (fun ds ms=>MU N (dk ds 0) (dk ds 1) (dk ds 2) (dk ds 3) (dk ds 4) (dk ds 5) (dk ds 6)) fun ds ms K d1 m1=>K (V.d (cg ca) (dk d1 0)) [(ei (df 1),
  fx
   (mb BV
    [nq (df 1000000000074) [] 0 (bo (bp (dk d1 1))) none 8 (cg bw),
     nq (df 1000000000106) [] 0 (bo (bp (dk d1 2))) none 8 (cg bw),
     V.d (cg bw) (dk d1 3)])),
 (ei (df 2),gf (dc (bo (bp (dk d1 4))) (cg bw))),
 (df 1000000000074,fx (V.d (dc (bn (bq (dk d1 5))) (cg bw)) (dk d1 5))),
 (ei (df 3),gf (dc (bo (bp (dk d1 6))) (cg bw))),
 (df 1000000000106,fx (V.d (dc (bn (bq (dk d1 7))) (cg bw)) (dk d1 7)))]
theorem cW:okX 98 (@q6x R N):=Cc (AR (SV N) <| AR (RN N) <| Aq) N [] [(98,[([9],⟨[],[(6,.d (.int .i64))],[.g (.l 1),.g (.l 2),.g (.l 3)],[],[],[(.int .u64)]⟩)])] (fun _ _ _=>wN)
def q6J:List Sh:=[.as (.ptr (.g (.l 1)) [] BV),.d (.int .i64),.d (.int .i64),.d (.int .u64)]
def q6L:List (Key × OSh):=[(.l 1,.box (.agg BV [.vec (.g (.l 2)) 8 (.int .u64),.vec (.g (.l 3)) 8 (.int .u64),.d (.int .u64)])),(.l 2,.box (.arr (.int .u64))),(.l 3,.box (.arr (.int .u64)))]
def dD (a0 a1 a2 b0 b1 b2 b3 b4:C) (k1:KD R):Option R:=if bn (bq b3)=bn (bq b3)then(if bn (bq b4)=bn (bq b4)then(JO N a0 (br (↑(bo (bp b0)):Int)) (br (↑(bo (bp b1)):Int)) b2 b3 b4 (fun d1 m1=>(bif !decide (bp (dk d1 0)=0)then(if bn (bq b3)=bn (bq b3)then(if bn (bq b4)=bn (bq b4)then(k1 [dk d1 0,br (↑(bo (bp b0)):Int),br (↑(bo (bp b1)):Int),b2,br (↑(bn (bq b3)):Int),b3,br (↑(bn (bq b4)):Int),b4] [])else none)else none)else(if bn (bq b3)=bn (bq b3)then(if bn (bq b4)=bn (bq b4)then(JO N a1 (br (↑(bo (bp b0)):Int)) (br (↑(bo (bp b1)):Int)) b2 b3 b4 (fun d2 m2=>(bif !decide (bp (dk d2 0)=0)then(if bn (bq b3)=bn (bq b3)then(if bn (bq b4)=bn (bq b4)then(k1 [dk d2 0,br (↑(bo (bp b0)):Int),br (↑(bo (bp b1)):Int),b2,br (↑(bn (bq b3)):Int),b3,br (↑(bn (bq b4)):Int),b4] [])else none)else none)else(if bn (bq b3)=bn (bq b3)then(if bn (bq b4)=bn (bq b4)then(MV N a0 a2 (br (↑(bo (bp b0)):Int)) (br (↑(bo (bp b1)):Int)) b2 b3 b4 (fun d3 m3=>(bif !decide (bp (dk d3 0)=0)then(if bn (bq (dk d3 5))=bn (bq (dk d3 5))then(if bn (bq (dk d3 7))=bn (bq (dk d3 7))then(k1 [dk d3 0,br (↑(bo (bp (dk d3 1))):Int),br (↑(bo (bp (dk d3 2))):Int),dk d3 3,br (↑(bo (bp (dk d3 4))):Int),dk d3 5,br (↑(bo (bp (dk d3 6))):Int),dk d3 7] [])else none)else none)else(if bn (bq (dk d3 5))=bn (bq (dk d3 5))then(if bn (bq (dk d3 7))=bn (bq (dk d3 7))then(MU N a1 a2 (br (↑(bo (bp (dk d3 1))):Int)) (br (↑(bo (bp (dk d3 2))):Int)) (dk d3 3) (dk d3 5) (dk d3 7) (fun d4 m4=>(if bn (bq (dk d4 5))=bn (bq (dk d4 5))then(if bn (bq (dk d4 7))=bn (bq (dk d4 7))then(k1 [dk d4 0,br (↑(bo (bp (dk d4 1))):Int),br (↑(bo (bp (dk d4 2))):Int),dk d4 3,br (↑(bo (bp (dk d3 4))):Int),dk d4 5,br (↑(bo (bp (dk d3 6))):Int),dk d4 7] [])else none)else none)))else none)else none))))else none)else none))))else none)else none))))else none)else none
def Ou:=lid "" (@dD R N)
theorem wS {R N a0 a1 a2 b0 b1 b2 b3 b4 k}:@Ou R N a0 a1 a2 b0 b1 b2 b3 b4 k=dD N a0 a1 a2 b0 b1 b2 b3 b4 k:=by unfold Ou;rw[Ao]
def q6K:OvG R:=Ca q6J q6L (fun ds ms=>Ou N (dk ds 0) (dk ds 1) (dk ds 2) (dk ds 3) (dk ds 4) (dk ds 5) (dk ds 6) (dk ds 7)) fun ds ms K d1 m1=>K (V.d (cg ca) (dk d1 0)) [(ei (df 1),
  fx
   (mb BV
    [nq (df 1000000000074) [] 0 (bo (bp (dk d1 1))) none 8 (cg bw),
     nq (df 1000000000106) [] 0 (bo (bp (dk d1 2))) none 8 (cg bw),
     V.d (cg bw) (dk d1 3)])),
 (ei (df 2),gf (dc (bo (bp (dk d1 4))) (cg bw))),
 (df 1000000000074,fx (V.d (dc (bn (bq (dk d1 5))) (cg bw)) (dk d1 5))),
 (ei (df 3),gf (dc (bo (bp (dk d1 6))) (cg bw))),
 (df 1000000000106,fx (V.d (dc (bn (bq (dk d1 7))) (cg bw)) (dk d1 7)))]
theorem wR:okX 80 (@q6K R N):=Cc (AR (SV N) <| AR (cZ N) <| AR (cW N) <| Aq) N [] [(80,[([9],⟨[],[(8,.d (.int .i64))],[.g (.l 1),.g (.l 2),.g (.l 3)],[],[],[(.int .u64)]⟩)])] (fun _ _ _=>wS)
def q6M:List Sh:=[.as (.ptr (.g (.l 1)) [] BV),.d (.int .i64),.d (.int .u64)]
def q6P:List (Key × OSh):=[(.l 1,.box (.agg BV [.vec (.g (.l 2)) 8 (.int .u64),.vec (.g (.l 3)) 8 (.int .u64),.d (.int .u64)])),(.l 2,.box (.arr (.int .u64))),(.l 3,.box (.arr (.int .u64)))]
def dF (a0 a1 b0 b1 b2 b3 b4:C) (k1:KD R):Option R:=if bn (bq b3)=bn (bq b3)then(if bn (bq b4)=bn (bq b4)then(JO N a0 (br (↑(bo (bp b0)):Int)) (br (↑(bo (bp b1)):Int)) b2 b3 b4 (fun d1 m1=>(bif !decide (bp (dk d1 0)=0)then(if bn (bq b3)=bn (bq b3)then(if bn (bq b4)=bn (bq b4)then(k1 [dk d1 0,br (↑(bo (bp b0)):Int),br (↑(bo (bp b1)):Int),b2,br (↑(bn (bq b3)):Int),b3,br (↑(bn (bq b4)):Int),b4] [])else none)else none)else(if 0<=bp a0/\bp a0<(↑(bo (bp b1)):Int)then(bif !decide (bp a1=bp (cd b4 (0+bo (bp a0))))then(if bn (bq b3)=bn (bq b3)then(if bn (bq b4)=bn (bq b4)then(k1 [br 22,br (↑(bo (bp b0)):Int),br (↑(bo (bp b1)):Int),b2,br (↑(bn (bq b3)):Int),b3,br (↑(bn (bq b4)):Int),b4] [])else none)else none)else(if 0<=bp a0/\bp a0<(↑(bo (bp b1)):Int)then(if 0<=bp a0/\bp a0<(↑(bo (bp b1)):Int)then(if bn (bq b3)=bn (bq b3)then(if bn (bq b4)=bn (bq (dt b4 (0+bo (bp a0)) (br (bu bw (bp (cd b4 (0+bo (bp a0)))+1)))))then(k1 [br 0,br (↑(bo (bp b0)):Int),br (↑(bo (bp b1)):Int),b2,br (↑(bn (bq b3)):Int),b3,br (↑(bn (bq b4)):Int),dt b4 (0+bo (bp a0)) (br (bu bw (bp (cd b4 (0+bo (bp a0)))+1)))] [])else none)else none)else none)else none))else none))))else none)else none
def SU:=lid "" (@dF R N)
theorem wT {R N a0 a1 b0 b1 b2 b3 b4 k}:@SU R N a0 a1 b0 b1 b2 b3 b4 k=dF N a0 a1 b0 b1 b2 b3 b4 k:=by unfold SU;rw[Ao]
def q6N:OvG R:=Ca q6M q6P (fun ds ms=>SU N (dk ds 0) (dk ds 1) (dk ds 2) (dk ds 3) (dk ds 4) (dk ds 5) (dk ds 6)) fun ds ms K d1 m1=>K (V.d (cg ca) (dk d1 0)) [(ei (df 1),
  fx
   (mb BV
    [nq (df 1000000000074) [] 0 (bo (bp (dk d1 1))) none 8 (cg bw),
     nq (df 1000000000106) [] 0 (bo (bp (dk d1 2))) none 8 (cg bw),
     V.d (cg bw) (dk d1 3)])),
 (ei (df 2),gf (dc (bo (bp (dk d1 4))) (cg bw))),
 (df 1000000000074,fx (V.d (dc (bn (bq (dk d1 5))) (cg bw)) (dk d1 5))),
 (ei (df 3),gf (dc (bo (bp (dk d1 6))) (cg bw))),
 (df 1000000000106,fx (V.d (dc (bn (bq (dk d1 7))) (cg bw)) (dk d1 7)))]
theorem q6O:okX 79 (@q6N R N):=Cc (AR (SV N) <| Aq) N [] [(79,[([9],⟨[],[(6,.d (.int .i64))],[.g (.l 1),.g (.l 2),.g (.l 3)],[],[],[(.int .u64)]⟩)])] (fun _ _ _=>wT)
def q6z:List Sh:=[.as (.ptr (.g (.l 1)) [] BV),.d (.int .i64)]
def q6C:List (Key × OSh):=[(.l 1,.box (.agg BV [.vec (.g (.l 2)) 8 (.int .u64),.vec (.g (.l 3)) 8 (.int .u64),.d (.int .u64)])),(.l 2,.box (.arr (.int .u64))),(.l 3,.box (.arr (.int .u64)))]
def cY (a0 b0 b1 b2 b3 b4:C) (k1:KD R):Option R:=if bn (bq b3)=bn (bq b3)then(if bn (bq b4)=bn (bq b4)then(JO N a0 (br (↑(bo (bp b0)):Int)) (br (↑(bo (bp b1)):Int)) b2 b3 b4 (fun d1 m1=>(bif !decide (bp (dk d1 0)=0)then(k1 [br 0] [])else(if 0<=bp a0/\bp a0<(↑(bo (bp b0)):Int)then(k1 [cd b3 (0+bo (bp a0))] [])else none))))else none)else none
def SS:=lid "" (@cY R N)
theorem wO {R N a0 b0 b1 b2 b3 b4 k}:@SS R N a0 b0 b1 b2 b3 b4 k=cY N a0 b0 b1 b2 b3 b4 k:=by unfold SS;rw[Ao]
def q6A:OvG R:=Ca q6z q6C (fun ds ms=>SS N (dk ds 0) (dk ds 1) (dk ds 2) (dk ds 3) (dk ds 4) (dk ds 5)) fun ds ms K d1 m1=>K (V.d (cg bw) (dk d1 0)) []
theorem q6B:okX 54 (@q6A R N):=Cc (AR (SV N) <| Aq) N [] [(54,[([9],⟨[],[(4,.d (.int .u64))],[],[],[.g (.l 1),.g (.l 2),.g (.l 3)],[(.int .u64)]⟩)])] (fun _ _ _=>wO)
def q6G:List Sh:=[.as (.ptr (.g (.l 1)) [] BV)]
def q6I:List (Key × OSh):=[(.l 1,.box (.agg BV [.vec (.g (.l 2)) 8 (.int .u64),.vec (.g (.l 3)) 8 (.int .u64),.d (.int .u64)])),(.l 2,.box (.arr (.int .u64))),(.l 3,.box (.arr (.int .u64)))]
def dC {R:Type} (N:Nat) (b0 b1 b2 b3 b4:C) (k1:KD R):Option R:=k1 [br (↑(bo (bp b0)):Int)] []
def MW:=lid "" (@dC R N)
theorem wQ {R N b0 b1 b2 b3 b4 k}:@MW R N b0 b1 b2 b3 b4 k=dC N b0 b1 b2 b3 b4 k:=by unfold MW;rw[Ao]
def q6H:OvG R:=Ca q6G q6I (fun ds ms=>MW N (dk ds 0) (dk ds 1) (dk ds 2) (dk ds 3) (dk ds 4)) fun ds ms K d1 m1=>K (V.d (cg ca) (dk d1 0)) []
theorem dB:okX 30 (@q6H R N):=Cc Aq N [] [(30,[([9],⟨[],[(2,.d (.int .i64))],[],[],[.g (.l 1),.g (.l 2),.g (.l 3)],[(.int .u64)]⟩)])] (fun _ _ _=>wQ)
section
variable {R:Type} {N:Nat}
theorem BG {m:Es} {l:List Es}:dm (m::l) 0=m:=rfl
theorem Ef (c v:C) (i:Nat):(dt c i v).elems.length=c.elems.length:=by cases c <;> simp[dt,bq]
def inR (n:Nat) (a:C):Prop:=0<=a.toInt/\a.toInt<(n:Int)
instance (n:Nat) (a:C):Decidable (inR n a):=inferInstanceAs (Decidable (_/\_))
def inE (n:Nat) (a:C):Int:=if inR n a then 0 else 1
theorem Hg {n:Nat} {a:C} (h:inR n a):inE n a=0:=if_pos h
theorem Np {n:Nat} {a:C} (h:¬inR n a):inE n a=1:=if_neg h
section
variable (n:Nat) (a x b1 b2 b3 b4:C) (k:KD R)
theorem SX:JO N a (.int n) b1 b2 b3 b4 k=k [.int (inE n a)] []:=by
 rw[wU];unfold dG inE inR;simp only[AY,AF,bx];by_cases h1:a.toInt<0
 ·have:¬(0<=a.toInt/\a.toInt<(n:Int)):=by omega
  simp only[h1,AG,AI,AX,this]
 by_cases h2:(n:Int)<=a.toInt
 ·have:¬(0<=a.toInt/\a.toInt<(n:Int)):=by omega
  simp only[h1,h2,AG,AI,AX,this]
 ·have:0<=a.toInt/\a.toInt<(n:Int):=by omega
  simp only[h1,h2,AG,AI,AX,this,and_self]
theorem JE:MW N (.int n) b1 b2 b3 b4 k=k [.int n] []:=by rw[wQ];unfold dC;simp only[AF,bx]
def Tw:C:=if inR n a then b3.get a.toInt.toNat else .int 0
theorem has_eq:SS N a (.int n) b1 b2 b3 b4 k=k [Tw n a b3] []:=by rw[wO];unfold cY Tw;simp only[AF,bx,SX,AI,eq_self,if_true,cf];by_cases h:inR n a;{have h2:0<=a.toInt/\a.toInt<(n:Int):=h;simp only[Hg h,h,h2,and_self,AG]};{simp only[Np h,h,show ¬(1:Int)=0 by decide,AG]}
def JJ:Int × C:=if inR n a then if x.toInt=(b4.get a.toInt.toNat).toInt then(0,b4.set a.toInt.toNat (.int (IntKind.u64.wrap ((b4.get a.toInt.toNat).toInt+1))))else(22,b4)else(1,b4)
theorem q4r:SU N a x (.int n) (.int n) b2 b3 b4 k=k [.int (JJ n a x b4).1,.int n,.int n,b2,.int b3.elems.length,b3,.int b4.elems.length,(JJ n a x b4).2] []:=by rw[wT];unfold dF JJ;simp only[AF,bx,SX,AI,eq_self,if_true,cf,Ef];by_cases h:inR n a;{have h2:0<=a.toInt/\a.toInt<(n:Int):=h;by_cases h3:x.toInt=(b4.get a.toInt.toNat).toInt;{simp only[Hg h,h,h2,h3,and_self,AG]};{simp only[Hg h,h,h2,h3,and_self,AG]}};{simp only[Np h,h,show ¬(1:Int)=0 by decide,AG]}
def Da:Int × C × C:=if inR n a then if(DN (b3.get a.toInt.toNat).toInt x.toInt).2=0 then(0,.int (IntKind.u64.wrap (b2.toInt+x.toInt)),b3.set a.toInt.toNat (.int (DN (b3.get a.toInt.toNat).toInt x.toInt).1))else((DN (b3.get a.toInt.toNat).toInt x.toInt).2,b2,b3)else(1,b2,b3)
theorem Qa:MV N a x (.int n) (.int n) b2 b3 b4 k=k [.int (Da n a x b2 b3).1,.int n,.int n,(Da n a x b2 b3).2.1,.int b3.elems.length,(Da n a x b2 b3).2.2,.int b4.elems.length,b4] []:=by rw[wP];unfold dA Da;simp only[AF,bx,SX,sub_eq,AI,AL,eq_self,if_true,cf,Ef];by_cases h:inR n a;{have h2:0<=a.toInt/\a.toInt<(n:Int):=h;by_cases h3:(DN (b3.get a.toInt.toNat).toInt x.toInt).2=0;{simp only[Hg h,h,h2,h3,and_self,AG]};{simp only[Hg h,h,h2,h3,and_self,AG]}};{simp only[Np h,h,show ¬(1:Int)=0 by decide,AG]}
def EY:Int × C × C:=if inR n a then if(DN b2.toInt x.toInt).2=0 then(0,.int (DN b2.toInt x.toInt).1,b3.set a.toInt.toNat (.int (IntKind.u64.wrap ((b3.get a.toInt.toNat).toInt+x.toInt))))else((DN b2.toInt x.toInt).2,b2,b3)else(1,b2,b3)
theorem Nl:MU N a x (.int n) (.int n) b2 b3 b4 k=k [.int (EY n a x b2 b3).1,.int n,.int n,(EY n a x b2 b3).2.1,.int b3.elems.length,(EY n a x b2 b3).2.2,.int b4.elems.length,b4] []:=by rw[wN];unfold cX EY;simp only[AF,bx,SX,sub_eq,AI,AL,eq_self,if_true,cf,Ef];by_cases h:inR n a;{have h2:0<=a.toInt/\a.toInt<(n:Int):=h;by_cases h3:(DN b2.toInt x.toInt).2=0;{simp only[Hg h,h,h2,h3,and_self,AG]};{simp only[Hg h,h,h2,h3,and_self,AG]}};{simp only[Np h,h,show ¬(1:Int)=0 by decide,AG]}
def GB (y:C):Int × C × C:=if inR n a then if inR n y then if(Da n a x b2 b3).1=0 then EY n y x (Da n a x b2 b3).2.1 (Da n a x b2 b3).2.2 else((Da n a x b2 b3).1,b2,b3)else(1,b2,b3)else(1,b2,b3)
theorem UD:(Da n a x b2 b3).2.2.elems.length=b3.elems.length:=by unfold Da;split;{split;{exact Ef _ _ _};{rfl}};{rfl}
theorem QV:(EY n a x b2 b3).2.2.elems.length=b3.elems.length:=by unfold EY;split;{split;{exact Ef _ _ _};{rfl}};{rfl}
theorem sB:(JJ n a x b4).2.elems.length=b4.elems.length:=by unfold JJ;split;{split;{exact Ef _ _ _};{rfl}};{rfl}
theorem Yg (h:(Da n a x b2 b3).1≠0):(Da n a x b2 b3).2=(b2,b3):=by unfold Da at h ⊢;split;{split;{rename_i h1 h2;rw[if_pos h1,if_pos h2]at h;exact absurd rfl h};{rfl}};{rfl}
theorem YT (h:(EY n a x b2 b3).1≠0):(EY n a x b2 b3).2=(b2,b3):=by unfold EY at h ⊢;split;{split;{rename_i h1 h2;rw[if_pos h1,if_pos h2]at h;exact absurd rfl h};{rfl}};{rfl}
theorem qM (y:C):Ou N a y x (.int n) (.int n) b2 b3 b4 k=k [.int (GB n a x b2 b3 y).1,.int n,.int n,(GB n a x b2 b3 y).2.1,.int b3.elems.length,(GB n a x b2 b3 y).2.2,.int b4.elems.length,b4] []:=by rw[wS];unfold dD GB;simp only[AF,bx,SX,Qa,Nl,AI,AL,AP,AU,Aa,Ag,Ah,Ap,eq_self,if_true,cf];by_cases h:inR n a;{by_cases h2:inR n y;{by_cases h3:(Da n a x b2 b3).1=0;{simp only[Hg h,Hg h2,h,h2,h3,AG]};{have:=Yg n a x b2 b3 h3;simp only[Hg h,Hg h2,h,h2,h3,this,AG]}};{simp only[Hg h,Np h2,h,h2,show ¬(1:Int)=0 by decide,AG]}};{simp only[Np h,h,show ¬(1:Int)=0 by decide,AG]}
theorem qN (y:C):(GB n a x b2 b3 y).2.2.elems.length=b3.elems.length:=by unfold GB;split;{split;{split;{rw[QV,UD]};{rfl}};{rfl}};{rfl}
end
end
theorem gS (ad:Option Addr) (cap:Nat) (w:World):Calls Tryz.prog 35 #[.slice ad 0 cap] w fun e w'=>(∃b,e= .returned (.slice b 0 0))/\Ext w w':=by
 have hq:∀(a:Option Addr) (c:Nat) (w:World),(binOp .eql 75 (.slice a 0 c) (.slice none 0 0)).run Tryz.prog w= .ok (.bool a.isNone) w:=fun a c w=>by have hu:∃E,Tryz.prog.underlying 75=some (.slice E):=⟨73,by kernel_rfl⟩;obtain⟨E,hu⟩:=hu;simp[binOp,run_equal_slice_nil w 75 E a 0 c hu]
 cases ad
 all_goals
  go_enter Tryz.func35,Tryz.ntmps35
  go_wp2
 all_goals go_ret
 ·exact⟨⟨_,rfl⟩,Ext.refl _⟩
 ·exact⟨⟨_,rfl⟩,Ext.alloc _ _⟩
theorem w5 (A:Key->Option O) (cs:List C):Bn (X0 gl0) 35 [.d (.slice 2368 tTx) (.slice cs)] A (.sr (.l 7) [] 0 cs.length none 2368 tTx) [(.l 7,.box (.d (.arr cs.length tTx) (.agg cs)))]:=by
 cases cs with
 |cons c cs=>exact w6 A _ (by simp)|nil=>
  intro A' Γ w args hA' hg hc hn hr;obtain⟨cc,hok⟩:=hc;have hs:args.size=1:=hn.symm;have h0:AE Γ (.d (.slice 2368 tTx) (.slice [])) args[0]:=hr 0 _ _ rfl (dz (by omega:0<args.size));obtain⟨h1,_⟩:=(Bx rfl rfl).1 h0;simp only[AA,AH]at h1;obtain⟨ad,n,cap,cs,e1,e2,e3,e4,e5,e6,e7⟩:=h1;cases e1;have e3:n=0:=by simpa using e3.symm
  subst e3;have ea:args=#[.slice ad 0 cap]:=by
   apply rz;{simpa using hs}
   ·intro i h1 h2
    match i with
    |0=>simpa using e2|i+1=>omega
  rw[ea];refine(gS ad cap w).mono fun e w' he=>?_;obtain⟨⟨b,he1⟩,he2⟩:=he;refine⟨_,Γ,he1,.refl Γ,?_,Oc⟩;exact((cc.ext he2).Se (t:=7) (e:=tTx) rfl).congr (fun _=>rfl) (fun _=>rfl) (fun _ h=>h)
def v7:List Sh:=[.vec (.g (.l 1)) 2368 tTx]
def v8:List (Key × OSh):=[(.l 1,.box (.arr tTx))]
theorem w7 (A:Key->Option O) (n M:Nat) (c:C) (h:n<=c.elems.length) (hA0:A (.l 1)=some (.box (.d (.arr M tTx) c))):Bn (X0 gl0) 35 [.sr (.g (.l 1)) [] 0 n none 2368 tTx] A (.sr (.l 7) [] 0 n none 2368 tTx) [(.l 7,.box (.d (.arr n tTx) (.agg (c.elems.take n))))]:=by
 rcases lg n with rfl|hn
 ·intro A' Γ w args hA' hg hc hn hr;obtain⟨cc,hok⟩:=hc;have hs:args.size=1:=hn.symm;have h0:AE Γ (.sr (.g (.l 1)) [] 0 0 none 2368 tTx) args[0]:=hr 0 _ _ rfl (dz (by omega:0<args.size));obtain⟨cap,ad,e2,_,_⟩:=VY h0;have ea:args=#[.slice ad 0 cap]:=by
   apply rz;{simpa using hs}
   ·intro i h1 h2
    match i with
    |0=>simpa using e2|i+1=>omega
  rw[ea];refine(gS ad cap w).mono fun e w' he=>?_;obtain⟨⟨b,he1⟩,he2⟩:=he;refine⟨_,Γ,he1,.refl Γ,?_,Oc⟩;exact((cc.ext he2).Se (t:=7) (e:=tTx) rfl).congr (fun _=>rfl) (fun _=>rfl) (fun _ h=>h)
 ·generalize hgl:gl0=gl;have ht:(c.elems.take n).length=n:=by simp[h]
  have hne:¬c.elems.take n=[]:=fun h1=>by rw[h1]at ht;simp at ht;omega
  have hz:(n==0)=false:=by simp;omega
  refine JZ (n:=8) (ok0 gl) Tryz.func35 rfl rfl (by simp) ?_;intro A' hA;have ha:=hA _ _ hA0;refine CM (Cs (ok0 gl) [] (by kernel_rfl) ?_);simp only[go_sem,↓CG,↓CF,↓CE,↓CD,↓CH,↓Bu,↓Bt,↓Br,↓Bs,simprocAttr];refine CM (CM (Cs (ok0 gl) [] (by kernel_rfl) ?_));simp only[go_sem,↓CG,↓CF,↓CE,↓CD,↓CH,↓Bu,↓Bt,↓Br,↓Bs,simprocAttr,hz];refine KV _ rfl (fun h=>by simp at h) (fun _=>Gf ?_);refine CM (Cs (ok0 gl) [(7,3)] (by kernel_rfl) ?_);simp only[go_sem,↓CG,↓CF,↓CE,↓CD,↓CH,↓Bu,↓Bt,↓Br,↓Bs,simprocAttr,ha,kr,ht];refine⟨hne,?_⟩;refine Fs ⟨.inr rfl,?_⟩;simp only[FE,go_sem,↓CG,↓CF,↓CE,↓CD,↓CH,↓Bu,↓Bt,↓Br,↓Bs,simprocAttr,Tryz.f35] <;> try rfl
def gQ (_:Nat) {R:Type}:OvG R:=fun xs A K=>match xs with| [.d (.slice eb e) c]=>if eb=2368/\e=tTx then K (.sr (.l 7) [] 0 c.elems.length none 2368 tTx) [(.l 7,.box (.d (.arr c.elems.length tTx) (.agg c.elems)))]else none|xs=>Rq v7 v8 (fun ds _ K=>if(dk ds 0).toInt.toNat<=(dk ds 1).elems.length then K (.sr (.l 7) [] 0 (dk ds 0).toInt.toNat none 2368 tTx) [(.l 7,.box (.d (.arr (dk ds 0).toInt.toNat tTx) (.agg ((dk ds 1).elems.take (dk ds 0).toInt.toNat))))]else none) xs A K
theorem z9 (N:Nat) {R:Type}:GOk (X0 gl0) 35 (gQ N (R:=R)):=by intro xs A Kr r hr;unfold gQ at hr;split at hr;{simp only[bt]at hr;obtain⟨⟨rfl,rfl⟩,hr⟩:=hr;exact⟨_,_,cG (w5 A _),hr⟩};{refine bD (fun ds ms K r hr=>?_) _ _ _ _ hr;split at hr;{exact⟨_,_,w7 _ _ (dk ds 1).elems.length _ ‹_› rfl,hr⟩};{cases hr}}
theorem gR (ad:Option Addr) (cap:Nat) (w:World):Calls Tryz.prog 38 #[.slice ad 0 cap] w fun e w'=>(∃b,e= .returned (.slice b 0 0))/\Ext w w':=by
 have hq:∀(a:Option Addr) (c:Nat) (w:World),(binOp .eql 81 (.slice a 0 c) (.slice none 0 0)).run Tryz.prog w= .ok (.bool a.isNone) w:=fun a c w=>by have hu:∃E,Tryz.prog.underlying 81=some (.slice E):=⟨130,by kernel_rfl⟩;obtain⟨E,hu⟩:=hu;simp[binOp,run_equal_slice_nil w 81 E a 0 c hu]
 cases ad
 all_goals
  go_enter Tryz.func38,Tryz.ntmps38
  go_wp2
 all_goals go_ret
 ·exact⟨⟨_,rfl⟩,Ext.refl _⟩
 ·exact⟨⟨_,rfl⟩,Ext.alloc _ _⟩
theorem y9 (A:Key->Option O) (cs:List C):Bn (X0 gl0) 38 [.d (.slice 40 AZ) (.slice cs)] A (.sr (.l 7) [] 0 cs.length none 40 AZ) [(.l 7,.box (.d (.arr cs.length AZ) (.agg cs)))]:=by
 cases cs with
 |cons c cs=>exact x8 A _ (by simp)|nil=>
  intro A' Γ w args hA' hg hc hn hr;obtain⟨cc,hok⟩:=hc;have hs:args.size=1:=hn.symm;have h0:AE Γ (.d (.slice 40 AZ) (.slice [])) args[0]:=hr 0 _ _ rfl (dz (by omega:0<args.size));obtain⟨h1,_⟩:=(Bx rfl rfl).1 h0;simp only[AA,AH]at h1;obtain⟨ad,n,cap,cs,e1,e2,e3,e4,e5,e6,e7⟩:=h1;cases e1;have e3:n=0:=by simpa using e3.symm
  subst e3;have ea:args=#[.slice ad 0 cap]:=by
   apply rz;{simpa using hs}
   ·intro i h1 h2
    match i with
    |0=>simpa using e2|i+1=>omega
  rw[ea];refine(gR ad cap w).mono fun e w' he=>?_;obtain⟨⟨b,he1⟩,he2⟩:=he;refine⟨_,Γ,he1,.refl Γ,?_,Oc⟩;exact((cc.ext he2).Se (t:=7) (e:=AZ) rfl).congr (fun _=>rfl) (fun _=>rfl) (fun _ h=>h)
def v3:List Sh:=[.vec (.g (.l 1)) 40 AZ]
def v5:List (Key × OSh):=[(.l 1,.box (.arr AZ))]
theorem x9 (A:Key->Option O) (n M:Nat) (c:C) (h:n<=c.elems.length) (hA0:A (.l 1)=some (.box (.d (.arr M AZ) c))):Bn (X0 gl0) 38 [.sr (.g (.l 1)) [] 0 n none 40 AZ] A (.sr (.l 7) [] 0 n none 40 AZ) [(.l 7,.box (.d (.arr n AZ) (.agg (c.elems.take n))))]:=by
 rcases lg n with rfl|hn
 ·intro A' Γ w args hA' hg hc hn hr;obtain⟨cc,hok⟩:=hc;have hs:args.size=1:=hn.symm;have h0:AE Γ (.sr (.g (.l 1)) [] 0 0 none 40 AZ) args[0]:=hr 0 _ _ rfl (dz (by omega:0<args.size));obtain⟨cap,ad,e2,_,_⟩:=VY h0;have ea:args=#[.slice ad 0 cap]:=by
   apply rz;{simpa using hs}
   ·intro i h1 h2
    match i with
    |0=>simpa using e2|i+1=>omega
  rw[ea];refine(gR ad cap w).mono fun e w' he=>?_;obtain⟨⟨b,he1⟩,he2⟩:=he;refine⟨_,Γ,he1,.refl Γ,?_,Oc⟩;exact((cc.ext he2).Se (t:=7) (e:=AZ) rfl).congr (fun _=>rfl) (fun _=>rfl) (fun _ h=>h)
 ·generalize hgl:gl0=gl;have ht:(c.elems.take n).length=n:=by simp[h]
  have hne:¬c.elems.take n=[]:=fun h1=>by rw[h1]at ht;simp at ht;omega
  have hz:(n==0)=false:=by simp;omega
  refine JZ (n:=8) (ok0 gl) Tryz.func38 rfl rfl (by simp) ?_;intro A' hA;have ha:=hA _ _ hA0;refine CM (Cs (ok0 gl) [] (by kernel_rfl) ?_);simp only[go_sem,↓CG,↓CF,↓CE,↓CD,↓CH,↓Bu,↓Bt,↓Br,↓Bs,simprocAttr];refine CM (CM (Cs (ok0 gl) [] (by kernel_rfl) ?_));simp only[go_sem,↓CG,↓CF,↓CE,↓CD,↓CH,↓Bu,↓Bt,↓Br,↓Bs,simprocAttr,hz];refine KV _ rfl (fun h=>by simp at h) (fun _=>Gf ?_);refine CM (Cs (ok0 gl) [(7,3)] (by kernel_rfl) ?_);simp only[go_sem,↓CG,↓CF,↓CE,↓CD,↓CH,↓Bu,↓Bt,↓Br,↓Bs,simprocAttr,ha,kr,ht];refine⟨hne,?_⟩;refine Fs ⟨.inr rfl,?_⟩;simp only[FE,go_sem,↓CG,↓CF,↓CE,↓CD,↓CH,↓Bu,↓Bt,↓Br,↓Bs,simprocAttr,Tryz.f38] <;> try rfl
def gN (_:Nat) {R:Type}:OvG R:=fun xs A K=>match xs with| [.d (.slice eb e) c]=>if eb=40/\e=AZ then K (.sr (.l 7) [] 0 c.elems.length none 40 AZ) [(.l 7,.box (.d (.arr c.elems.length AZ) (.agg c.elems)))]else none|xs=>Rq v3 v5 (fun ds _ K=>if(dk ds 0).toInt.toNat<=(dk ds 1).elems.length then K (.sr (.l 7) [] 0 (dk ds 0).toInt.toNat none 40 AZ) [(.l 7,.box (.d (.arr (dk ds 0).toInt.toNat AZ) (.agg ((dk ds 1).elems.take (dk ds 0).toInt.toNat))))]else none) xs A K
theorem gP (N:Nat) {R:Type}:GOk (X0 gl0) 38 (gN N (R:=R)):=by intro xs A Kr r hr;unfold gN at hr;split at hr;{simp only[bt]at hr;obtain⟨⟨rfl,rfl⟩,hr⟩:=hr;exact⟨_,_,cG (y9 A _),hr⟩};{refine bD (fun ds ms K r hr=>?_) _ _ _ _ hr;split at hr;{exact⟨_,_,x9 _ _ (dk ds 1).elems.length _ ‹_› rfl,hr⟩};{cases hr}}
def Y3:List Sh:=[.as (.ptr (.g (.l 1)) [] CA),.d tTx]
def Y6:List (Key × OSh):=[(.l 1,.box (.agg CA [.as (.ptr (.g (.l 2)) [] BV),.as (.ptr (.g (.l 5)) [] Bc),.d (.int .u64),.d (.int .u64),.vec (.g (.l 7)) 240 AQ,.vec (.g (.l 8)) 2368 tTx,.vec (.g (.l 9)) 40 AZ])),(.l 2,.box (.agg BV [.vec (.g (.l 3)) 8 (.int .u64),.vec (.g (.l 4)) 8 (.int .u64),.d (.int .u64)])),(.l 3,.box (.arr (.int .u64))),(.l 4,.box (.arr (.int .u64))),(.l 5,.box (.agg Bc [.as (.mp (.g (.l 6)))])),(.l 6,.map (.arr 32 (.int .u8)) AB),(.l 7,.box (.arr AQ)),(.l 8,.box (.arr tTx)),(.l 9,.box (.arr AZ))]
def XU (a0 b0 b1 b2 b3 b4 b5 b6 b7 b8 b9 b10 b11 b12 b13:C) (m0:Es) (k1:KD R):Option R:=if bn (bq b8)=bn (bq b8)then(if bn (bq b9)=bn (bq b9)then(SS N (cd a0 1) (br (↑(bo (bp b5)):Int)) (br (↑(bo (bp b6)):Int)) b7 b8 b9 (fun d1 m1=>(bif decide (bp (dk d1 0)<bp (cd a0 3))then(if bn (bq b8)=bn (bq b8)then(if bn (bq b9)=bn (bq b9)then(if AW AB (dE AB m0)=true then(if bn (bq b10)=bn (bq b10)then(if bn (bq b11)=bn (bq b11)then(if bn (bq b12)=bn (bq b12)then(k1 [br 23,b0,b1,br (↑(bo (bp b2)):Int),br (↑(bo (bp b3)):Int),br (↑(bo (bp b4)):Int),br (↑(bo (bp b5)):Int),br (↑(bo (bp b6)):Int),b7,br (↑(bn (bq b8)):Int),b8,br (↑(bn (bq b9)):Int),b9,br (↑(bn (bq b10)):Int),b10,br (↑(bn (bq b11)):Int),b11,br (↑(bn (bq b12)):Int),b12] [unE (dE AB m0)])else none)else none)else none)else none)else none)else none)else(if bn (bq b8)=bn (bq b8)then(if bn (bq b9)=bn (bq b9)then(SU N (cd a0 1) (cd a0 2) (br (↑(bo (bp b5)):Int)) (br (↑(bo (bp b6)):Int)) b7 b8 b9 (fun d2 m2=>(bif !decide (bp (dk d2 0)=0)then(if bn (bq (dk d2 5))=bn (bq (dk d2 5))then(if bn (bq (dk d2 7))=bn (bq (dk d2 7))then(if AW AB (dE AB m0)=true then(if bn (bq b10)=bn (bq b10)then(if bn (bq b11)=bn (bq b11)then(if bn (bq b12)=bn (bq b12)then(k1 [dk d2 0,b0,b1,br (↑(bo (bp b2)):Int),br (↑(bo (bp b3)):Int),br (↑(bo (bp b4)):Int),br (↑(bo (bp (dk d2 1))):Int),br (↑(bo (bp (dk d2 2))):Int),dk d2 3,br (↑(bo (bp (dk d2 4))):Int),dk d2 5,br (↑(bo (bp (dk d2 6))):Int),dk d2 7,br (↑(bn (bq b10)):Int),b10,br (↑(bn (bq b11)):Int),b11,br (↑(bn (bq b12)):Int),b12] [unE (dE AB m0)])else none)else none)else none)else none)else none)else none)else(if bn (bq (dk d2 5))=bn (bq (dk d2 5))then(if bn (bq (dk d2 7))=bn (bq (dk d2 7))then(MW N (br (↑(bo (bp (dk d2 1))):Int)) (br (↑(bo (bp (dk d2 2))):Int)) (dk d2 3) (dk d2 5) (dk d2 7) (fun d3 m3=>(if bn (bq (dk d2 5))=bn (bq (dk d2 5))then(if bn (bq (dk d2 7))=bn (bq (dk d2 7))then(Ou N (cd a0 1) (br (bu ca (bp (dk d3 0)-1))) (cd a0 3) (br (↑(bo (bp (dk d2 1))):Int)) (br (↑(bo (bp (dk d2 2))):Int)) (dk d2 3) (dk d2 5) (dk d2 7) (fun d4 m4=>(if bn (bq (dk d4 5))=bn (bq (dk d4 5))then(if bn (bq (dk d4 7))=bn (bq (dk d4 7))then(if AW AB (dE AB m0)=true then(if bn (bq b10)=bn (bq b10)then(if bn (bq b11)=bn (bq b11)then(if bn (bq b12)=bn (bq b12)then(k1 [dk d4 0,b0,b1,br (↑(bo (bp b2)):Int),br (↑(bo (bp b3)):Int),br (↑(bo (bp b4)):Int),br (↑(bo (bp (dk d4 1))):Int),br (↑(bo (bp (dk d4 2))):Int),dk d4 3,br (↑(bo (bp (dk d2 4))):Int),dk d4 5,br (↑(bo (bp (dk d2 6))):Int),dk d4 7,br (↑(bn (bq b10)):Int),b10,br (↑(bn (bq b11)):Int),b11,br (↑(bn (bq b12)):Int),b12] [unE (dE AB m0)])else none)else none)else none)else none)else none)else none)))else none)else none)))else none)else none))))else none)else none))))else none)else none
def Pk:=lid "" (@XU R N)
theorem hR {R N a0 b0 b1 b2 b3 b4 b5 b6 b7 b8 b9 b10 b11 b12 b13 m0 k}:@Pk R N a0 b0 b1 b2 b3 b4 b5 b6 b7 b8 b9 b10 b11 b12 b13 m0 k=XU N a0 b0 b1 b2 b3 b4 b5 b6 b7 b8 b9 b10 b11 b12 b13 m0 k:=by unfold Pk;rw[Ao]
def Y4:OvG R:=Ca Y3 Y6 (fun ds ms=>Pk N (dk ds 0) (dk ds 1) (dk ds 2) (dk ds 3) (dk ds 4) (dk ds 5) (dk ds 6) (dk ds 7) (dk ds 8) (dk ds 9) (dk ds 10) (dk ds 11) (dk ds 12) (dk ds 13) (dk ds 14) (dm ms 0)) fun ds ms K d1 m1=>K (V.d (cg ca) (dk d1 0)) [(ei (df 1),
  fx
   (mb CA
    [V.ptr (ei (df 2)) [] BV,V.ptr (ei (df 5)) [] Bc,V.d (cg bw) (dk d1 1),
     V.d (cg bw) (dk d1 2),
     nq (df 1000000000234) [] 0 (bo (bp (dk d1 3))) none 240 AQ,
     nq (df 1000000000266) [] 0 (bo (bp (dk d1 4))) none 2368 tTx,
     nq (df 1000000000298) [] 0 (bo (bp (dk d1 5))) none 40 AZ])),
 (ei (df 2),
  fx
   (mb BV
    [nq (df 1000000000106) [] 0 (bo (bp (dk d1 6))) none 8 (cg bw),
     nq (df 1000000000138) [] 0 (bo (bp (dk d1 7))) none 8 (cg bw),
     V.d (cg bw) (dk d1 8)])),
 (ei (df 3),gf (dc (bo (bp (dk d1 9))) (cg bw))),
 (df 1000000000106,fx (V.d (dc (bn (bq (dk d1 10))) (cg bw)) (dk d1 10))),
 (ei (df 4),gf (dc (bo (bp (dk d1 11))) (cg bw))),
 (df 1000000000138,fx (V.d (dc (bn (bq (dk d1 12))) (cg bw)) (dk d1 12))),
 (ei (df 5),fx (mb Bc [V.mp (ei (df 6))])),
 (ei (df 6),O.map (dc 32 (cg de)) AB (dE AB (dm m1 0))),
 (ei (df 7),gf (dc (bo (bp (dk d1 13))) AQ)),
 (df 1000000000234,fx (V.d (dc (bn (bq (dk d1 14))) AQ) (dk d1 14))),
 (ei (df 8),gf (dc (bo (bp (dk d1 15))) tTx)),
 (df 1000000000266,fx (V.d (dc (bn (bq (dk d1 16))) tTx) (dk d1 16))),
 (ei (df 9),gf (dc (bo (bp (dk d1 17))) AZ)),
 (df 1000000000298,fx (V.d (dc (bn (bq (dk d1 18))) AZ) (dk d1 18)))]
theorem Y5:okX 63 (@Y4 R N):=Cc (AR (dB N) <| AR (q6B N) <| AR (q6O N) <| AR (wR N) <| Aq) N [(63,[(0,[(3,5)])])] [(63,[([9],⟨[],[(4,.d (.int .i64))],[.g (.l 1),.g (.l 2),.g (.l 3),.g (.l 4),.g (.l 5),.g (.l 6),.g (.l 7),.g (.l 8),.g (.l 9)],[],[],[(.int .u64),AQ,tTx,AZ]⟩)])] (fun _ _ _=>hR)
def Z9:List Sh:=[.as (.ptr (.g (.l 1)) [] CA),.d tTx]
def Y2:List (Key × OSh):=[(.l 1,.box (.agg CA [.as (.ptr (.g (.l 2)) [] BV),.as (.ptr (.g (.l 5)) [] Bc),.d (.int .u64),.d (.int .u64),.vec (.g (.l 7)) 240 AQ,.vec (.g (.l 8)) 2368 tTx,.vec (.g (.l 9)) 40 AZ])),(.l 2,.box (.agg BV [.vec (.g (.l 3)) 8 (.int .u64),.vec (.g (.l 4)) 8 (.int .u64),.d (.int .u64)])),(.l 3,.box (.arr (.int .u64))),(.l 4,.box (.arr (.int .u64))),(.l 5,.box (.agg Bc [.as (.mp (.g (.l 6)))])),(.l 6,.map (.arr 32 (.int .u8)) AB),(.l 7,.box (.arr AQ)),(.l 8,.box (.arr tTx)),(.l 9,.box (.arr AZ))]
def JY (a0 b0 b1 b2 b3 b4 b5 b6 b7 b8 b9 b10 b11 b12 b13:C) (m0:Es) (k1:KD R):Option R:=bif decide (16<=(↑(bo (bp b2)):Int))then(if bn (bq b8)=bn (bq b8)then(if bn (bq b9)=bn (bq b9)then(if AW AB (dE AB m0)=true then(if bn (bq b10)=bn (bq b10)then(if bn (bq b11)=bn (bq b11)then(if bn (bq b12)=bn (bq b12)then(k1 [br 4,b0,b1,br (↑(bo (bp b2)):Int),br (↑(bo (bp b3)):Int),br (↑(bo (bp b4)):Int),br (↑(bo (bp b5)):Int),br (↑(bo (bp b6)):Int),b7,br (↑(bn (bq b8)):Int),b8,br (↑(bn (bq b9)):Int),b9,br (↑(bn (bq b10)):Int),b10,br (↑(bn (bq b11)):Int),b11,br (↑(bn (bq b12)):Int),b12] [unE (dE AB m0)])else none)else none)else none)else none)else none)else none)else(jn (fun d1 m1=>(bif ez (dk d1 1)then(if bn (bq (dk d1 11))=bn (bq (dk d1 11))then(if bn (bq (dk d1 13))=bn (bq (dk d1 13))then(if AW AB (dE AB (dm m1 0))=true then(if bn (bq (dk d1 15))=bn (bq (dk d1 15))then(if bn (bq (dk d1 17))=bn (bq (dk d1 17))then(if bn (bq (dk d1 19))=bn (bq (dk d1 19))then(k1 [br 1,dk d1 2,dk d1 3,br (↑(bo (bp (dk d1 4))):Int),br (↑(bo (bp (dk d1 5))):Int),br (↑(bo (bp (dk d1 6))):Int),br (↑(bo (bp (dk d1 7))):Int),br (↑(bo (bp (dk d1 8))):Int),dk d1 9,br (↑(bo (bp (dk d1 10))):Int),dk d1 11,br (↑(bo (bp (dk d1 12))):Int),dk d1 13,br (↑(bo (bp (dk d1 14))):Int),dk d1 15,br (↑(bo (bp (dk d1 16))):Int),dk d1 17,br (↑(bo (bp (dk d1 18))):Int),dk d1 19] [unE (dE AB (dm m1 0))])else none)else none)else none)else none)else none)else none)else(ND N (br (bu IntKind.u32 (↑(bo (bp (dk d1 4))):Int))) (dt (dt (AO (dc 2 (cg ca))) 0 (cd (dk d1 0) 1)) 1 (cd (dk d1 0) 4)) (cd (dk d1 0) 8) (cd (dk d1 0) 9) (fun d2 m2=>(bif !decide (bp (dk d2 0)=0)then(if bn (bq (dk d1 11))=bn (bq (dk d1 11))then(if bn (bq (dk d1 13))=bn (bq (dk d1 13))then(if AW AB (dE AB (dm m1 0))=true then(if bn (bq (dk d1 15))=bn (bq (dk d1 15))then(if bn (bq (dk d1 17))=bn (bq (dk d1 17))then(if bn (bq (dk d1 19))=bn (bq (dk d1 19))then(k1 [dk d2 0,dk d1 2,dk d1 3,br (↑(bo (bp (dk d1 4))):Int),br (↑(bo (bp (dk d1 5))):Int),br (↑(bo (bp (dk d1 6))):Int),br (↑(bo (bp (dk d1 7))):Int),br (↑(bo (bp (dk d1 8))):Int),dk d1 9,br (↑(bo (bp (dk d1 10))):Int),dk d1 11,br (↑(bo (bp (dk d1 12))):Int),dk d1 13,br (↑(bo (bp (dk d1 14))):Int),dk d1 15,br (↑(bo (bp (dk d1 16))):Int),dk d1 17,br (↑(bo (bp (dk d1 18))):Int),dk d1 19] [unE (dE AB (dm m1 0))])else none)else none)else none)else none)else none)else none)else(jn (fun d3 m3=>(if(bo (bp (dk d3 2))+1)*240<=140737488355328/\bo (bp (dk d3 2))+1<=9223372036854775807 then(if bn (bq (dk d3 8))=bn (bq (dk d3 8))then(if bn (bq (dk d3 9))=bn (bq (dk d3 9))then(if AW AB (dE AB (dm m3 0))=true then(if bo (bp (dk d3 2))+1=bn (List.take (bo (bp (dk d3 2))) (bq (dk d3 10))++[dk d3 13])then(if bn (bq (dk d3 11))=bn (bq (dk d3 11))then(if bn (bq (dk d3 12))=bn (bq (dk d3 12))then(k1 [br 0,dk d3 0,dk d3 1,br (↑(bo (bp (dk d3 2))+1):Int),br (↑(bo (bp (dk d3 3))):Int),br (↑(bo (bp (dk d3 4))):Int),br (↑(bo (bp (dk d3 5))):Int),br (↑(bo (bp (dk d3 6))):Int),dk d3 7,br (↑(bo (bp (dk d3 14))):Int),dk d3 8,br (↑(bo (bp (dk d3 15))):Int),dk d3 9,br (↑(bo (bp (dk d3 16))):Int),fh (List.take (bo (bp (dk d3 2))) (bq (dk d3 10))++[dk d3 13]),br (↑(bo (bp (dk d3 17))):Int),dk d3 11,br (↑(bo (bp (dk d3 18))):Int),dk d3 12] [unE (dE AB (dm m3 0))])else none)else none)else none)else none)else none)else none)else none)) (fun k2=>(bif decide (0<bp (cd (dk d1 0) 5))then(KP N (dk d2 1) (br 0) (cd (dk d1 0) 5) (fun d3 m3=>(bif !decide (bp (dk d3 0)=0)then(if bn (bq (dk d1 11))=bn (bq (dk d1 11))then(if bn (bq (dk d1 13))=bn (bq (dk d1 13))then(if AW AB (dE AB (dm m1 0))=true then(if bn (bq (dk d1 15))=bn (bq (dk d1 15))then(if bn (bq (dk d1 17))=bn (bq (dk d1 17))then(if bn (bq (dk d1 19))=bn (bq (dk d1 19))then(k1 [dk d3 0,dk d1 2,dk d1 3,br (↑(bo (bp (dk d1 4))):Int),br (↑(bo (bp (dk d1 5))):Int),br (↑(bo (bp (dk d1 6))):Int),br (↑(bo (bp (dk d1 7))):Int),br (↑(bo (bp (dk d1 8))):Int),dk d1 9,br (↑(bo (bp (dk d1 10))):Int),dk d1 11,br (↑(bo (bp (dk d1 12))):Int),dk d1 13,br (↑(bo (bp (dk d1 14))):Int),dk d1 15,br (↑(bo (bp (dk d1 16))):Int),dk d1 17,br (↑(bo (bp (dk d1 18))):Int),dk d1 19] [unE (dE AB (dm m1 0))])else none)else none)else none)else none)else none)else none)else(if bn (bq (dk d1 11))=bn (bq (dk d1 11))then(if bn (bq (dk d1 13))=bn (bq (dk d1 13))then(MV N (cd (dk d1 0) 1) (cd (dk d1 0) 5) (br (↑(bo (bp (dk d1 7))):Int)) (br (↑(bo (bp (dk d1 8))):Int)) (dk d1 9) (dk d1 11) (dk d1 13) (fun d4 m4=>(bif !decide (bp (dk d4 0)=0)then(if bn (bq (dk d4 5))=bn (bq (dk d4 5))then(if bn (bq (dk d4 7))=bn (bq (dk d4 7))then(if AW AB (dE AB (dm m1 0))=true then(if bn (bq (dk d1 15))=bn (bq (dk d1 15))then(if bn (bq (dk d1 17))=bn (bq (dk d1 17))then(if bn (bq (dk d1 19))=bn (bq (dk d1 19))then(k1 [dk d4 0,dk d1 2,dk d1 3,br (↑(bo (bp (dk d1 4))):Int),br (↑(bo (bp (dk d1 5))):Int),br (↑(bo (bp (dk d1 6))):Int),br (↑(bo (bp (dk d4 1))):Int),br (↑(bo (bp (dk d4 2))):Int),dk d4 3,br (↑(bo (bp (dk d1 10))):Int),dk d4 5,br (↑(bo (bp (dk d1 12))):Int),dk d4 7,br (↑(bo (bp (dk d1 14))):Int),dk d1 15,br (↑(bo (bp (dk d1 16))):Int),dk d1 17,br (↑(bo (bp (dk d1 18))):Int),dk d1 19] [unE (dE AB (dm m1 0))])else none)else none)else none)else none)else none)else none)else(if bn (bq (dk d4 5))=bn (bq (dk d4 5))then(if bn (bq (dk d4 7))=bn (bq (dk d4 7))then(if AW AB (dE AB (dm m1 0))=true then(if bn (bq (dk d1 15))=bn (bq (dk d1 15))then(if bn (bq (dk d1 17))=bn (bq (dk d1 17))then(if bn (bq (dk d1 19))=bn (bq (dk d1 19))then(k2 [dk d1 2,dk d1 3,br (↑(bo (bp (dk d1 4))):Int),br (↑(bo (bp (dk d1 5))):Int),br (↑(bo (bp (dk d1 6))):Int),br (↑(bo (bp (dk d4 1))):Int),br (↑(bo (bp (dk d4 2))):Int),dk d4 3,dk d4 5,dk d4 7,dk d1 15,dk d1 17,dk d1 19,dk d3 1,br (↑(bo (bp (dk d1 10))):Int),br (↑(bo (bp (dk d1 12))):Int),br (↑(bo (bp (dk d1 14))):Int),br (↑(bo (bp (dk d1 16))):Int),br (↑(bo (bp (dk d1 18))):Int),br (↑(bo (bp (dk d1 10))):Int),br (↑(bo (bp (dk d1 12))):Int),br (↑(bo (bp (dk d1 14))):Int),br (↑(bo (bp (dk d1 16))):Int),br (↑(bo (bp (dk d1 18))):Int)] [unE (dE AB (dm m1 0))])else none)else none)else none)else none)else none)else none))))else none)else none))))else(if bn (bq (dk d1 11))=bn (bq (dk d1 11))then(if bn (bq (dk d1 13))=bn (bq (dk d1 13))then(if AW AB (dE AB (dm m1 0))=true then(if bn (bq (dk d1 15))=bn (bq (dk d1 15))then(if bn (bq (dk d1 17))=bn (bq (dk d1 17))then(if bn (bq (dk d1 19))=bn (bq (dk d1 19))then(k2 [dk d1 2,dk d1 3,br (↑(bo (bp (dk d1 4))):Int),br (↑(bo (bp (dk d1 5))):Int),br (↑(bo (bp (dk d1 6))):Int),br (↑(bo (bp (dk d1 7))):Int),br (↑(bo (bp (dk d1 8))):Int),dk d1 9,dk d1 11,dk d1 13,dk d1 15,dk d1 17,dk d1 19,dk d2 1,br (↑(bo (bp (dk d1 10))):Int),br (↑(bo (bp (dk d1 12))):Int),br (↑(bo (bp (dk d1 14))):Int),br (↑(bo (bp (dk d1 16))):Int),br (↑(bo (bp (dk d1 18))):Int),br (↑(bo (bp (dk d1 10))):Int),br (↑(bo (bp (dk d1 12))):Int),br (↑(bo (bp (dk d1 14))):Int),br (↑(bo (bp (dk d1 16))):Int),br (↑(bo (bp (dk d1 18))):Int)] [unE (dE AB (dm m1 0))])else none)else none)else none)else none)else none)else none))))))))) (fun k2=>(bif decide (bp (cd a0 4)<0)then(if bn (bq b8)=bn (bq b8)then(if bn (bq b9)=bn (bq b9)then(if AW AB (dE AB m0)=true then(if bn (bq b10)=bn (bq b10)then(if bn (bq b11)=bn (bq b11)then(if bn (bq b12)=bn (bq b12)then(k2 [a0,dw true,b0,b1,br (↑(bo (bp b2)):Int),br (↑(bo (bp b3)):Int),br (↑(bo (bp b4)):Int),br (↑(bo (bp b5)):Int),br (↑(bo (bp b6)):Int),b7,br (↑(bn (bq b8)):Int),b8,br (↑(bn (bq b9)):Int),b9,br (↑(bn (bq b10)):Int),b10,br (↑(bn (bq b11)):Int),b11,br (↑(bn (bq b12)):Int),b12] [unE (dE AB m0)])else none)else none)else none)else none)else none)else none)else(if bn (bq b8)=bn (bq b8)then(if bn (bq b9)=bn (bq b9)then(MW N (br (↑(bo (bp b5)):Int)) (br (↑(bo (bp b6)):Int)) b7 b8 b9 (fun d1 m1=>(if bn (bq b8)=bn (bq b8)then(if bn (bq b9)=bn (bq b9)then(if AW AB (dE AB m0)=true then(if bn (bq b10)=bn (bq b10)then(if bn (bq b11)=bn (bq b11)then(if bn (bq b12)=bn (bq b12)then(k2 [a0,dw (decide (bu ca (bp (dk d1 0)-1)<=bp (cd a0 4))),b0,b1,br (↑(bo (bp b2)):Int),br (↑(bo (bp b3)):Int),br (↑(bo (bp b4)):Int),br (↑(bo (bp b5)):Int),br (↑(bo (bp b6)):Int),b7,br (↑(bn (bq b8)):Int),b8,br (↑(bn (bq b9)):Int),b9,br (↑(bn (bq b10)):Int),b10,br (↑(bn (bq b11)):Int),b11,br (↑(bn (bq b12)):Int),b12] [unE (dE AB m0)])else none)else none)else none)else none)else none)else none)))else none)else none))))
def Pj:=lid "" (@JY R N)
theorem KU {R N a0 b0 b1 b2 b3 b4 b5 b6 b7 b8 b9 b10 b11 b12 b13 m0 k}:@Pj R N a0 b0 b1 b2 b3 b4 b5 b6 b7 b8 b9 b10 b11 b12 b13 m0 k=JY N a0 b0 b1 b2 b3 b4 b5 b6 b7 b8 b9 b10 b11 b12 b13 m0 k:=by unfold Pj;rw[Ao]
def Y0:OvG R:=Ca Z9 Y2 (fun ds ms=>Pj N (dk ds 0) (dk ds 1) (dk ds 2) (dk ds 3) (dk ds 4) (dk ds 5) (dk ds 6) (dk ds 7) (dk ds 8) (dk ds 9) (dk ds 10) (dk ds 11) (dk ds 12) (dk ds 13) (dk ds 14) (dm ms 0)) fun ds ms K d1 m1=>K (V.d (cg ca) (dk d1 0)) [(ei (df 1),
  fx
   (mb CA
    [V.ptr (ei (df 2)) [] BV,V.ptr (ei (df 5)) [] Bc,V.d (cg bw) (dk d1 1),
     V.d (cg bw) (dk d1 2),
     nq (df 1000000000234) [] 0 (bo (bp (dk d1 3))) none 240 AQ,
     nq (df 1000000000266) [] 0 (bo (bp (dk d1 4))) none 2368 tTx,
     nq (df 1000000000298) [] 0 (bo (bp (dk d1 5))) none 40 AZ])),
 (ei (df 2),
  fx
   (mb BV
    [nq (df 1000000000106) [] 0 (bo (bp (dk d1 6))) none 8 (cg bw),
     nq (df 1000000000138) [] 0 (bo (bp (dk d1 7))) none 8 (cg bw),
     V.d (cg bw) (dk d1 8)])),
 (ei (df 3),gf (dc (bo (bp (dk d1 9))) (cg bw))),
 (df 1000000000106,fx (V.d (dc (bn (bq (dk d1 10))) (cg bw)) (dk d1 10))),
 (ei (df 4),gf (dc (bo (bp (dk d1 11))) (cg bw))),
 (df 1000000000138,fx (V.d (dc (bn (bq (dk d1 12))) (cg bw)) (dk d1 12))),
 (ei (df 5),fx (mb Bc [V.mp (ei (df 6))])),
 (ei (df 6),O.map (dc 32 (cg de)) AB (dE AB (dm m1 0))),
 (ei (df 7),gf (dc (bo (bp (dk d1 13))) AQ)),
 (df 1000000000234,fx (V.d (dc (bn (bq (dk d1 14))) AQ) (dk d1 14))),
 (ei (df 8),gf (dc (bo (bp (dk d1 15))) tTx)),
 (df 1000000000266,fx (V.d (dc (bn (bq (dk d1 16))) tTx) (dk d1 16))),
 (ei (df 9),gf (dc (bo (bp (dk d1 17))) AZ)),
 (df 1000000000298,fx (V.d (dc (bn (bq (dk d1 18))) AZ) (dk d1 18)))]
theorem Y1:okX 82 (@Y0 R N):=Cc (AR (dB N) <| AR (cZ N) <| AR (ar N) <| AR (fP N) <| Aq) N [(82,[(0,[(3,5)]),(5,[(43,7)]),(15,[(5,6)])])] [(82,[([0,0,1,1],⟨[0,3],[(26,.d .bool)],[.g (.l 1),.g (.l 2),.g (.l 3),.g (.l 4),.g (.l 5),.g (.l 6),.g (.l 7),.g (.l 8),.g (.l 9)],[],[],[(.int .u64),AQ,tTx,AZ]⟩),
  ([1,0,1,1,1,1,1],⟨[0,5],[],[.g (.l 1),.g (.l 2),.g (.l 3),.g (.l 4),.g (.l 5),.g (.l 6),.g (.l 7),.g (.l 8),.g (.l 9)],[],[],[(.int .u64),AQ,tTx,AZ]⟩),
  ([9],⟨[],[(4,.d (.int .i64))],[.g (.l 1),.g (.l 2),.g (.l 3),.g (.l 4),.g (.l 5),.g (.l 6),.g (.l 7),.g (.l 8),.g (.l 9)],[],[],[(.int .u64),AQ,tTx,AZ]⟩)])] (fun _ _ _=>KU)
end Go.Proofs.YtpemdagggddcfaaGreatDoor
