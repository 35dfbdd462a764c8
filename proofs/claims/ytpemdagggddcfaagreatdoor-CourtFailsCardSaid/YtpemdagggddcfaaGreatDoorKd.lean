/-
 What the functions on the way compute, part 4.
 Conditions: none.
-/
import Derived.Test.YtpemdagggddcfaaGreatDoorKc
import Derived.WalkLawsBesides
set_option linter.all false
noncomputable section
set_option maxRecDepth 100000
set_option maxHeartbeats 4000000
open Array renaming getElem?_eq_getElem->ee
open Go.E.C renaming agg->eg,bool->dv,elems->bq,get->cd,int->bt,set->dp,slice->cz,toBool->ek,toInt->bp
open Go.E.Key renaming g->ej,l->dg
open Go.E.O renaming box->fw,dead->gh
open Go.E.Ty renaming arr->dc,int->cg
open Go.E.V renaming agg->mj,sr->og
open Go.IntKind renaming i64->ca,u64->bu,u8->df,wrap->bw
open Int renaming toNat->bo,toNat_natCast->bx
open List renaming length->bn,replicate->db
open Nat renaming zero_add->cf
namespace Go.Proofs.YtpemdagggddcfaaGreatDoor
open Go Go.E
variable {R:Type} (N:Nat)
def Vx {R:Type} (N:Nat) (k1:KD R) (k2:KD R):KD R->KD R:=fun k3 d1 m1=>(bif decide (bp (dk d1 3)<bp (dk d1 2))then(if 0<=bp (dk d1 3)/\bp (dk d1 3)<(↑(bn (bq (dk d1 0))):Int)then(bif decide (bp (dk d1 1)=bp (List.getD (bq (dk d1 0)) (bo (bp (dk d1 3))) C.nil))then(k1 [dk d1 3] [])else(k3 [dk d1 0,dk d1 1,dk d1 2,bt (bw ca (bp (dk d1 3)+1))] []))else none)else(k2 [] []))
def cZ (a0 a1:C) (k1:KD R):Option R:=jn (fun d1 m1=>(k1 [bt (-1)] [])) (fun k2=>(BU N (Vx N k1 k2) [a0,a1,bt (↑(bn (bq a0)):Int),bt 0] []))
def Oy:=lid "" (@cZ R N)
theorem wW {R N a0 a1 k}:@Oy R N a0 a1 k=cZ N a0 a1 k:=by unfold Oy;rw[Ag]
def q65:OvG R:=BS [.slice 8 (.int .i64),.int .i64] (DY (Oy N)) (Ca (cg ca))
theorem wV:okX 62 (@q65 R N):=BW Ah N [] [(62,[([1,0,1],(Bc [])),
  ([4,1,0,1],(Bm [0,1,7] [(8,.d (.int .i64))])),
  ([9],(Bc [(4,.d (.int .i64))]))])] (fun _ _=>wW)
def Ws (a0 a1:C) (k1:KD R):Option R:=Oy N (cz (cut (bq (cd a0 1)) 0 2)) a1 (fun d1 m1=>(k1 [bt (if bp (dk d1 0)<0 then 0 else bp (dk d1 0)),dv (decide (0<=bp (dk d1 0)))] []))
def PX:=lid "" (@Ws R N)
theorem gL {R N a0 a1 k}:@PX R N a0 a1 k=Ws N a0 a1 k:=by unfold PX;rw[Ag]
def w7:OvG R:=BS [AO,.int .i64] (DY (PX N)) fun a K d1 m1=>K (V.tup [V.d (cg ca) (dk d1 0),V.d Ty.bool (dv (ek (dk d1 1)))]) []
theorem w8:okX 102 (@w7 R N):=BW (AP (wV N) <| Ah) N [(102,[(0,[(2,5)]),(1,[(10,8)])])] [(102,[([9],(Bc [(4,.d (.int .i64)),(5,.d .bool)]))])] (fun _ _=>gL)
def Wz (a0 a1 a2 a3:C) (k1:KD R):Option R:=jn (fun d1 m1=>(bif ek (dk d1 4)then(k1 [bt 1,Cb] [])else(bif !decide (Ej (bq (dk d1 1))=0)then(k1 [bt (Ej (bq (dk d1 1))),Cb] [])else(OT N (dk d1 0) (fun d2 m2=>(bif Nat.beq (bn (bq (dk d1 1))) (bn (bq (dk d1 1)))&&true then(k1 [bt 0,eg [dk d1 0,dk d1 2,dk d1 3,cz (bq (dk d1 1)),AL (dc 2 (cg bu)),AL (dc 2 (cg bu)),AL (cg ca),AL (cg bu),dk d2 0]] [])else none)))))) (fun k2=>(bif decide (bp (cd a1 (bo 0))=bp (cd a1 (bo 1)))then(k2 [a0,a3,a1,a2,dv true,Cb] [])else(bif decide (bp (cd a2 1)<0)then(k2 [a0,a3,a1,a2,dv true,Cb] [])else(k2 [a0,a3,a1,a2,dv (decide (8<bp (cd a2 1))),Cb] []))))
def NI:=lid "" (@Wz R N)
theorem gR {R N a0 a1 a2 a3 k}:@NI R N a0 a1 a2 a3 k=Wz N a0 a1 a2 a3 k:=by unfold NI;rw[Ag]
def u3:OvG R:=BS [.int .u32,.arr 2 (.int .i64),Cj,.slice 1 (.int .u8)] (fun a=>NI N (a 0) (a 1) (a 2) (a 3)) fun a K d1 m1=>K (V.tup [V.d AO (dk d1 1),V.d (cg ca) (dk d1 0)]) []
theorem u4:okX 100 (@u3 R N):=BW (AP (TP N) <| AP (Q9 N) <| AP (tQ N) <| Ah) N [(100,[(0,[(5,5),(6,5)]),(6,[(39,7)])])] [(100,[([0,0,1],(Bm [0,3,5,6,8] [(25,.d .bool)])),
  ([9],⟨[],[(8,.as (.ptr (.l 8) [] AO)),(9,.d (.int .i64))],[],[(.l 8,.box (.d AO))],[],[]⟩)])] (fun _ _=>gR)
def Zh (a0:C) (k1:KD R):Option R:=Jv N (bt 6) (cz [cz (cut (bq a0) 0 32)]) (fun d1 m1=>(k1 [dk d1 0] []))
def RM:=lid "" (@Zh R N)
theorem qL {R N a0 k}:@RM R N a0 k=Zh N a0 k:=by unfold RM;rw[Ag]
def q3V:OvG R:=BS [.arr 32 (.int .u8)] (Cw (RM N)) (Ca (dc 32 (cg df)))
theorem q3W:okX 99 (@q3V R N):=BW (AP (RL N) <| Ah) N [(99,[(0,[(1,5)])])] [(99,[([9],⟨[],[(2,.as (.ptr (.l 2) [] (.arr 32 (.int .u8))))],[],[(.l 2,.box (.d (.arr 32 (.int .u8))))],[],[]⟩)])] (fun _ _=>qL)
def q4O:List Sh:=[.as (.ptr (.g (.l 1)) [] Bb),.d (.arr 32 (.int .u8)),.d (.int .u64)]
def q4R:List (Key × OSh):=[(.l 1,.box (.agg Bb [.as (.mp (.g (.l 2)))])),(.l 2,.map (.arr 32 (.int .u8)) AB)]
def VC (a0 a1 a2 b0:C) (m0:Es) (k1:KD R):Option R:=RM N a0 (fun d1 m1=>(bif De AB (dE AB m0)then(bif IU (dE AB m0) (dk d1 0)then(if Ab AB (dE AB m0)=true then(k1 [bt 7] [unE (dE AB m0)])else none)else(if Ab AB (GV (dE AB (dm [m0] 0)) (dk d1 0) (V.d AB (dp (dp (eg [eg (db 32 (bt 0)),bt 0]) 0 a0) 1 a1)))=true then(k1 [bt 0] [unE (GV (dE AB (dm [m0] 0)) (dk d1 0) (V.d AB (dp (dp (eg [eg (db 32 (bt 0)),bt 0]) 0 a0) 1 a1)))])else none))else none))
def Rf:=lid "" (@VC R N)
theorem aF {R N a0 a1 a2 b0 m0 k}:@Rf R N a0 a1 a2 b0 m0 k=VC N a0 a1 a2 b0 m0 k:=by unfold Rf;rw[Ag]
def q4P:OvG R:=CP q4O q4R (fun ds ms=>Rf N (dk ds 0) (dk ds 1) (dk ds 2) (dk ds 3) (dm ms 0)) fun ds ms K d1 m1=>K (V.d (cg ca) (dk d1 0)) [(ej (dg 1),fw (mj Bb [V.mp (ej (dg 2))])),
 (ej (dg 2),O.map (dc 32 (cg df)) AB (dE AB (dm m1 0)))]
theorem q4Q:okX 81 (@q4P R N):=CT (AP (q3W N) <| Ah) N [(81,[(0,[(4,5)]),(4,[(7,6)]),(7,[(7,6)])])] [(81,[([9],⟨[],[(6,.d (.int .i64))],[.g (.l 1),.g (.l 2)],[],[],[]⟩)])] (fun _ _ _=>aF)
section
variable {R:Type} {N:Nat}
theorem ab {a b:Int}:W64 (Bq a b).1:=by unfold Bq;split;{exact⟨Int.emod_nonneg _ (by decide),Int.emod_lt_of_pos _ (by decide)⟩};{exact⟨by decide,by decide⟩}
section
variable {id who rts:C} {wj:List C} {put wg ph un wb:C}
def LF (id who rts:C) (wj:List C) (put wg ph un wb d:C) (w:Bool) (wc:Int):Int × C:=
 if ph.toInt=0 then(3,zB)else if GQ ph put wg wb d w≠0 then(GQ ph put wg wb d w,zB)else
  if un.toInt<=wc then(29,zB)else if((d.get 0).get 1).toInt<=(wb.get 1).toInt then(25,zB)else(0,mkB id who rts wj put wg ph un (Cr wb d))
theorem q6S {d:C} {w:Bool} (hW:∀k:KD R,Je N rts d id k=k [.bool w] []) (h:SOk wb) (hd:SOk (d.get 0)) (hN:2199023255552<N) (wc:C) (k:KD R):
  NH N (mkB id who rts wj put wg ph un wb) d wc k=k [.int (LF id who rts wj put wg ph un wb d w wc.toInt).1,(LF id who rts wj put wg ph un wb d w wc.toInt).2] []:=by
 have h6:(mkB id who rts wj put wg ph un wb).get 6=ph:=rfl;have h7:(mkB id who rts wj put wg ph un wb).get 7=un:=rfl;have h8:(mkB id who rts wj put wg ph un wb).get 8=wb:=rfl;rw[gK];unfold Wr LF;rw[LN];simp only[h6,h7,h8,look_eq hW hN,AI,AF,Wm h hd];by_cases h1:ph.toInt=0;{simp[h1]};by_cases h2:GQ ph put wg wb d w=0
 case neg=>simp[h1,h2]
 by_cases h3:un.toInt<=wc.toInt;{simp[h1,h2,h3]};by_cases h4:((d.get 0).get 1).toInt<=(wb.get 1).toInt <;> simp[h1,h2,h3,h4]
def VW (wg wb d:C) (side:Nat):Int:=IntKind.u64.wrap ((((Cr wb d).get 3).get side).toInt-(wg.get side).toInt)
def IL (id who rts:C) (wj:List C) (put wg ph un wb d:C) (w:Bool) (side:Int):Int × Int × C:=
 if side≠0/\side≠1 then(0,1,zB)else if GQ ph put wg wb d w≠0 then(0,GQ ph put wg wb d w,zB)else
  if VW wg wb d side.toNat=0 then(0,6,zB)else(VW wg wb d side.toNat,0,mkB id who rts wj put (wg.set side.toNat (((Cr wb d).get 3).get side.toNat)) ph un (Cr wb d))
theorem q6U (side:Int) (a b c e:C) (K:KD R):(bif !decide (side=0)then K [a,b,.bool (!decide (side=1)),c,e] []else K [a,b,.bool false,c,e] [])=K [a,b,.bool (decide (side≠0/\side≠1)),c,e] []:=by by_cases h0:side=0;{simp[h0]};{by_cases h1:side=1 <;> simp[h0,h1]}
theorem q0P {d:C} {w:Bool} (hW:∀k:KD R,Je N rts d id k=k [.bool w] []) (h:SOk wb) (hd:SOk (d.get 0)) (hN:2199023255552<N) (side:C)
  (hp:∀i<2,W64 (wg.get i).toInt) (ht:∀i<2,((Cr wb d).get 3).get i= .int (((Cr wb d).get 3).get i).toInt/\W64 (((Cr wb d).get 3).get i).toInt) (k:KD R):
  ND N (mkB id who rts wj put wg ph un wb) side d k=k [.int (IL id who rts wj put wg ph un wb d w side.toInt).1,.int (IL id who rts wj put wg ph un wb d w side.toInt).2.1,(IL id who rts wj put wg ph un wb d w side.toInt).2.2] []:=by
 rw[gF];unfold Wn IL;rw[LN];refine(q2A [side,d,.bool (decide (side.toInt≠0/\side.toInt≠1)),mkB id who rts wj put wg ph un wb,zB] [] fun K=>q6U _ _ _ _ _ K).trans ?_;by_cases h0:side.toInt≠0/\side.toInt≠1;{simp only[AR,AW,h0,AG,ne_eq,not_false_iff,and_self]};have hs:0<=side.toInt/\side.toInt<2:=by omega
 have h5:(mkB id who rts wj put wg ph un (Cr wb d)).get 5=wg:=rfl;have h8:(mkB id who rts wj put wg ph un (Cr wb d)).get 8=Cr wb d:=rfl;rw[if_neg h0];simp only[AI,AQ,AR,AV,AW,h0,AG,look_eq hW hN,AF,Wm h hd,hs,and_self,h5,h8];by_cases h1:GQ ph put wg wb d w=0
 case neg=>simp[h1]
 simp only[h1,AG,ne_eq,not_true];obtain⟨t1,t2,t3⟩:=ht side.toInt.toNat (by omega);obtain⟨p1,p2⟩:=hp side.toInt.toNat (by omega);have wu:∀n:Int,IntKind.u64.wrap n=n%18446744073709551616:=fun n=>by simp[bw,IntKind.bits,IntKind.signed]
 have back:IntKind.u64.wrap ((wg.get side.toInt.toNat).toInt+IntKind.u64.wrap ((((Cr wb d).get 3).get side.toInt.toNat).toInt-(wg.get side.toInt.toNat).toInt))=(((Cr wb d).get 3).get side.toInt.toNat).toInt:=by rw[wu,wu];omega
 rw[back,<-t1];unfold VW;by_cases h2:IntKind.u64.wrap ((((Cr wb d).get 3).get side.toInt.toNat).toInt-(wg.get side.toInt.toNat).toInt)=0;{simp only[h2,AG]};{simp only[h2,AG];rfl}
end
structure StG (s:C):Prop where
 w:StW s
 e:StE s
 r:s.get 1= .int (s.get 1).toInt
 t0:(s.get 3).get 0= .int ((s.get 3).get 0).toInt
 t1:(s.get 3).get 1= .int ((s.get 3).get 1).toInt
theorem Mt {c:C} (h:C.wf (.int .u64) c):W64 c.toInt/\c= .int c.toInt:=by
 have m1:IntKind.u64.min=0:=by decide
 have m2:IntKind.u64.max=18446744073709551615:=by decide
 exact⟨⟨by have:=h.2.1;omega,by have:=h.2.2;omega⟩,h.1⟩
theorem uA {c:C} (h:C.wf (.arr 2 (.int .u64)) c):c= .agg [c.get 0,c.get 1]/\(W64 (c.get 0).toInt/\c.get 0= .int (c.get 0).toInt)/\(W64 (c.get 1).toInt/\c.get 1= .int (c.get 1).toInt):=by
 simp only[C.wf]at h;obtain⟨h1,h2,h3⟩:=h;have e:∀i,c.get i=c.elems.getD i .nil:=fun i=>by rw[h1];rfl
 refine⟨?_,Mt (by rw[e];simp only[C.wf];exact h3 _ (Hd (by omega))),Mt (by rw[e];simp only[C.wf];exact h3 _ (Hd (by omega)))⟩;rw[e,e];generalize hl:c.elems=l at*;rw[h1]
 match l,h2 with
 | [x,y],_=>rfl
theorem q7g {s:C} (h:C.wf BV s) (hl:(s.get 4).elems.length<=12):StG s:=by
 have m1:IntKind.u32.min=0:=by decide
 have m2:IntKind.u32.max=4294967295:=by decide
 have ch:=C.FT (i:=0) (f:=.int .u32) h rfl;have rd:=Mt (C.FT (i:=1) h rfl);have mv:=uA (C.FT (i:=2) h rfl);have tk:=uA (C.FT (i:=3) h rfl);have cs:=C.FT (i:=4) (f:=.slice 64 Bz) h rfl;simp only[C.wf]at cs;obtain⟨c1,_,_,c2⟩:=cs;have hch:(s.get 0).toInt<4294967296:=by have:=ch.2.2;omega
 refine⟨⟨⟨by have:=ch.2.1;omega,by omega⟩,rd.1,mv.2.1.1,mv.2.2.1,tk.2.1.1,tk.2.2.1,fun c hc=>?_,hl⟩,⟨?_,fun c hc=>?_,hl⟩,rd.2,tk.2.1.2,tk.2.2.2⟩;{have hw:=c2 c hc;have hb:=C.FT (i:=3) (f:=.arr 32 (.int .u8)) hw rfl;simp only[C.wf]at hb;exact⟨(Mt (C.FT (i:=0) hw rfl)).1,(Mt (C.FT (i:=2) hw rfl)).1,hb.2.1,(Mt (C.FT (i:=4) hw rfl)).1⟩};{show s= .agg [s.get 0,s.get 1,s.get 2,s.get 3,.slice (s.get 4).elems];rw[<-c1];exact(C.Sm h).symm};{exact(C.Sm (c2 c hc)).symm}
theorem fF {x:Int} (h:W64 x):Bq 0 x=(x,0):=by have:=h.1;have:=h.2;unfold Bq;rw[if_pos (by omega)];congr 1;omega
theorem xG {x y:C} (hx:W64 x.toInt):(EU [x,y]).2=(Bq x.toInt y.toInt).2:=by unfold EU;simp only[CI,LU,fF hx,if_true];by_cases h:(Bq x.toInt y.toInt).2=0 <;> simp[Mh,h]
structure HC (c:C):Prop where
 eta:c= .agg [.int (c.get 0).toInt,.int (c.get 1).toInt]
 a:W64 (c.get 0).toInt
 b:W64 (c.get 1).toInt
theorem HC.g0 {c:C} (h:HC c):c.get 0= .int (c.get 0).toInt:=congrArg (fun x=>cd x 0) h.eta
theorem HC.g1 {c:C} (h:HC c):c.get 1= .int (c.get 1).toInt:=congrArg (fun x=>cd x 1) h.eta
theorem HC.gi {c:C} (h:HC c):∀i<2,W64 (c.get i).toInt:=fun i hi=>by rcases(by omega:i=0\/i=1)with rfl|rfl;{exact h.a};{exact h.b}
theorem HC.set {c:C} (h:HC c) {i:Nat} (hi:i<2) {v:Int} (hv:W64 v):HC (c.set i (.int v)):=by rw[h.eta];rcases(by omega:i=0\/i=1)with rfl|rfl;{exact⟨rfl,hv,h.b⟩};{exact⟨rfl,h.a,hv⟩}
def Sg (c:C):Int:=(c.get 0).toInt+(c.get 1).toInt
structure Gz (put wg ph un wb:C):Prop where
 put:HC put
 wg:HC wg
 ph:ph= .int ph.toInt
 un:un= .int un.toInt
 wb:StG wb
theorem TD {wb d:C} (h:StG wb) (hd:StG (d.get 0)):StG (Cr wb d):=by unfold Cr;split;{exact hd};{exact h}
theorem StG.tk {s:C} (h:StG s):∀i<2,(s.get 3).get i= .int ((s.get 3).get i).toInt/\W64 ((s.get 3).get i).toInt:=fun i hi=>by rcases(by omega:i=0\/i=1)with rfl|rfl;{exact⟨h.t0,h.w.q0⟩};{exact⟨h.t1,h.w.q1⟩}
theorem fG {a b:Int} (h:¬(Bq a b).2≠0):(a+b) / 18446744073709551616=0/\(Bq a b).1=(a+b)%18446744073709551616:=by unfold Bq at h ⊢;split;{rename_i h1;exact⟨h1,rfl⟩};{rename_i h1;rw[if_neg h1]at h;exact absurd (show(11:Int)≠0 by decide) h}
section
variable {id who rts:C} {wj:List C} {put wg ph un wb:C}
theorem rA (h:Gz put wg ph un wb) (side wo:Int):
  ((JI id who rts wj put wg ph un wb side wo).1=0/\∃xt,(JI id who rts wj put wg ph un wb side wo).2=mkB id who rts wj xt wg ph un wb/\Gz xt wg ph un wb/\ph.toInt≠2/\(0<=wo->Sg put<=Sg xt)/\Sg xt<18446744073709551616)\/
  ((JI id who rts wj put wg ph un wb side wo).1≠0/\(JI id who rts wj put wg ph un wb side wo).2=zB):=by
 unfold JI;split;{exact .inr ⟨by decide,rfl⟩};rename_i a1;split;{exact .inr ⟨by decide,rfl⟩};rename_i a2;split;{rename_i a3;exact .inr ⟨a3,rfl⟩};rename_i a3;split;{rename_i a4;exact .inr ⟨a4,rfl⟩};rename_i a4;have hs:side=0\/side=1:=by omega
 have hw:W64 (Bq (put.get side.toNat).toInt wo).1:=ab;have hp:=h.put.set (i:=side.toNat) (by omega) hw;refine .inl ⟨rfl,_,rfl,⟨hp,h.wg,h.ph,h.un,h.wb⟩,a2,fun ha=>?_,?_⟩
 ·have hv:(Bq (put.get side.toNat).toInt wo).1=(put.get side.toNat).toInt+wo:=by have:=fG a3;omega
  unfold Sg;rw[hv];rcases hs with rfl|rfl;{rw[h.put.eta];show _<=(put.get 0).toInt+wo+(put.get 1).toInt;show(put.get 0).toInt+(put.get 1).toInt<=_;omega};{rw[h.put.eta];show(put.get 0).toInt+(put.get 1).toInt<=(put.get 0).toInt+((put.get 1).toInt+wo);omega}
 ·rw[xG hp.a]at a4;unfold Sg;have h1:=hp.a.1;have h2:=hp.b.1;have:=(fG a4).1;omega
theorem q0O (h:Gz put wg ph un wb) {d:C} (hd:StG (d.get 0)) (w:Bool) (side:Int):
  ((IL id who rts wj put wg ph un wb d w side).2.1=0/\(side=0\/side=1)/\GQ ph put wg wb d w=0/\(IL id who rts wj put wg ph un wb d w side).1=VW wg wb d side.toNat/\
    (IL id who rts wj put wg ph un wb d w side).2.2=mkB id who rts wj put (wg.set side.toNat (((Cr wb d).get 3).get side.toNat)) ph un (Cr wb d)/\Gz put (wg.set side.toNat (((Cr wb d).get 3).get side.toNat)) ph un (Cr wb d))\/
  ((IL id who rts wj put wg ph un wb d w side).2.1≠0/\(IL id who rts wj put wg ph un wb d w side).2.2=zB/\(IL id who rts wj put wg ph un wb d w side).1=0):=by
 unfold IL;split;{exact .inr ⟨by decide,rfl,rfl⟩};rename_i a1;split;{rename_i a2;exact .inr ⟨a2,rfl,rfl⟩};rename_i a2;split;{exact .inr ⟨by decide,rfl,rfl⟩};have hb:=TD h.wb hd;have ht:=hb.tk side.toNat (by omega);refine .inl ⟨rfl,by omega,by omega,rfl,rfl,⟨h.put,?_,h.ph,h.un,hb⟩⟩;rw[ht.1];exact h.wg.set (by omega) ht.2
theorem q1H (h:Gz put wg ph un wb) {d:C} (hd:StG (d.get 0)) (w:Bool) (wc:Int):
  ((Ka id who rts wj put wg ph un wb d w wc).1=0/\GQ ph put wg wb d w=0/\ph.toInt≠1/\∃un',(Ka id who rts wj put wg ph un wb d w wc).2=mkB id who rts wj put wg (.int 1) un' (Cr wb d)/\Gz put wg (.int 1) un' (Cr wb d))\/
  ((Ka id who rts wj put wg ph un wb d w wc).1≠0/\(Ka id who rts wj put wg ph un wb d w wc).2=zB):=by
 unfold Ka;split;{exact .inr ⟨by decide,rfl⟩};rename_i a1;split;{rename_i a2;exact .inr ⟨a2,rfl⟩};rename_i a2;split;{rename_i a3;exact .inr ⟨a3,rfl⟩};exact .inl ⟨rfl,by omega,a1,_,rfl,⟨h.put,h.wg,rfl,rfl,TD h.wb hd⟩⟩
theorem q6R (h:Gz put wg ph un wb) {d:C} (hd:StG (d.get 0)) (w:Bool) (wc:Int):
  ((LF id who rts wj put wg ph un wb d w wc).1=0/\GQ ph put wg wb d w=0/\(LF id who rts wj put wg ph un wb d w wc).2=mkB id who rts wj put wg ph un (Cr wb d)/\Gz put wg ph un (Cr wb d))\/
  ((LF id who rts wj put wg ph un wb d w wc).1≠0/\(LF id who rts wj put wg ph un wb d w wc).2=zB):=by
 unfold LF;split;{exact .inr ⟨by decide,rfl⟩};split;{rename_i a2;exact .inr ⟨a2,rfl⟩};rename_i a2;split;{exact .inr ⟨by decide,rfl⟩};split;{exact .inr ⟨by decide,rfl⟩};exact .inl ⟨rfl,by omega,rfl,⟨h.put,h.wg,h.ph,h.un,TD h.wb hd⟩⟩
theorem q1w (h:Gz put wg ph un wb) (m:Es) (wc:Int):
  ((HX m id who rts wj put wg ph un wb wc).1=0/\ph.toInt≠0/\ph.toInt≠2/\(Gy wb put wg (Jg m wc (BK wb))).1=0/\(HX m id who rts wj put wg ph un wb wc).2.1=mkB id who rts wj put wg (.int 2) un wb/\
    (HX m id who rts wj put wg ph un wb wc).2.2=(Gy wb put wg (Jg m wc (BK wb))).2/\Gz put wg (.int 2) un wb)\/
  ((HX m id who rts wj put wg ph un wb wc).1≠0/\(HX m id who rts wj put wg ph un wb wc).2.1=zB/\(HX m id who rts wj put wg ph un wb wc).2.2=zz):=by
 unfold HX;split;{exact .inr ⟨by decide,rfl,rfl⟩};rename_i a1;split;{exact .inr ⟨by decide,rfl,rfl⟩};rename_i a2;split;{exact .inr ⟨by decide,rfl,rfl⟩};split;{exact .inr ⟨by decide,rfl,rfl⟩};split;{rename_i a5;exact .inr ⟨a5,rfl,rfl⟩};rename_i a5;exact .inl ⟨rfl,a1,a2,by omega,rfl,rfl,⟨h.put,h.wg,rfl,h.un,h.wb⟩⟩
end
end
section
variable {R:Type} {N:Nat}
theorem eU (id:Int) (rts s x y:C) (h:StW s) (hd:(rts.get 1).toInt<=1000) (hN:4000<N) (hN2:N<4611686018427387904):
  ∃w:Bool,∀k:KD R,Je N rts (.agg [s,.agg [x,y]]) (.int id) k=k [.bool w] []:=by
 by_cases c0:(s.get 0).toInt=id
 case neg=>
  refine⟨false,fun k=>?_⟩;rw[Tb];unfold Pv;simp only[JC,AF,c0,AG]
 by_cases c1:(s.get 1).toInt=0;{refine⟨cP s id,fun k=>?_⟩;rw[Tb];unfold Pv;simp only[JC,AF,c0,c1,AG,tP,AI,zX s id (show 10<N by omega),AW]};{obtain⟨b,h1⟩:=vR (R:=R) (N:=N) rts s x 0 (.inl rfl) h hd hN hN2;obtain⟨b',h2⟩:=vR (R:=R) (N:=N) rts s y 1 (.inr rfl) h hd hN hN2;refine⟨b&&b',fun k=>?_⟩;have t0:bo 0=0:=rfl;have t1:bo 1=1:=rfl;rw[Tb];unfold Pv;simp only[JC,Kg,t0,t1,AF,c0,c1,AG,AZ,h1,h2,AI,AW];cases b <;> rfl}
def LQ (d:C):Prop:=∃s x y:C,d= .agg [s,.agg [x,y]]/\StG s
def FF (b:C):Prop:=∃(id:Int) (who rts:C) (wj:List C) (put wg ph un wb:C),b=mkB (.int id) who rts wj put wg ph un wb/\(rts.get 1).toInt<=8/\C.wf (.slice 1 (.int .u8)) (.slice wj)/\Gz put wg ph un wb
theorem dF (id:Int) (h:W64 id):StG (stZ id):=by
 have z:W64 0:=⟨by decide,by decide⟩;have hn:∀c∈([]:List C),False:=fun c hc=>nomatch hc
 exact⟨⟨h,z,z,z,z,z,fun c hc=>(hn c hc).elim,Nat.zero_le 12⟩,⟨rfl,fun c hc=>(hn c hc).elim,Nat.zero_le 12⟩,rfl,rfl,rfl⟩
theorem WT:HC zz:=⟨rfl,⟨by decide,by decide⟩,⟨by decide,by decide⟩⟩
theorem q4x (id:Int) (hid:W64 id) (who rts:C) (wj:List C) (hr:C.wf (.slice 1 (.int .u8)) (.slice wj)):
  ∃(e:Int) (b:C),(∀k:KD R,NI N (.int id) who rts (.slice wj) k=k [.int e,b] [])/\(e=0->b=mkB (.int id) who rts wj zz zz (.int 0) (.int 0) (stZ id)/\FF b/\(rts.get 1).toInt<=8)/\
   ((who.get 0).toInt≠(who.get 1).toInt->0<=(rts.get 1).toInt->(rts.get 1).toInt<=8->Ej wj=0->e=0):=by
 have main:∀k:KD R,NI N (.int id) who rts (.slice wj) k=if(who.get 0).toInt=(who.get 1).toInt then k [.int 1,zB] []else if(rts.get 1).toInt<0 then k [.int 1,zB] []else if 8<(rts.get 1).toInt then k [.int 1,zB] []else
   if Ej wj=0 then k [.int 0,mkB (.int id) who rts wj zz zz (.int 0) (.int 0) (stZ id)] []else k [.int (Ej wj),zB] []:=fun k=>by
  have t0:bo 0=0:=rfl;have t1:bo 1=1:=rfl;rw[gR];unfold Wz;rw[LN];simp only[AZ,t0,t1];by_cases h1:(who.get 0).toInt=(who.get 1).toInt;{simp only[h1,AG,Aa,AW]};by_cases h2:(rts.get 1).toInt<0;{simp only[h1,h2,AG,Aa,AW]};by_cases h3:8<(rts.get 1).toInt;{simp only[h1,h2,h3,AG,Aa,AW]};by_cases h4:Ej wj=0;{simp only[h1,h2,h3,h4,AG,AI,AQ,AR,AV,Aa,AW,Ac,tP,Nat.beq_refl,Bool.true_and];rfl};{simp only[h1,h2,h3,h4,AG,AI,AQ,AR,AV,Aa,AW,Ac]}
 by_cases h1:(who.get 0).toInt=(who.get 1).toInt;{exact⟨1,zB,fun k=>by rw[main,if_pos h1],fun h=>by omega,fun h _ _ _=>absurd h1 h⟩};by_cases h2:(rts.get 1).toInt<0;{exact⟨1,zB,fun k=>by rw[main,if_neg h1,if_pos h2],fun h=>by omega,fun _ h _ _=>by omega⟩};by_cases h3:8<(rts.get 1).toInt;{exact⟨1,zB,fun k=>by rw[main,if_neg h1,if_neg h2,if_pos h3],fun h=>by omega,fun _ _ h _=>by omega⟩};by_cases h4:Ej wj=0;{exact⟨0,_,fun k=>by rw[main,if_neg h1,if_neg h2,if_neg h3,if_pos h4],fun _=>⟨rfl,⟨id,who,rts,wj,zz,zz,.int 0,.int 0,stZ id,rfl,by omega,hr,⟨WT,WT,rfl,rfl,dF id hid⟩⟩,by omega⟩,fun _ _ _ _=>rfl⟩};{exact⟨_,zB,fun k=>by rw[main,if_neg h1,if_neg h2,if_neg h3,if_neg h4],fun h=>absurd h h4,fun _ _ _ h=>h⟩}
section
variable {b:C} (hb:FF b)
include hb
theorem q4s (side wo:C):∃(e:Int) (b':C),(∀k:KD R,KR N b side wo k=k [.int e,b'] [])/\(e=0->FF b'):=by obtain⟨id,who,rts,wj,put,wg,ph,un,wb,rfl,hr,hw,h⟩:=hb;refine⟨_,_,fun k=>rC h.wb.e.eta side wo k,fun h0=>?_⟩;rcases rA h (id:=.int id) (who:=who) (rts:=rts) (wj:=wj) side.toInt wo.toInt with⟨_,xt,e1,h1,_⟩|⟨e1,_⟩;{exact⟨id,who,rts,wj,xt,wg,ph,un,wb,e1,hr,hw,h1⟩};{exact absurd h0 e1}
theorem q78 (k:KD R):JX N b k=k [b] []:=by obtain⟨id,who,rts,wj,put,wg,ph,un,wb,rfl,hr,hw,h⟩:=hb;exact TH h.wb.e.eta k
section
variable {d:C} (hd:LQ d) (hN:2199023255552<N) (hN2:N<4611686018427387904)
include hd hN hN2
theorem q0N (side:C):∃(p e:Int) (b':C),(∀k:KD R,ND N b side d k=k [.int p,.int e,b'] [])/\(e=0->FF b'):=by obtain⟨id,who,rts,wj,put,wg,ph,un,wb,rfl,hr,hw,h⟩:=hb;obtain⟨s,x,y,rfl,hs⟩:=hd;obtain⟨w,hW⟩:=eU (R:=R) (N:=N) id rts s x y hs.w (by omega) (by omega) hN2;have hs':StG ((eg [s,.agg [x,y]]).get 0):=hs;have hb:=TD h.wb hs';refine⟨_,_,_,fun k=>q0P hW h.wb.e.eta hs.e.eta hN side h.wg.gi hb.tk k,fun h0=>?_⟩;rcases q0O h hs' w side.toInt (id:=.int id) (who:=who) (rts:=rts) (wj:=wj)with⟨_,_,_,_,e1,h1⟩|⟨e1,_⟩;{exact⟨id,who,rts,wj,_,_,_,_,_,e1,hr,hw,h1⟩};{exact absurd h0 e1}
theorem q1G (wc:C):∃(e:Int) (b':C),(∀k:KD R,NG N b d wc k=k [.int e,b'] [])/\(e=0->FF b'):=by obtain⟨id,who,rts,wj,put,wg,ph,un,wb,rfl,hr,hw,h⟩:=hb;obtain⟨s,x,y,rfl,hs⟩:=hd;obtain⟨w,hW⟩:=eU (R:=R) (N:=N) id rts s x y hs.w (by omega) (by omega) hN2;have hs':StG ((eg [s,.agg [x,y]]).get 0):=hs;refine⟨_,_,fun k=>q1I hW hw h.wb.e.eta hs.e.eta ⟨h.put.g0,h.put.g1,h.wb.r⟩ hs.r hN wc k,fun h0=>?_⟩;rcases q1H h hs' w wc.toInt (id:=.int id) (who:=who) (rts:=rts) (wj:=wj)with⟨_,_,_,un',e1,h1⟩|⟨e1,_⟩;{exact⟨id,who,rts,wj,_,_,_,_,_,e1,hr,hw,h1⟩};{exact absurd h0 e1}
theorem q6Q (wc:C):∃(e:Int) (b':C),(∀k:KD R,NH N b d wc k=k [.int e,b'] [])/\(e=0->FF b'):=by obtain⟨id,who,rts,wj,put,wg,ph,un,wb,rfl,hr,hw,h⟩:=hb;obtain⟨s,x,y,rfl,hs⟩:=hd;obtain⟨w,hW⟩:=eU (R:=R) (N:=N) id rts s x y hs.w (by omega) (by omega) hN2;have hs':StG ((eg [s,.agg [x,y]]).get 0):=hs;refine⟨_,_,fun k=>q6S hW h.wb.e.eta hs.e.eta hN wc k,fun h0=>?_⟩;rcases q6R h hs' w wc.toInt (id:=.int id) (who:=who) (rts:=rts) (wj:=wj)with⟨_,_,e1,h1⟩|⟨e1,_⟩;{exact⟨id,who,rts,wj,_,_,_,_,_,e1,hr,hw,h1⟩};{exact absurd h0 e1}
end
theorem q1v (m:Es) (wc b0:C) (hN:2199023255552<N):∃(e:Int) (b' out:C),(∀k:KD R,NF N b wc b0 m k=k [.int e,b',out] [])/\((b.get 6).toInt=0->e=3)/\(e=0->FF b'):=by obtain⟨id,who,rts,wj,put,wg,ph,un,wb,rfl,hr,hw,h⟩:=hb;refine⟨_,_,_,fun k=>q1x h.wb.e.eta (by have:=h.wb.e.ln;omega) m wc b0 hN k,fun h0=>?_,fun h0=>?_⟩;{have h0:ph.toInt=0:=h0;unfold HX;rw[if_pos h0]};rcases q1w h m wc.toInt (id:=.int id) (who:=who) (rts:=rts) (wj:=wj)with⟨_,_,_,_,e1,_,h1⟩|⟨e1,_⟩;{exact⟨id,who,rts,wj,_,_,_,_,_,e1,hr,hw,h1⟩};{exact absurd h0 e1}
end
def Lt (v:C) (i:Nat) (_:Unit) (c:C):Unit ⊕ Nat:=if v.toInt=c.toInt then .inr i else .inl ()
def Lu (l:List C) (v:C):Int:=match CI (Lt v) 0 () l with| .inl _=>-1| .inr i=>(i:Int)
def GP (l:List C) (v:C):Bool:=l.any fun c=>decide (v.toInt=c.toInt)
theorem nD (v:C):∀(l:List C) (i:Nat),(GP l v=true->∃j,CI (Lt v) i () l= .inr j/\j<i+l.length)/\(GP l v=false->CI (Lt v) i () l= .inl ())
 | [],i=>⟨fun h=>by simp[GP]at h,fun _=>rfl⟩|c::l,i=>by have ih:=nD v l (i+1);simp only[CI,Lt,GP,List.any_cons,List.length_cons]at ih ⊢;by_cases h:v.toInt=c.toInt;{simp only[h,AG,Bool.true_or];exact⟨fun _=>⟨i,rfl,by omega⟩,fun h=>by simp at h⟩};{simp only[h,AG,Bool.false_or];refine⟨fun h1=>?_,ih.2⟩;obtain⟨j,h2,h3⟩:=ih.1 h1;exact⟨j,h2,by omega⟩}
theorem q2i (l:List C) (v:C):decide (0<=Lu l v)=GP l v:=by have:=nD v l 0;unfold Lu;cases h:GP l v;{rw[this.2 h];rfl};{obtain⟨j,h1,_⟩:=this.1 h;rw[h1];exact decide_eq_true (by dsimp only;omega)}
theorem nE (l:List C) (v:C) (hl:l.length<4611686018427387904) (hN:l.length<N) (k:KD R):Oy N (.slice l) v k=k [.int (Lu l v)] []:=by
 rw[wW];unfold cZ;rw[AZ];refine(Ju (F:=Vx N k fun _ _=>k [.int (-1)] []) (fun i (_:Unit)=>[.slice l,v,.int l.length,.int i]) (fun _ _=>[]) l (Lt v) (fun _=>k [.int (-1)] []) (fun i=>k [.int (i:Nat)] []) (s0:=()) ?_ ?_ hN).trans ?_
 ·intro i _ c hx hi rec;have h1:(i:Int)<(l.length:Int):=by omega
  unfold Vx Lt;simp only[AI,AQ,AR,AV,AF,Ac,h1,Gi hx,Int.natCast_nonneg,and_self,AG,bx,Ck (show i<4611686018427387904 by omega)];by_cases h2:v.toInt=c.toInt;{simp only[h2,AG]};{simp only[h2,AG]}
 ·intro _ rec;unfold Vx;simp only[AI,AQ,AR,AV,AF,Int.lt_irrefl,AG]
 ·unfold Lu FW;cases CI (Lt v) 0 () l <;> rfl
theorem q6T (b v:C) (hN:100<N):∃(i:C) (c:Bool),∀k:KD R,PX N b v k=k [i,.bool c] []:=by
 have hl:(cut (bq (cd b 1)) 0 2).length<=2:=by unfold cut;simp;omega
 refine⟨.int (if Lu (cut (bq (cd b 1)) 0 2) v<0 then 0 else Lu (cut (bq (cd b 1)) 0 2) v),decide (0<=Lu (cut (bq (cd b 1)) 0 2) v),fun k=>?_⟩;rw[gL];unfold Ws;rw[nE _ _ (by omega) (by omega)];rfl
def VZ:Es->C->C->Es
 | [],c,v=>[(c,v)]|(k,u)::l,c,v=>if C.beq c k=true then(k,v)::l else(k,u)::VZ l c v
theorem uL (τ:Ty) (c v:C):∀m:Es,GV (dE τ m) c (V.d τ v)=dE τ (VZ m c v)
 | []=>rfl|(k,u)::m=>by have ih:=uL τ c v m;simp only[dE,List.map_cons,GV,VZ]at ih ⊢;by_cases h:C.beq c k=true;{simp[h]};{simp[h,ih]}
theorem q3H (s:C) (hN:5000<N) (hN2:N<4611686018427387904):∃c:C,∀k:KD R,RM N s k=k [c] []:=by obtain⟨c,_,h⟩:=PO (R:=R) (N:=N) (.int 6) [cz (cut (bq s) 0 32)] 100 (fun x hx=>⟨_,List.mem_singleton.1 hx,by simp[cut];omega⟩) (by simp;omega) (by omega) hN2;refine⟨c,fun k=>?_⟩;rw[qL];unfold Zh;simp only[h,AI]
theorem q7w (s h x y:C) (m:Es) (hN:5000<N) (hN2:N<4611686018427387904):∃(e:Int) (m':Es),(∀k:KD R,Rf N s h x y m k=k [.int e] [m'])/\(e≠0->m'=m):=by
 obtain⟨c,hc⟩:=q3H (R:=R) (N:=N) s hN hN2;cases hm:FI m c with
 |true=>
  refine⟨7,m,fun k=>?_,fun _=>rfl⟩;rw[aF];unfold VC;simp only[hc,AI,Fm,Qg,Ao,Aq,hm,AG]
 |false=>
  refine⟨0,VZ m c (dp (dp (eg [eg (db 32 (bt 0)),bt 0]) 0 s) 1 h),fun k=>?_,fun h=>absurd rfl h⟩;rw[aF];unfold VC;have e:dm [m] 0=m:=rfl;simp only[hc,AI,e,Fm,Qg,uL,Ao,Aq,hm,AG]
end
def q7Y:List Sh:=[.as (.ptr (.g (.l 1)) [] BO),.d (.int .i64)]
def q70:List (Key × OSh):=[(.l 1,.box (.agg BO [.vec (.g (.l 2)) 8 (.int .u64),.vec (.g (.l 3)) 8 (.int .u64),.d (.int .u64)])),(.l 2,.box (.arr (.int .u64))),(.l 3,.box (.arr (.int .u64)))]
def dX {R:Type} (N:Nat) (a0 b0 b1 b2 b3 b4:C) (k1:KD R):Option R:=jn (fun d1 m1=>(bif ek (dk d1 0)then(k1 [bt 1] [])else(k1 [bt 0] []))) (fun k2=>(bif decide (bp a0<0)then(k2 [dv true] [])else(k2 [dv (decide ((↑(bo (bp b0)):Int)<=bp a0))] [])))
def Ij:=lid "" (@dX R N)
theorem xW {R N a0 b0 b1 b2 b3 b4 k}:@Ij R N a0 b0 b1 b2 b3 b4 k=dX N a0 b0 b1 b2 b3 b4 k:=by unfold Ij;rw[Ag]
def q7Z:OvG R:=CP q7Y q70 (fun ds ms=>Ij N (dk ds 0) (dk ds 1) (dk ds 2) (dk ds 3) (dk ds 4) (dk ds 5)) fun ds ms K d1 m1=>K (V.d (cg ca) (dk d1 0)) []
theorem PF:okX 74 (@q7Z R N):=CT Ah N [] [(74,[([0,3,1,4,0,1],⟨[0],[(8,.d .bool)],[],[],[.g (.l 1),.g (.l 2),.g (.l 3)],[(.int .u64)]⟩),
  ([9],⟨[],[(4,.d (.int .i64))],[],[],[.g (.l 1),.g (.l 2),.g (.l 3)],[(.int .u64)]⟩)])] (fun _ _ _=>xW)
def q7D:List Sh:=[.as (.ptr (.g (.l 1)) [] BO),.d (.int .i64),.d (.int .u64)]
def q7F:List (Key × OSh):=[(.l 1,.box (.agg BO [.vec (.g (.l 2)) 8 (.int .u64),.vec (.g (.l 3)) 8 (.int .u64),.d (.int .u64)])),(.l 2,.box (.arr (.int .u64))),(.l 3,.box (.arr (.int .u64)))]
def dR (a0 a1 b0 b1 b2 b3 b4:C) (k1:KD R):Option R:=if bn (bq b3)=bn (bq b3)then(if bn (bq b4)=bn (bq b4)then(Ij N a0 (bt (↑(bo (bp b0)):Int)) (bt (↑(bo (bp b1)):Int)) b2 b3 b4 (fun d1 m1=>(bif !decide (bp (dk d1 0)=0)then(if bn (bq b3)=bn (bq b3)then(if bn (bq b4)=bn (bq b4)then(k1 [dk d1 0,bt (↑(bo (bp b0)):Int),bt (↑(bo (bp b1)):Int),b2,bt (↑(bn (bq b3)):Int),b3,bt (↑(bn (bq b4)):Int),b4] [])else none)else none)else(if 0<=bp a0/\bp a0<(↑(bo (bp b0)):Int)then(Jw N (cd b3 (0+bo (bp a0))) a1 (fun d2 m2=>(bif !decide (bp (dk d2 1)=0)then(if bn (bq b3)=bn (bq b3)then(if bn (bq b4)=bn (bq b4)then(k1 [dk d2 1,bt (↑(bo (bp b0)):Int),bt (↑(bo (bp b1)):Int),b2,bt (↑(bn (bq b3)):Int),b3,bt (↑(bn (bq b4)):Int),b4] [])else none)else none)else(if 0<=bp a0/\bp a0<(↑(bo (bp b0)):Int)then(if bn (bq b3)=bn (bq (dp b3 (0+bo (bp a0)) (dk d2 0)))then(if bn (bq b4)=bn (bq b4)then(k1 [bt 0,bt (↑(bo (bp b0)):Int),bt (↑(bo (bp b1)):Int),bt (bw bu (bp b2+bp a1)),bt (↑(bn (bq b3)):Int),dp b3 (0+bo (bp a0)) (dk d2 0),bt (↑(bn (bq b4)):Int),b4] [])else none)else none)else none))))else none))))else none)else none
def Mc:=lid "" (@dR R N)
theorem xO {R N a0 a1 b0 b1 b2 b3 b4 k}:@Mc R N a0 a1 b0 b1 b2 b3 b4 k=dR N a0 a1 b0 b1 b2 b3 b4 k:=by unfold Mc;rw[Ag]
def q7E:OvG R:=CP q7D q7F (fun ds ms=>Mc N (dk ds 0) (dk ds 1) (dk ds 2) (dk ds 3) (dk ds 4) (dk ds 5) (dk ds 6)) fun ds ms K d1 m1=>K (V.d (cg ca) (dk d1 0)) [(ej (dg 1),
  fw
   (mj BO
    [og (dg 1000000000074) [] 0 (bo (bp (dk d1 1))) none 8 (cg bu),
     og (dg 1000000000106) [] 0 (bo (bp (dk d1 2))) none 8 (cg bu),
     V.d (cg bu) (dk d1 3)])),
 (ej (dg 2),gh (dc (bo (bp (dk d1 4))) (cg bu))),
 (dg 1000000000074,fw (V.d (dc (bn (bq (dk d1 5))) (cg bu)) (dk d1 5))),
 (ej (dg 3),gh (dc (bo (bp (dk d1 6))) (cg bu))),
 (dg 1000000000106,fw (V.d (dc (bn (bq (dk d1 7))) (cg bu)) (dk d1 7)))]
theorem dQ:okX 97 (@q7E R N):=CT (AP (PF N) <| AP (RV N) <| Ah) N [] [(97,[([9],⟨[],[(6,.d (.int .i64))],[.g (.l 1),.g (.l 2),.g (.l 3)],[],[],[(.int .u64)]⟩)])] (fun _ _ _=>xO)
def q7x:List Sh:=[.as (.ptr (.g (.l 1)) [] BO),.d (.int .i64),.d (.int .u64)]
def q7z:List (Key × OSh):=[(.l 1,.box (.agg BO [.vec (.g (.l 2)) 8 (.int .u64),.vec (.g (.l 3)) 8 (.int .u64),.d (.int .u64)])),(.l 2,.box (.arr (.int .u64))),(.l 3,.box (.arr (.int .u64)))]
def dN (a0 a1 b0 b1 b2 b3 b4:C) (k1:KD R):Option R:=if bn (bq b3)=bn (bq b3)then(if bn (bq b4)=bn (bq b4)then(Ij N a0 (bt (↑(bo (bp b0)):Int)) (bt (↑(bo (bp b1)):Int)) b2 b3 b4 (fun d1 m1=>(bif !decide (bp (dk d1 0)=0)then(if bn (bq b3)=bn (bq b3)then(if bn (bq b4)=bn (bq b4)then(k1 [dk d1 0,bt (↑(bo (bp b0)):Int),bt (↑(bo (bp b1)):Int),b2,bt (↑(bn (bq b3)):Int),b3,bt (↑(bn (bq b4)):Int),b4] [])else none)else none)else(Jw N b2 a1 (fun d2 m2=>(bif !decide (bp (dk d2 1)=0)then(if bn (bq b3)=bn (bq b3)then(if bn (bq b4)=bn (bq b4)then(k1 [dk d2 1,bt (↑(bo (bp b0)):Int),bt (↑(bo (bp b1)):Int),b2,bt (↑(bn (bq b3)):Int),b3,bt (↑(bn (bq b4)):Int),b4] [])else none)else none)else(if 0<=bp a0/\bp a0<(↑(bo (bp b0)):Int)then(if 0<=bp a0/\bp a0<(↑(bo (bp b0)):Int)then(if bn (bq b3)=bn (bq (dp b3 (0+bo (bp a0)) (bt (bw bu (bp (cd b3 (0+bo (bp a0)))+bp a1)))))then(if bn (bq b4)=bn (bq b4)then(k1 [bt 0,bt (↑(bo (bp b0)):Int),bt (↑(bo (bp b1)):Int),dk d2 0,bt (↑(bn (bq b3)):Int),dp b3 (0+bo (bp a0)) (bt (bw bu (bp (cd b3 (0+bo (bp a0)))+bp a1))),bt (↑(bn (bq b4)):Int),b4] [])else none)else none)else none)else none)))))))else none)else none
def Mb:=lid "" (@dN R N)
theorem xL {R N a0 a1 b0 b1 b2 b3 b4 k}:@Mb R N a0 a1 b0 b1 b2 b3 b4 k=dN N a0 a1 b0 b1 b2 b3 b4 k:=by unfold Mb;rw[Ag]
def q7y:OvG R:=CP q7x q7z (fun ds ms=>Mb N (dk ds 0) (dk ds 1) (dk ds 2) (dk ds 3) (dk ds 4) (dk ds 5) (dk ds 6)) fun ds ms K d1 m1=>K (V.d (cg ca) (dk d1 0)) [(ej (dg 1),
  fw
   (mj BO
    [og (dg 1000000000074) [] 0 (bo (bp (dk d1 1))) none 8 (cg bu),
     og (dg 1000000000106) [] 0 (bo (bp (dk d1 2))) none 8 (cg bu),
     V.d (cg bu) (dk d1 3)])),
 (ej (dg 2),gh (dc (bo (bp (dk d1 4))) (cg bu))),
 (dg 1000000000074,fw (V.d (dc (bn (bq (dk d1 5))) (cg bu)) (dk d1 5))),
 (ej (dg 3),gh (dc (bo (bp (dk d1 6))) (cg bu))),
 (dg 1000000000106,fw (V.d (dc (bn (bq (dk d1 7))) (cg bu)) (dk d1 7)))]
theorem dM:okX 98 (@q7y R N):=CT (AP (PF N) <| AP (RV N) <| Ah) N [] [(98,[([9],⟨[],[(6,.d (.int .i64))],[.g (.l 1),.g (.l 2),.g (.l 3)],[],[],[(.int .u64)]⟩)])] (fun _ _ _=>xL)
def q7N:List Sh:=[.as (.ptr (.g (.l 1)) [] BO),.d (.int .i64),.d (.int .i64),.d (.int .u64)]
def q7P:List (Key × OSh):=[(.l 1,.box (.agg BO [.vec (.g (.l 2)) 8 (.int .u64),.vec (.g (.l 3)) 8 (.int .u64),.d (.int .u64)])),(.l 2,.box (.arr (.int .u64))),(.l 3,.box (.arr (.int .u64)))]
def dU (a0 a1 a2 b0 b1 b2 b3 b4:C) (k1:KD R):Option R:=if bn (bq b3)=bn (bq b3)then(if bn (bq b4)=bn (bq b4)then(Ij N a0 (bt (↑(bo (bp b0)):Int)) (bt (↑(bo (bp b1)):Int)) b2 b3 b4 (fun d1 m1=>(bif !decide (bp (dk d1 0)=0)then(if bn (bq b3)=bn (bq b3)then(if bn (bq b4)=bn (bq b4)then(k1 [dk d1 0,bt (↑(bo (bp b0)):Int),bt (↑(bo (bp b1)):Int),b2,bt (↑(bn (bq b3)):Int),b3,bt (↑(bn (bq b4)):Int),b4] [])else none)else none)else(if bn (bq b3)=bn (bq b3)then(if bn (bq b4)=bn (bq b4)then(Ij N a1 (bt (↑(bo (bp b0)):Int)) (bt (↑(bo (bp b1)):Int)) b2 b3 b4 (fun d2 m2=>(bif !decide (bp (dk d2 0)=0)then(if bn (bq b3)=bn (bq b3)then(if bn (bq b4)=bn (bq b4)then(k1 [dk d2 0,bt (↑(bo (bp b0)):Int),bt (↑(bo (bp b1)):Int),b2,bt (↑(bn (bq b3)):Int),b3,bt (↑(bn (bq b4)):Int),b4] [])else none)else none)else(if bn (bq b3)=bn (bq b3)then(if bn (bq b4)=bn (bq b4)then(Mc N a0 a2 (bt (↑(bo (bp b0)):Int)) (bt (↑(bo (bp b1)):Int)) b2 b3 b4 (fun d3 m3=>(bif !decide (bp (dk d3 0)=0)then(if bn (bq (dk d3 5))=bn (bq (dk d3 5))then(if bn (bq (dk d3 7))=bn (bq (dk d3 7))then(k1 [dk d3 0,bt (↑(bo (bp (dk d3 1))):Int),bt (↑(bo (bp (dk d3 2))):Int),dk d3 3,bt (↑(bo (bp (dk d3 4))):Int),dk d3 5,bt (↑(bo (bp (dk d3 6))):Int),dk d3 7] [])else none)else none)else(if bn (bq (dk d3 5))=bn (bq (dk d3 5))then(if bn (bq (dk d3 7))=bn (bq (dk d3 7))then(Mb N a1 a2 (bt (↑(bo (bp (dk d3 1))):Int)) (bt (↑(bo (bp (dk d3 2))):Int)) (dk d3 3) (dk d3 5) (dk d3 7) (fun d4 m4=>(if bn (bq (dk d4 5))=bn (bq (dk d4 5))then(if bn (bq (dk d4 7))=bn (bq (dk d4 7))then(k1 [dk d4 0,bt (↑(bo (bp (dk d4 1))):Int),bt (↑(bo (bp (dk d4 2))):Int),dk d4 3,bt (↑(bo (bp (dk d3 4))):Int),dk d4 5,bt (↑(bo (bp (dk d3 6))):Int),dk d4 7] [])else none)else none)))else none)else none))))else none)else none))))else none)else none))))else none)else none
def PD:=lid "" (@dU R N)
theorem xT {R N a0 a1 a2 b0 b1 b2 b3 b4 k}:@PD R N a0 a1 a2 b0 b1 b2 b3 b4 k=dU N a0 a1 a2 b0 b1 b2 b3 b4 k:=by unfold PD;rw[Ag]
def q7O:OvG R:=CP q7N q7P (fun ds ms=>PD N (dk ds 0) (dk ds 1) (dk ds 2) (dk ds 3) (dk ds 4) (dk ds 5) (dk ds 6) (dk ds 7)) fun ds ms K d1 m1=>K (V.d (cg ca) (dk d1 0)) [(ej (dg 1),
  fw
   (mj BO
    [og (dg 1000000000074) [] 0 (bo (bp (dk d1 1))) none 8 (cg bu),
     og (dg 1000000000106) [] 0 (bo (bp (dk d1 2))) none 8 (cg bu),
     V.d (cg bu) (dk d1 3)])),
 (ej (dg 2),gh (dc (bo (bp (dk d1 4))) (cg bu))),
 (dg 1000000000074,fw (V.d (dc (bn (bq (dk d1 5))) (cg bu)) (dk d1 5))),
 (ej (dg 3),gh (dc (bo (bp (dk d1 6))) (cg bu))),
 (dg 1000000000106,fw (V.d (dc (bn (bq (dk d1 7))) (cg bu)) (dk d1 7)))]
theorem xS:okX 80 (@q7O R N):=CT (AP (PF N) <| AP (dQ N) <| AP (dM N) <| Ah) N [] [(80,[([9],⟨[],[(8,.d (.int .i64))],[.g (.l 1),.g (.l 2),.g (.l 3)],[],[],[(.int .u64)]⟩)])] (fun _ _ _=>xT)
def q7U:List Sh:=[.as (.ptr (.g (.l 1)) [] BO),.d (.int .i64),.d (.int .u64)]
def q7X:List (Key × OSh):=[(.l 1,.box (.agg BO [.vec (.g (.l 2)) 8 (.int .u64),.vec (.g (.l 3)) 8 (.int .u64),.d (.int .u64)])),(.l 2,.box (.arr (.int .u64))),(.l 3,.box (.arr (.int .u64)))]
def dW (a0 a1 b0 b1 b2 b3 b4:C) (k1:KD R):Option R:=if bn (bq b3)=bn (bq b3)then(if bn (bq b4)=bn (bq b4)then(Ij N a0 (bt (↑(bo (bp b0)):Int)) (bt (↑(bo (bp b1)):Int)) b2 b3 b4 (fun d1 m1=>(bif !decide (bp (dk d1 0)=0)then(if bn (bq b3)=bn (bq b3)then(if bn (bq b4)=bn (bq b4)then(k1 [dk d1 0,bt (↑(bo (bp b0)):Int),bt (↑(bo (bp b1)):Int),b2,bt (↑(bn (bq b3)):Int),b3,bt (↑(bn (bq b4)):Int),b4] [])else none)else none)else(if 0<=bp a0/\bp a0<(↑(bo (bp b1)):Int)then(bif !decide (bp a1=bp (cd b4 (0+bo (bp a0))))then(if bn (bq b3)=bn (bq b3)then(if bn (bq b4)=bn (bq b4)then(k1 [bt 22,bt (↑(bo (bp b0)):Int),bt (↑(bo (bp b1)):Int),b2,bt (↑(bn (bq b3)):Int),b3,bt (↑(bn (bq b4)):Int),b4] [])else none)else none)else(if 0<=bp a0/\bp a0<(↑(bo (bp b1)):Int)then(if 0<=bp a0/\bp a0<(↑(bo (bp b1)):Int)then(if bn (bq b3)=bn (bq b3)then(if bn (bq b4)=bn (bq (dp b4 (0+bo (bp a0)) (bt (bw bu (bp (cd b4 (0+bo (bp a0)))+1)))))then(k1 [bt 0,bt (↑(bo (bp b0)):Int),bt (↑(bo (bp b1)):Int),b2,bt (↑(bn (bq b3)):Int),b3,bt (↑(bn (bq b4)):Int),dp b4 (0+bo (bp a0)) (bt (bw bu (bp (cd b4 (0+bo (bp a0)))+1)))] [])else none)else none)else none)else none))else none))))else none)else none
def Sc:=lid "" (@dW R N)
theorem xV {R N a0 a1 b0 b1 b2 b3 b4 k}:@Sc R N a0 a1 b0 b1 b2 b3 b4 k=dW N a0 a1 b0 b1 b2 b3 b4 k:=by unfold Sc;rw[Ag]
def q7V:OvG R:=CP q7U q7X (fun ds ms=>Sc N (dk ds 0) (dk ds 1) (dk ds 2) (dk ds 3) (dk ds 4) (dk ds 5) (dk ds 6)) fun ds ms K d1 m1=>K (V.d (cg ca) (dk d1 0)) [(ej (dg 1),
  fw
   (mj BO
    [og (dg 1000000000074) [] 0 (bo (bp (dk d1 1))) none 8 (cg bu),
     og (dg 1000000000106) [] 0 (bo (bp (dk d1 2))) none 8 (cg bu),
     V.d (cg bu) (dk d1 3)])),
 (ej (dg 2),gh (dc (bo (bp (dk d1 4))) (cg bu))),
 (dg 1000000000074,fw (V.d (dc (bn (bq (dk d1 5))) (cg bu)) (dk d1 5))),
 (ej (dg 3),gh (dc (bo (bp (dk d1 6))) (cg bu))),
 (dg 1000000000106,fw (V.d (dc (bn (bq (dk d1 7))) (cg bu)) (dk d1 7)))]
theorem q7W:okX 79 (@q7V R N):=CT (AP (PF N) <| Ah) N [] [(79,[([9],⟨[],[(6,.d (.int .i64))],[.g (.l 1),.g (.l 2),.g (.l 3)],[],[],[(.int .u64)]⟩)])] (fun _ _ _=>xV)
def q7A:List Sh:=[.as (.ptr (.g (.l 1)) [] BO),.d (.int .i64)]
def q7C:List (Key × OSh):=[(.l 1,.box (.agg BO [.vec (.g (.l 2)) 8 (.int .u64),.vec (.g (.l 3)) 8 (.int .u64),.d (.int .u64)])),(.l 2,.box (.arr (.int .u64))),(.l 3,.box (.arr (.int .u64)))]
def dP (a0 b0 b1 b2 b3 b4:C) (k1:KD R):Option R:=if bn (bq b3)=bn (bq b3)then(if bn (bq b4)=bn (bq b4)then(Ij N a0 (bt (↑(bo (bp b0)):Int)) (bt (↑(bo (bp b1)):Int)) b2 b3 b4 (fun d1 m1=>(bif !decide (bp (dk d1 0)=0)then(k1 [bt 0] [])else(if 0<=bp a0/\bp a0<(↑(bo (bp b0)):Int)then(k1 [cd b3 (0+bo (bp a0))] [])else none))))else none)else none
def JQ:=lid "" (@dP R N)
theorem xN {R N a0 b0 b1 b2 b3 b4 k}:@JQ R N a0 b0 b1 b2 b3 b4 k=dP N a0 b0 b1 b2 b3 b4 k:=by unfold JQ;rw[Ag]
def q7B:OvG R:=CP q7A q7C (fun ds ms=>JQ N (dk ds 0) (dk ds 1) (dk ds 2) (dk ds 3) (dk ds 4) (dk ds 5)) fun ds ms K d1 m1=>K (V.d (cg bu) (dk d1 0)) []
theorem xM:okX 54 (@q7B R N):=CT (AP (PF N) <| Ah) N [] [(54,[([9],⟨[],[(4,.d (.int .u64))],[],[],[.g (.l 1),.g (.l 2),.g (.l 3)],[(.int .u64)]⟩)])] (fun _ _ _=>xN)
def q7K:List Sh:=[.as (.ptr (.g (.l 1)) [] BO)]
def q7M:List (Key × OSh):=[(.l 1,.box (.agg BO [.vec (.g (.l 2)) 8 (.int .u64),.vec (.g (.l 3)) 8 (.int .u64),.d (.int .u64)])),(.l 2,.box (.arr (.int .u64))),(.l 3,.box (.arr (.int .u64)))]
def dT {R:Type} (N:Nat) (b0 b1 b2 b3 b4:C) (k1:KD R):Option R:=k1 [bt (↑(bo (bp b0)):Int)] []
def Md:=lid "" (@dT R N)
theorem xR {R N b0 b1 b2 b3 b4 k}:@Md R N b0 b1 b2 b3 b4 k=dT N b0 b1 b2 b3 b4 k:=by unfold Md;rw[Ag]
def q7L:OvG R:=CP q7K q7M (fun ds ms=>Md N (dk ds 0) (dk ds 1) (dk ds 2) (dk ds 3) (dk ds 4)) fun ds ms K d1 m1=>K (V.d (cg ca) (dk d1 0)) []
theorem dS:okX 30 (@q7L R N):=CT Ah N [] [(30,[([9],⟨[],[(2,.d (.int .i64))],[],[],[.g (.l 1),.g (.l 2),.g (.l 3)],[(.int .u64)]⟩)])] (fun _ _ _=>xR)
section
variable {R:Type} {N:Nat}
theorem BI {m:Es} {l:List Es}:dm (m::l) 0=m:=rfl
theorem Ee (c v:C) (i:Nat):(dp c i v).elems.length=c.elems.length:=by cases c <;> simp[dp,bq]
def inR (n:Nat) (a:C):Prop:=0<=a.toInt/\a.toInt<(n:Int)
instance (n:Nat) (a:C):Decidable (inR n a):=inferInstanceAs (Decidable (_/\_))
def inE (n:Nat) (a:C):Int:=if inR n a then 0 else 1
theorem Gl {n:Nat} {a:C} (h:inR n a):inE n a=0:=if_pos h
theorem Lv {n:Nat} {a:C} (h:¬inR n a):inE n a=1:=if_neg h
section
variable (n:Nat) (a x b1 b2 b3 b4:C) (k:KD R)
theorem PG:Ij N a (.int n) b1 b2 b3 b4 k=k [.int (inE n a)] []:=by
 rw[xW];unfold dX inE inR;simp only[AZ,AF,bx];by_cases h1:a.toInt<0
 ·have:¬(0<=a.toInt/\a.toInt<(n:Int)):=by omega
  simp only[h1,AG,AI,AW,this]
 by_cases h2:(n:Int)<=a.toInt
 ·have:¬(0<=a.toInt/\a.toInt<(n:Int)):=by omega
  simp only[h1,h2,AG,AI,AW,this]
 ·have:0<=a.toInt/\a.toInt<(n:Int):=by omega
  simp only[h1,h2,AG,AI,AW,this,and_self]
theorem JG:Md N (.int n) b1 b2 b3 b4 k=k [.int n] []:=by rw[xR];unfold dT;simp only[AF,bx]
def Fx:C:=if inR n a then b3.get a.toInt.toNat else .int 0
theorem has_eq:JQ N a (.int n) b1 b2 b3 b4 k=k [Fx n a b3] []:=by rw[xN];unfold dP Fx;simp only[AF,bx,PG,AI,eq_self,if_true,cf];by_cases h:inR n a;{have h2:0<=a.toInt/\a.toInt<(n:Int):=h;simp only[Gl h,h,h2,and_self,AG]};{simp only[Lv h,h,show ¬(1:Int)=0 by decide,AG]}
def Hm:Int × C:=if inR n a then if x.toInt=(b4.get a.toInt.toNat).toInt then(0,b4.set a.toInt.toNat (.int (IntKind.u64.wrap ((b4.get a.toInt.toNat).toInt+1))))else(22,b4)else(1,b4)
theorem q5o:Sc N a x (.int n) (.int n) b2 b3 b4 k=k [.int (Hm n a x b4).1,.int n,.int n,b2,.int b3.elems.length,b3,.int b4.elems.length,(Hm n a x b4).2] []:=by rw[xV];unfold dW Hm;simp only[AF,bx,PG,AI,eq_self,if_true,cf,Ee];by_cases h:inR n a;{have h2:0<=a.toInt/\a.toInt<(n:Int):=h;by_cases h3:x.toInt=(b4.get a.toInt.toNat).toInt;{simp only[Gl h,h,h2,h3,and_self,AG]};{simp only[Gl h,h,h2,h3,and_self,AG]}};{simp only[Lv h,h,show ¬(1:Int)=0 by decide,AG]}
def Cv:Int × C × C:=if inR n a then if(CZ (b3.get a.toInt.toNat).toInt x.toInt).2=0 then(0,.int (IntKind.u64.wrap (b2.toInt+x.toInt)),b3.set a.toInt.toNat (.int (CZ (b3.get a.toInt.toNat).toInt x.toInt).1))else((CZ (b3.get a.toInt.toNat).toInt x.toInt).2,b2,b3)else(1,b2,b3)
theorem Qj:Mc N a x (.int n) (.int n) b2 b3 b4 k=k [.int (Cv n a x b2 b3).1,.int n,.int n,(Cv n a x b2 b3).2.1,.int b3.elems.length,(Cv n a x b2 b3).2.2,.int b4.elems.length,b4] []:=by rw[xO];unfold dR Cv;simp only[AF,bx,PG,sub_eq,AI,AQ,eq_self,if_true,cf,Ee];by_cases h:inR n a;{have h2:0<=a.toInt/\a.toInt<(n:Int):=h;by_cases h3:(CZ (b3.get a.toInt.toNat).toInt x.toInt).2=0;{simp only[Gl h,h,h2,h3,and_self,AG]};{simp only[Gl h,h,h2,h3,and_self,AG]}};{simp only[Lv h,h,show ¬(1:Int)=0 by decide,AG]}
def Dr:Int × C × C:=if inR n a then if(CZ b2.toInt x.toInt).2=0 then(0,.int (CZ b2.toInt x.toInt).1,b3.set a.toInt.toNat (.int (IntKind.u64.wrap ((b3.get a.toInt.toNat).toInt+x.toInt))))else((CZ b2.toInt x.toInt).2,b2,b3)else(1,b2,b3)
theorem Ns:Mb N a x (.int n) (.int n) b2 b3 b4 k=k [.int (Dr n a x b2 b3).1,.int n,.int n,(Dr n a x b2 b3).2.1,.int b3.elems.length,(Dr n a x b2 b3).2.2,.int b4.elems.length,b4] []:=by rw[xL];unfold dN Dr;simp only[AF,bx,PG,sub_eq,AI,AQ,eq_self,if_true,cf,Ee];by_cases h:inR n a;{have h2:0<=a.toInt/\a.toInt<(n:Int):=h;by_cases h3:(CZ b2.toInt x.toInt).2=0;{simp only[Gl h,h,h2,h3,and_self,AG]};{simp only[Gl h,h,h2,h3,and_self,AG]}};{simp only[Lv h,h,show ¬(1:Int)=0 by decide,AG]}
def EW (y:C):Int × C × C:=if inR n a then if inR n y then if(Cv n a x b2 b3).1=0 then Dr n y x (Cv n a x b2 b3).2.1 (Cv n a x b2 b3).2.2 else((Cv n a x b2 b3).1,b2,b3)else(1,b2,b3)else(1,b2,b3)
theorem UK:(Cv n a x b2 b3).2.2.elems.length=b3.elems.length:=by unfold Cv;split;{split;{exact Ee _ _ _};{rfl}};{rfl}
theorem Qd:(Dr n a x b2 b3).2.2.elems.length=b3.elems.length:=by unfold Dr;split;{split;{exact Ee _ _ _};{rfl}};{rfl}
theorem sW:(Hm n a x b4).2.elems.length=b4.elems.length:=by unfold Hm;split;{split;{exact Ee _ _ _};{rfl}};{rfl}
theorem Yp (h:(Cv n a x b2 b3).1≠0):(Cv n a x b2 b3).2=(b2,b3):=by unfold Cv at h ⊢;split;{split;{rename_i h1 h2;rw[if_pos h1,if_pos h2]at h;exact absurd rfl h};{rfl}};{rfl}
theorem Yc (h:(Dr n a x b2 b3).1≠0):(Dr n a x b2 b3).2=(b2,b3):=by unfold Dr at h ⊢;split;{split;{rename_i h1 h2;rw[if_pos h1,if_pos h2]at h;exact absurd rfl h};{rfl}};{rfl}
theorem rD (y:C):PD N a y x (.int n) (.int n) b2 b3 b4 k=k [.int (EW n a x b2 b3 y).1,.int n,.int n,(EW n a x b2 b3 y).2.1,.int b3.elems.length,(EW n a x b2 b3 y).2.2,.int b4.elems.length,b4] []:=by rw[xT];unfold dU EW;simp only[AF,bx,PG,Qj,Ns,AI,AQ,AR,AV,Aa,Aj,Ak,Au,eq_self,if_true,cf];by_cases h:inR n a;{by_cases h2:inR n y;{by_cases h3:(Cv n a x b2 b3).1=0;{simp only[Gl h,Gl h2,h,h2,h3,AG]};{have:=Yp n a x b2 b3 h3;simp only[Gl h,Gl h2,h,h2,h3,this,AG]}};{simp only[Gl h,Lv h2,h,h2,show ¬(1:Int)=0 by decide,AG]}};{simp only[Lv h,h,show ¬(1:Int)=0 by decide,AG]}
theorem rF (y:C):(EW n a x b2 b3 y).2.2.elems.length=b3.elems.length:=by unfold EW;split;{split;{split;{rw[Qd,UK]};{rfl}};{rfl}};{rfl}
end
end
def Q6:List Sh:=[.vec (.g (.l 1)) 2368 tTx]
def Q7:List (Key × OSh):=[(.l 1,.box (.arr tTx))]
def q8C (_:Nat) {R:Type}:OvG R:=fun xs A K=>match xs with| [.d (.slice eb e) c]=>if eb=2368/\e=tTx then K (.sr (.l 7) [] 0 c.elems.length none 2368 tTx) [(.l 7,.box (.d (.arr c.elems.length tTx) (.agg c.elems)))]else none|xs=>Ry Q6 Q7 (fun ds _ K=>if(dk ds 0).toInt.toNat<=(dk ds 1).elems.length then K (.sr (.l 7) [] 0 (dk ds 0).toInt.toNat none 2368 tTx) [(.l 7,.box (.d (.arr (dk ds 0).toInt.toNat tTx) (.agg ((dk ds 1).elems.take (dk ds 0).toInt.toNat))))]else none) xs A K
theorem iC (ad:Option Addr) (cap:Nat) (w:World):Calls Tryz.prog 38 #[.slice ad 0 cap] w fun e w'=>(∃b,e= .returned (.slice b 0 0))/\Ext w w':=by
 have hq:∀(a:Option Addr) (c:Nat) (w:World),(binOp .eql 81 (.slice a 0 c) (.slice none 0 0)).run Tryz.prog w= .ok (.bool a.isNone) w:=fun a c w=>by have hu:∃E,Tryz.prog.underlying 81=some (.slice E):=⟨130,by kernel_rfl⟩;obtain⟨E,hu⟩:=hu;simp[binOp,run_equal_slice_nil w 81 E a 0 c hu]
 cases ad
 all_goals
  go_enter Tryz.func38,Tryz.ntmps38
  go_wp2
 all_goals go_ret
 ·exact⟨⟨_,rfl⟩,Ext.refl _⟩
 ·exact⟨⟨_,rfl⟩,Ext.alloc _ _⟩
theorem j9 (A:Key->Option O) (cs:List C):Bu (X0 gl0) 38 [.d (.slice 40 AX) (.slice cs)] A (.sr (.l 7) [] 0 cs.length none 40 AX) [(.l 7,.box (.d (.arr cs.length AX) (.agg cs)))]:=by
 cases cs with
 |cons c cs=>exact Q0 A _ (by simp)|nil=>
  intro A' Γ w args hA' hg hc hn hr;obtain⟨cc,hok⟩:=hc;have hs:args.size=1:=hn.symm;have h0:AE Γ (.d (.slice 40 AX) (.slice [])) args[0]:=hr 0 _ _ rfl (ee (by omega:0<args.size));obtain⟨h1,_⟩:=(Bx rfl rfl).1 h0;simp only[AA,AH]at h1;obtain⟨ad,n,cap,cs,e1,e2,e3,e4,e5,e6,e7⟩:=h1;cases e1;have e3:n=0:=by simpa using e3.symm
  subst e3;have ea:args=#[.slice ad 0 cap]:=by
   apply Array.ext;{simpa using hs}
   ·intro i h1 h2
    match i with
    |0=>simpa using e2|i+1=>omega
  rw[ea];refine(iC ad cap w).mono fun e w' he=>?_;obtain⟨⟨b,he1⟩,he2⟩:=he;refine⟨_,Γ,he1,.refl Γ,?_,Vg⟩;exact((cc.ext he2).eP (t:=7) (e:=AX) rfl).congr (fun _=>rfl) (fun _=>rfl) (fun _ h=>h)
def Q4:List Sh:=[.vec (.g (.l 1)) 40 AX]
def Q5:List (Key × OSh):=[(.l 1,.box (.arr AX))]
theorem Q1 (A:Key->Option O) (n M:Nat) (c:C) (h:n<=c.elems.length) (hA0:A (.l 1)=some (.box (.d (.arr M AX) c))):Bu (X0 gl0) 38 [.sr (.g (.l 1)) [] 0 n none 40 AX] A (.sr (.l 7) [] 0 n none 40 AX) [(.l 7,.box (.d (.arr n AX) (.agg (c.elems.take n))))]:=by
 rcases Nat.eq_zero_or_pos n with rfl|hn
 ·intro A' Γ w args hA' hg hc hn hr;obtain⟨cc,hok⟩:=hc;have hs:args.size=1:=hn.symm;have h0:AE Γ (.sr (.g (.l 1)) [] 0 0 none 40 AX) args[0]:=hr 0 _ _ rfl (ee (by omega:0<args.size));obtain⟨cap,ad,e2,_,_⟩:=cC h0;have ea:args=#[.slice ad 0 cap]:=by
   apply Array.ext;{simpa using hs}
   ·intro i h1 h2
    match i with
    |0=>simpa using e2|i+1=>omega
  rw[ea];refine(iC ad cap w).mono fun e w' he=>?_;obtain⟨⟨b,he1⟩,he2⟩:=he;refine⟨_,Γ,he1,.refl Γ,?_,Vg⟩;exact((cc.ext he2).eP (t:=7) (e:=AX) rfl).congr (fun _=>rfl) (fun _=>rfl) (fun _ h=>h)
 ·generalize hgl:gl0=gl;have ht:(c.elems.take n).length=n:=by simp[h]
  have hne:¬c.elems.take n=[]:=fun h1=>by rw[h1]at ht;simp at ht;omega
  have hz:(n==0)=false:=by simp;omega
  refine Lk (n:=8) (ok0 gl) Tryz.func38 rfl rfl (by simp) ?_;intro A' hA;have ha:=hA _ _ hA0;refine Ce (Da (ok0 gl) [] (by kernel_rfl) ?_);simp only[go_sem,↓CX,↓CW,↓CV,↓CU,↓CY,↓CN,↓CM,↓CK,↓CL,simprocAttr];refine Ce (Ce (Da (ok0 gl) [] (by kernel_rfl) ?_));simp only[go_sem,↓CX,↓CW,↓CV,↓CU,↓CY,↓CN,↓CM,↓CK,↓CL,simprocAttr,hz];refine NR _ rfl (fun h=>by simp at h) (fun _=>IK ?_);refine Ce (Da (ok0 gl) [(7,3)] (by kernel_rfl) ?_);simp only[go_sem,↓CX,↓CW,↓CV,↓CU,↓CY,↓CN,↓CM,↓CK,↓CL,simprocAttr,ha,List.drop_zero,ht];refine⟨hne,?_⟩;refine Gb ⟨.inr rfl,?_⟩;simp only[Ff,go_sem,↓CX,↓CW,↓CV,↓CU,↓CY,↓CN,↓CM,↓CK,↓CL,simprocAttr,Tryz.f38] <;> try rfl
def iB (_:Nat) {R:Type}:OvG R:=fun xs A K=>match xs with| [.d (.slice eb e) c]=>if eb=40/\e=AX then K (.sr (.l 7) [] 0 c.elems.length none 40 AX) [(.l 7,.box (.d (.arr c.elems.length AX) (.agg c.elems)))]else none|xs=>Ry Q4 Q5 (fun ds _ K=>if(dk ds 0).toInt.toNat<=(dk ds 1).elems.length then K (.sr (.l 7) [] 0 (dk ds 0).toInt.toNat none 40 AX) [(.l 7,.box (.d (.arr (dk ds 0).toInt.toNat AX) (.agg ((dk ds 1).elems.take (dk ds 0).toInt.toNat))))]else none) xs A K
theorem j5 (N:Nat) {R:Type}:GOk (X0 gl0) 38 (iB N (R:=R)):=by intro xs A Kr r hr;unfold iB at hr;split at hr;{simp only[Option.ite_none_right_eq_some]at hr;obtain⟨⟨rfl,rfl⟩,hr⟩:=hr;exact⟨_,_,wQ (j9 A _),hr⟩};{refine uI (fun ds ms K r hr=>?_) _ _ _ _ hr;split at hr;{exact⟨_,_,Q1 _ _ (dk ds 1).elems.length _ ‹_› rfl,hr⟩};{cases hr}}
def H3:List Sh:=[.as (.ptr (.g (.l 1)) [] Bo),.d tTx]
def H6:List (Key × OSh):=[(.l 1,.box (.agg Bo [.as (.ptr (.g (.l 2)) [] BO),.as (.ptr (.g (.l 5)) [] Bb),.d (.int .u64),.d (.int .u64),.vec (.g (.l 7)) 240 AO,.vec (.g (.l 8)) 2368 tTx,.vec (.g (.l 9)) 40 AX])),(.l 2,.box (.agg BO [.vec (.g (.l 3)) 8 (.int .u64),.vec (.g (.l 4)) 8 (.int .u64),.d (.int .u64)])),(.l 3,.box (.arr (.int .u64))),(.l 4,.box (.arr (.int .u64))),(.l 5,.box (.agg Bb [.as (.mp (.g (.l 6)))])),(.l 6,.map (.arr 32 (.int .u8)) AB),(.l 7,.box (.arr AO)),(.l 8,.box (.arr tTx)),(.l 9,.box (.arr AX))]
def Xc (a0 b0 b1 b2 b3 b4 b5 b6 b7 b8 b9 b10 b11 b12 b13:C) (m0:Es) (k1:KD R):Option R:=if bn (bq b8)=bn (bq b8)then(if bn (bq b9)=bn (bq b9)then(JQ N (cd a0 1) (bt (↑(bo (bp b5)):Int)) (bt (↑(bo (bp b6)):Int)) b7 b8 b9 (fun d1 m1=>(bif decide (bp (dk d1 0)<bp (cd a0 3))then(if bn (bq b8)=bn (bq b8)then(if bn (bq b9)=bn (bq b9)then(if Ab AB (dE AB m0)=true then(if bn (bq b10)=bn (bq b10)then(if bn (bq b11)=bn (bq b11)then(if bn (bq b12)=bn (bq b12)then(k1 [bt 23,b0,b1,bt (↑(bo (bp b2)):Int),bt (↑(bo (bp b3)):Int),bt (↑(bo (bp b4)):Int),bt (↑(bo (bp b5)):Int),bt (↑(bo (bp b6)):Int),b7,bt (↑(bn (bq b8)):Int),b8,bt (↑(bn (bq b9)):Int),b9,bt (↑(bn (bq b10)):Int),b10,bt (↑(bn (bq b11)):Int),b11,bt (↑(bn (bq b12)):Int),b12] [unE (dE AB m0)])else none)else none)else none)else none)else none)else none)else(if bn (bq b8)=bn (bq b8)then(if bn (bq b9)=bn (bq b9)then(Sc N (cd a0 1) (cd a0 2) (bt (↑(bo (bp b5)):Int)) (bt (↑(bo (bp b6)):Int)) b7 b8 b9 (fun d2 m2=>(bif !decide (bp (dk d2 0)=0)then(if bn (bq (dk d2 5))=bn (bq (dk d2 5))then(if bn (bq (dk d2 7))=bn (bq (dk d2 7))then(if Ab AB (dE AB m0)=true then(if bn (bq b10)=bn (bq b10)then(if bn (bq b11)=bn (bq b11)then(if bn (bq b12)=bn (bq b12)then(k1 [dk d2 0,b0,b1,bt (↑(bo (bp b2)):Int),bt (↑(bo (bp b3)):Int),bt (↑(bo (bp b4)):Int),bt (↑(bo (bp (dk d2 1))):Int),bt (↑(bo (bp (dk d2 2))):Int),dk d2 3,bt (↑(bo (bp (dk d2 4))):Int),dk d2 5,bt (↑(bo (bp (dk d2 6))):Int),dk d2 7,bt (↑(bn (bq b10)):Int),b10,bt (↑(bn (bq b11)):Int),b11,bt (↑(bn (bq b12)):Int),b12] [unE (dE AB m0)])else none)else none)else none)else none)else none)else none)else(if bn (bq (dk d2 5))=bn (bq (dk d2 5))then(if bn (bq (dk d2 7))=bn (bq (dk d2 7))then(Md N (bt (↑(bo (bp (dk d2 1))):Int)) (bt (↑(bo (bp (dk d2 2))):Int)) (dk d2 3) (dk d2 5) (dk d2 7) (fun d3 m3=>(if bn (bq (dk d2 5))=bn (bq (dk d2 5))then(if bn (bq (dk d2 7))=bn (bq (dk d2 7))then(PD N (cd a0 1) (bt (bw ca (bp (dk d3 0)-1))) (cd a0 3) (bt (↑(bo (bp (dk d2 1))):Int)) (bt (↑(bo (bp (dk d2 2))):Int)) (dk d2 3) (dk d2 5) (dk d2 7) (fun d4 m4=>(if bn (bq (dk d4 5))=bn (bq (dk d4 5))then(if bn (bq (dk d4 7))=bn (bq (dk d4 7))then(if Ab AB (dE AB m0)=true then(if bn (bq b10)=bn (bq b10)then(if bn (bq b11)=bn (bq b11)then(if bn (bq b12)=bn (bq b12)then(k1 [dk d4 0,b0,b1,bt (↑(bo (bp b2)):Int),bt (↑(bo (bp b3)):Int),bt (↑(bo (bp b4)):Int),bt (↑(bo (bp (dk d4 1))):Int),bt (↑(bo (bp (dk d4 2))):Int),dk d4 3,bt (↑(bo (bp (dk d2 4))):Int),dk d4 5,bt (↑(bo (bp (dk d2 6))):Int),dk d4 7,bt (↑(bn (bq b10)):Int),b10,bt (↑(bn (bq b11)):Int),b11,bt (↑(bn (bq b12)):Int),b12] [unE (dE AB m0)])else none)else none)else none)else none)else none)else none)))else none)else none)))else none)else none))))else none)else none))))else none)else none
def Pr:=lid "" (@Xc R N)
theorem iR {R N a0 b0 b1 b2 b3 b4 b5 b6 b7 b8 b9 b10 b11 b12 b13 m0 k}:@Pr R N a0 b0 b1 b2 b3 b4 b5 b6 b7 b8 b9 b10 b11 b12 b13 m0 k=Xc N a0 b0 b1 b2 b3 b4 b5 b6 b7 b8 b9 b10 b11 b12 b13 m0 k:=by unfold Pr;rw[Ag]
def H4:OvG R:=CP H3 H6 (fun ds ms=>Pr N (dk ds 0) (dk ds 1) (dk ds 2) (dk ds 3) (dk ds 4) (dk ds 5) (dk ds 6) (dk ds 7) (dk ds 8) (dk ds 9) (dk ds 10) (dk ds 11) (dk ds 12) (dk ds 13) (dk ds 14) (dm ms 0)) fun ds ms K d1 m1=>K (V.d (cg ca) (dk d1 0)) [(ej (dg 1),
  fw
   (mj Bo
    [V.ptr (ej (dg 2)) [] BO,V.ptr (ej (dg 5)) [] Bb,V.d (cg bu) (dk d1 1),
     V.d (cg bu) (dk d1 2),
     og (dg 1000000000234) [] 0 (bo (bp (dk d1 3))) none 240 AO,
     og (dg 1000000000266) [] 0 (bo (bp (dk d1 4))) none 2368 tTx,
     og (dg 1000000000298) [] 0 (bo (bp (dk d1 5))) none 40 AX])),
 (ej (dg 2),
  fw
   (mj BO
    [og (dg 1000000000106) [] 0 (bo (bp (dk d1 6))) none 8 (cg bu),
     og (dg 1000000000138) [] 0 (bo (bp (dk d1 7))) none 8 (cg bu),
     V.d (cg bu) (dk d1 8)])),
 (ej (dg 3),gh (dc (bo (bp (dk d1 9))) (cg bu))),
 (dg 1000000000106,fw (V.d (dc (bn (bq (dk d1 10))) (cg bu)) (dk d1 10))),
 (ej (dg 4),gh (dc (bo (bp (dk d1 11))) (cg bu))),
 (dg 1000000000138,fw (V.d (dc (bn (bq (dk d1 12))) (cg bu)) (dk d1 12))),
 (ej (dg 5),fw (mj Bb [V.mp (ej (dg 6))])),
 (ej (dg 6),O.map (dc 32 (cg df)) AB (dE AB (dm m1 0))),
 (ej (dg 7),gh (dc (bo (bp (dk d1 13))) AO)),
 (dg 1000000000234,fw (V.d (dc (bn (bq (dk d1 14))) AO) (dk d1 14))),
 (ej (dg 8),gh (dc (bo (bp (dk d1 15))) tTx)),
 (dg 1000000000266,fw (V.d (dc (bn (bq (dk d1 16))) tTx) (dk d1 16))),
 (ej (dg 9),gh (dc (bo (bp (dk d1 17))) AX)),
 (dg 1000000000298,fw (V.d (dc (bn (bq (dk d1 18))) AX) (dk d1 18)))]
theorem H5:okX 63 (@H4 R N):=CT (AP (dS N) <| AP (xM N) <| AP (q7W N) <| AP (xS N) <| Ah) N [(63,[(0,[(3,5)])])] [(63,[([9],⟨[],[(4,.d (.int .i64))],[.g (.l 1),.g (.l 2),.g (.l 3),.g (.l 4),.g (.l 5),.g (.l 6),.g (.l 7),.g (.l 8),.g (.l 9)],[],[],[(.int .u64),AO,tTx,AX]⟩)])] (fun _ _ _=>iR)
def J8:List Sh:=[.as (.ptr (.g (.l 1)) [] Bo),.d tTx]
def H2:List (Key × OSh):=[(.l 1,.box (.agg Bo [.as (.ptr (.g (.l 2)) [] BO),.as (.ptr (.g (.l 5)) [] Bb),.d (.int .u64),.d (.int .u64),.vec (.g (.l 7)) 240 AO,.vec (.g (.l 8)) 2368 tTx,.vec (.g (.l 9)) 40 AX])),(.l 2,.box (.agg BO [.vec (.g (.l 3)) 8 (.int .u64),.vec (.g (.l 4)) 8 (.int .u64),.d (.int .u64)])),(.l 3,.box (.arr (.int .u64))),(.l 4,.box (.arr (.int .u64))),(.l 5,.box (.agg Bb [.as (.mp (.g (.l 6)))])),(.l 6,.map (.arr 32 (.int .u8)) AB),(.l 7,.box (.arr AO)),(.l 8,.box (.arr tTx)),(.l 9,.box (.arr AX))]
def Jc (a0 b0 b1 b2 b3 b4 b5 b6 b7 b8 b9 b10 b11 b12 b13:C) (m0:Es) (k1:KD R):Option R:=bif decide (16<=(↑(bo (bp b2)):Int))then(if bn (bq b8)=bn (bq b8)then(if bn (bq b9)=bn (bq b9)then(if Ab AB (dE AB m0)=true then(if bn (bq b10)=bn (bq b10)then(if bn (bq b11)=bn (bq b11)then(if bn (bq b12)=bn (bq b12)then(k1 [bt 4,b0,b1,bt (↑(bo (bp b2)):Int),bt (↑(bo (bp b3)):Int),bt (↑(bo (bp b4)):Int),bt (↑(bo (bp b5)):Int),bt (↑(bo (bp b6)):Int),b7,bt (↑(bn (bq b8)):Int),b8,bt (↑(bn (bq b9)):Int),b9,bt (↑(bn (bq b10)):Int),b10,bt (↑(bn (bq b11)):Int),b11,bt (↑(bn (bq b12)):Int),b12] [unE (dE AB m0)])else none)else none)else none)else none)else none)else none)else(jn (fun d1 m1=>(bif ek (dk d1 1)then(if bn (bq (dk d1 11))=bn (bq (dk d1 11))then(if bn (bq (dk d1 13))=bn (bq (dk d1 13))then(if Ab AB (dE AB (dm m1 0))=true then(if bn (bq (dk d1 15))=bn (bq (dk d1 15))then(if bn (bq (dk d1 17))=bn (bq (dk d1 17))then(if bn (bq (dk d1 19))=bn (bq (dk d1 19))then(k1 [bt 1,dk d1 2,dk d1 3,bt (↑(bo (bp (dk d1 4))):Int),bt (↑(bo (bp (dk d1 5))):Int),bt (↑(bo (bp (dk d1 6))):Int),bt (↑(bo (bp (dk d1 7))):Int),bt (↑(bo (bp (dk d1 8))):Int),dk d1 9,bt (↑(bo (bp (dk d1 10))):Int),dk d1 11,bt (↑(bo (bp (dk d1 12))):Int),dk d1 13,bt (↑(bo (bp (dk d1 14))):Int),dk d1 15,bt (↑(bo (bp (dk d1 16))):Int),dk d1 17,bt (↑(bo (bp (dk d1 18))):Int),dk d1 19] [unE (dE AB (dm m1 0))])else none)else none)else none)else none)else none)else none)else(NI N (bt (bw IntKind.u32 (↑(bo (bp (dk d1 4))):Int))) (dp (dp (AL (dc 2 (cg ca))) 0 (cd (dk d1 0) 1)) 1 (cd (dk d1 0) 4)) (cd (dk d1 0) 8) (cd (dk d1 0) 9) (fun d2 m2=>(bif !decide (bp (dk d2 0)=0)then(if bn (bq (dk d1 11))=bn (bq (dk d1 11))then(if bn (bq (dk d1 13))=bn (bq (dk d1 13))then(if Ab AB (dE AB (dm m1 0))=true then(if bn (bq (dk d1 15))=bn (bq (dk d1 15))then(if bn (bq (dk d1 17))=bn (bq (dk d1 17))then(if bn (bq (dk d1 19))=bn (bq (dk d1 19))then(k1 [dk d2 0,dk d1 2,dk d1 3,bt (↑(bo (bp (dk d1 4))):Int),bt (↑(bo (bp (dk d1 5))):Int),bt (↑(bo (bp (dk d1 6))):Int),bt (↑(bo (bp (dk d1 7))):Int),bt (↑(bo (bp (dk d1 8))):Int),dk d1 9,bt (↑(bo (bp (dk d1 10))):Int),dk d1 11,bt (↑(bo (bp (dk d1 12))):Int),dk d1 13,bt (↑(bo (bp (dk d1 14))):Int),dk d1 15,bt (↑(bo (bp (dk d1 16))):Int),dk d1 17,bt (↑(bo (bp (dk d1 18))):Int),dk d1 19] [unE (dE AB (dm m1 0))])else none)else none)else none)else none)else none)else none)else(jn (fun d3 m3=>(if(bo (bp (dk d3 2))+1)*240<=140737488355328/\bo (bp (dk d3 2))+1<=9223372036854775807 then(if bn (bq (dk d3 8))=bn (bq (dk d3 8))then(if bn (bq (dk d3 9))=bn (bq (dk d3 9))then(if Ab AB (dE AB (dm m3 0))=true then(if bo (bp (dk d3 2))+1=bn (List.take (bo (bp (dk d3 2))) (bq (dk d3 10))++[dk d3 13])then(if bn (bq (dk d3 11))=bn (bq (dk d3 11))then(if bn (bq (dk d3 12))=bn (bq (dk d3 12))then(k1 [bt 0,dk d3 0,dk d3 1,bt (↑(bo (bp (dk d3 2))+1):Int),bt (↑(bo (bp (dk d3 3))):Int),bt (↑(bo (bp (dk d3 4))):Int),bt (↑(bo (bp (dk d3 5))):Int),bt (↑(bo (bp (dk d3 6))):Int),dk d3 7,bt (↑(bo (bp (dk d3 14))):Int),dk d3 8,bt (↑(bo (bp (dk d3 15))):Int),dk d3 9,bt (↑(bo (bp (dk d3 16))):Int),eg (List.take (bo (bp (dk d3 2))) (bq (dk d3 10))++[dk d3 13]),bt (↑(bo (bp (dk d3 17))):Int),dk d3 11,bt (↑(bo (bp (dk d3 18))):Int),dk d3 12] [unE (dE AB (dm m3 0))])else none)else none)else none)else none)else none)else none)else none)) (fun k2=>(bif decide (0<bp (cd (dk d1 0) 5))then(KR N (dk d2 1) (bt 0) (cd (dk d1 0) 5) (fun d3 m3=>(bif !decide (bp (dk d3 0)=0)then(if bn (bq (dk d1 11))=bn (bq (dk d1 11))then(if bn (bq (dk d1 13))=bn (bq (dk d1 13))then(if Ab AB (dE AB (dm m1 0))=true then(if bn (bq (dk d1 15))=bn (bq (dk d1 15))then(if bn (bq (dk d1 17))=bn (bq (dk d1 17))then(if bn (bq (dk d1 19))=bn (bq (dk d1 19))then(k1 [dk d3 0,dk d1 2,dk d1 3,bt (↑(bo (bp (dk d1 4))):Int),bt (↑(bo (bp (dk d1 5))):Int),bt (↑(bo (bp (dk d1 6))):Int),bt (↑(bo (bp (dk d1 7))):Int),bt (↑(bo (bp (dk d1 8))):Int),dk d1 9,bt (↑(bo (bp (dk d1 10))):Int),dk d1 11,bt (↑(bo (bp (dk d1 12))):Int),dk d1 13,bt (↑(bo (bp (dk d1 14))):Int),dk d1 15,bt (↑(bo (bp (dk d1 16))):Int),dk d1 17,bt (↑(bo (bp (dk d1 18))):Int),dk d1 19] [unE (dE AB (dm m1 0))])else none)else none)else none)else none)else none)else none)else(if bn (bq (dk d1 11))=bn (bq (dk d1 11))then(if bn (bq (dk d1 13))=bn (bq (dk d1 13))then(Mc N (cd (dk d1 0) 1) (cd (dk d1 0) 5) (bt (↑(bo (bp (dk d1 7))):Int)) (bt (↑(bo (bp (dk d1 8))):Int)) (dk d1 9) (dk d1 11) (dk d1 13) (fun d4 m4=>(bif !decide (bp (dk d4 0)=0)then(if bn (bq (dk d4 5))=bn (bq (dk d4 5))then(if bn (bq (dk d4 7))=bn (bq (dk d4 7))then(if Ab AB (dE AB (dm m1 0))=true then(if bn (bq (dk d1 15))=bn (bq (dk d1 15))then(if bn (bq (dk d1 17))=bn (bq (dk d1 17))then(if bn (bq (dk d1 19))=bn (bq (dk d1 19))then(k1 [dk d4 0,dk d1 2,dk d1 3,bt (↑(bo (bp (dk d1 4))):Int),bt (↑(bo (bp (dk d1 5))):Int),bt (↑(bo (bp (dk d1 6))):Int),bt (↑(bo (bp (dk d4 1))):Int),bt (↑(bo (bp (dk d4 2))):Int),dk d4 3,bt (↑(bo (bp (dk d1 10))):Int),dk d4 5,bt (↑(bo (bp (dk d1 12))):Int),dk d4 7,bt (↑(bo (bp (dk d1 14))):Int),dk d1 15,bt (↑(bo (bp (dk d1 16))):Int),dk d1 17,bt (↑(bo (bp (dk d1 18))):Int),dk d1 19] [unE (dE AB (dm m1 0))])else none)else none)else none)else none)else none)else none)else(if bn (bq (dk d4 5))=bn (bq (dk d4 5))then(if bn (bq (dk d4 7))=bn (bq (dk d4 7))then(if Ab AB (dE AB (dm m1 0))=true then(if bn (bq (dk d1 15))=bn (bq (dk d1 15))then(if bn (bq (dk d1 17))=bn (bq (dk d1 17))then(if bn (bq (dk d1 19))=bn (bq (dk d1 19))then(k2 [dk d1 2,dk d1 3,bt (↑(bo (bp (dk d1 4))):Int),bt (↑(bo (bp (dk d1 5))):Int),bt (↑(bo (bp (dk d1 6))):Int),bt (↑(bo (bp (dk d4 1))):Int),bt (↑(bo (bp (dk d4 2))):Int),dk d4 3,dk d4 5,dk d4 7,dk d1 15,dk d1 17,dk d1 19,dk d3 1,bt (↑(bo (bp (dk d1 10))):Int),bt (↑(bo (bp (dk d1 12))):Int),bt (↑(bo (bp (dk d1 14))):Int),bt (↑(bo (bp (dk d1 16))):Int),bt (↑(bo (bp (dk d1 18))):Int),bt (↑(bo (bp (dk d1 10))):Int),bt (↑(bo (bp (dk d1 12))):Int),bt (↑(bo (bp (dk d1 14))):Int),bt (↑(bo (bp (dk d1 16))):Int),bt (↑(bo (bp (dk d1 18))):Int)] [unE (dE AB (dm m1 0))])else none)else none)else none)else none)else none)else none))))else none)else none))))else(if bn (bq (dk d1 11))=bn (bq (dk d1 11))then(if bn (bq (dk d1 13))=bn (bq (dk d1 13))then(if Ab AB (dE AB (dm m1 0))=true then(if bn (bq (dk d1 15))=bn (bq (dk d1 15))then(if bn (bq (dk d1 17))=bn (bq (dk d1 17))then(if bn (bq (dk d1 19))=bn (bq (dk d1 19))then(k2 [dk d1 2,dk d1 3,bt (↑(bo (bp (dk d1 4))):Int),bt (↑(bo (bp (dk d1 5))):Int),bt (↑(bo (bp (dk d1 6))):Int),bt (↑(bo (bp (dk d1 7))):Int),bt (↑(bo (bp (dk d1 8))):Int),dk d1 9,dk d1 11,dk d1 13,dk d1 15,dk d1 17,dk d1 19,dk d2 1,bt (↑(bo (bp (dk d1 10))):Int),bt (↑(bo (bp (dk d1 12))):Int),bt (↑(bo (bp (dk d1 14))):Int),bt (↑(bo (bp (dk d1 16))):Int),bt (↑(bo (bp (dk d1 18))):Int),bt (↑(bo (bp (dk d1 10))):Int),bt (↑(bo (bp (dk d1 12))):Int),bt (↑(bo (bp (dk d1 14))):Int),bt (↑(bo (bp (dk d1 16))):Int),bt (↑(bo (bp (dk d1 18))):Int)] [unE (dE AB (dm m1 0))])else none)else none)else none)else none)else none)else none))))))))) (fun k2=>(bif decide (bp (cd a0 4)<0)then(if bn (bq b8)=bn (bq b8)then(if bn (bq b9)=bn (bq b9)then(if Ab AB (dE AB m0)=true then(if bn (bq b10)=bn (bq b10)then(if bn (bq b11)=bn (bq b11)then(if bn (bq b12)=bn (bq b12)then(k2 [a0,dv true,b0,b1,bt (↑(bo (bp b2)):Int),bt (↑(bo (bp b3)):Int),bt (↑(bo (bp b4)):Int),bt (↑(bo (bp b5)):Int),bt (↑(bo (bp b6)):Int),b7,bt (↑(bn (bq b8)):Int),b8,bt (↑(bn (bq b9)):Int),b9,bt (↑(bn (bq b10)):Int),b10,bt (↑(bn (bq b11)):Int),b11,bt (↑(bn (bq b12)):Int),b12] [unE (dE AB m0)])else none)else none)else none)else none)else none)else none)else(if bn (bq b8)=bn (bq b8)then(if bn (bq b9)=bn (bq b9)then(Md N (bt (↑(bo (bp b5)):Int)) (bt (↑(bo (bp b6)):Int)) b7 b8 b9 (fun d1 m1=>(if bn (bq b8)=bn (bq b8)then(if bn (bq b9)=bn (bq b9)then(if Ab AB (dE AB m0)=true then(if bn (bq b10)=bn (bq b10)then(if bn (bq b11)=bn (bq b11)then(if bn (bq b12)=bn (bq b12)then(k2 [a0,dv (decide (bw ca (bp (dk d1 0)-1)<=bp (cd a0 4))),b0,b1,bt (↑(bo (bp b2)):Int),bt (↑(bo (bp b3)):Int),bt (↑(bo (bp b4)):Int),bt (↑(bo (bp b5)):Int),bt (↑(bo (bp b6)):Int),b7,bt (↑(bn (bq b8)):Int),b8,bt (↑(bn (bq b9)):Int),b9,bt (↑(bn (bq b10)):Int),b10,bt (↑(bn (bq b11)):Int),b11,bt (↑(bn (bq b12)):Int),b12] [unE (dE AB m0)])else none)else none)else none)else none)else none)else none)))else none)else none))))
def Pq:=lid "" (@Jc R N)
theorem KY {R N a0 b0 b1 b2 b3 b4 b5 b6 b7 b8 b9 b10 b11 b12 b13 m0 k}:@Pq R N a0 b0 b1 b2 b3 b4 b5 b6 b7 b8 b9 b10 b11 b12 b13 m0 k=Jc N a0 b0 b1 b2 b3 b4 b5 b6 b7 b8 b9 b10 b11 b12 b13 m0 k:=by unfold Pq;rw[Ag]
def J9:OvG R:=CP J8 H2 (fun ds ms=>Pq N (dk ds 0) (dk ds 1) (dk ds 2) (dk ds 3) (dk ds 4) (dk ds 5) (dk ds 6) (dk ds 7) (dk ds 8) (dk ds 9) (dk ds 10) (dk ds 11) (dk ds 12) (dk ds 13) (dk ds 14) (dm ms 0)) fun ds ms K d1 m1=>K (V.d (cg ca) (dk d1 0)) [(ej (dg 1),
  fw
   (mj Bo
    [V.ptr (ej (dg 2)) [] BO,V.ptr (ej (dg 5)) [] Bb,V.d (cg bu) (dk d1 1),
     V.d (cg bu) (dk d1 2),
     og (dg 1000000000234) [] 0 (bo (bp (dk d1 3))) none 240 AO,
     og (dg 1000000000266) [] 0 (bo (bp (dk d1 4))) none 2368 tTx,
     og (dg 1000000000298) [] 0 (bo (bp (dk d1 5))) none 40 AX])),
 (ej (dg 2),
  fw
   (mj BO
    [og (dg 1000000000106) [] 0 (bo (bp (dk d1 6))) none 8 (cg bu),
     og (dg 1000000000138) [] 0 (bo (bp (dk d1 7))) none 8 (cg bu),
     V.d (cg bu) (dk d1 8)])),
 (ej (dg 3),gh (dc (bo (bp (dk d1 9))) (cg bu))),
 (dg 1000000000106,fw (V.d (dc (bn (bq (dk d1 10))) (cg bu)) (dk d1 10))),
 (ej (dg 4),gh (dc (bo (bp (dk d1 11))) (cg bu))),
 (dg 1000000000138,fw (V.d (dc (bn (bq (dk d1 12))) (cg bu)) (dk d1 12))),
 (ej (dg 5),fw (mj Bb [V.mp (ej (dg 6))])),
 (ej (dg 6),O.map (dc 32 (cg df)) AB (dE AB (dm m1 0))),
 (ej (dg 7),gh (dc (bo (bp (dk d1 13))) AO)),
 (dg 1000000000234,fw (V.d (dc (bn (bq (dk d1 14))) AO) (dk d1 14))),
 (ej (dg 8),gh (dc (bo (bp (dk d1 15))) tTx)),
 (dg 1000000000266,fw (V.d (dc (bn (bq (dk d1 16))) tTx) (dk d1 16))),
 (ej (dg 9),gh (dc (bo (bp (dk d1 17))) AX)),
 (dg 1000000000298,fw (V.d (dc (bn (bq (dk d1 18))) AX) (dk d1 18)))]
theorem H0:okX 82 (@J9 R N):=CT (AP (dS N) <| AP (dQ N) <| AP (u4 N) <| AP (gI N) <| Ah) N [(82,[(0,[(3,5)]),(5,[(43,7)]),(15,[(5,6)])])] [(82,[([0,0,1,1],⟨[0,3],[(26,.d .bool)],[.g (.l 1),.g (.l 2),.g (.l 3),.g (.l 4),.g (.l 5),.g (.l 6),.g (.l 7),.g (.l 8),.g (.l 9)],[],[],[(.int .u64),AO,tTx,AX]⟩),
  ([1,0,1,1,1,1,1],⟨[0,5],[],[.g (.l 1),.g (.l 2),.g (.l 3),.g (.l 4),.g (.l 5),.g (.l 6),.g (.l 7),.g (.l 8),.g (.l 9)],[],[],[(.int .u64),AO,tTx,AX]⟩),
  ([9],⟨[],[(4,.d (.int .i64))],[.g (.l 1),.g (.l 2),.g (.l 3),.g (.l 4),.g (.l 5),.g (.l 6),.g (.l 7),.g (.l 8),.g (.l 9)],[],[],[(.int .u64),AO,tTx,AX]⟩)])] (fun _ _ _=>KY)
def J4:List Sh:=[.as (.ptr (.g (.l 1)) [] Bo),.d tTx,.d AO]
def J7:List (Key × OSh):=[(.l 1,.box (.agg Bo [.as (.ptr (.g (.l 2)) [] BO),.as (.ptr (.g (.l 5)) [] Bb),.d (.int .u64),.d (.int .u64),.vec (.g (.l 7)) 240 AO,.vec (.g (.l 8)) 2368 tTx,.vec (.g (.l 9)) 40 AX])),(.l 2,.box (.agg BO [.vec (.g (.l 3)) 8 (.int .u64),.vec (.g (.l 4)) 8 (.int .u64),.d (.int .u64)])),(.l 3,.box (.arr (.int .u64))),(.l 4,.box (.arr (.int .u64))),(.l 5,.box (.agg Bb [.as (.mp (.g (.l 6)))])),(.l 6,.map (.arr 32 (.int .u8)) AB),(.l 7,.box (.arr AO)),(.l 8,.box (.arr tTx)),(.l 9,.box (.arr AX))]
def TX (a0:C) (a1:C) (b0:C) (b1:C) (b2:C) (b3:C) (b4:C) (b5:C) (b6:C) (b7:C) (b8:C) (b9:C) (b10:C) (b11:C) (b12:C) (b13:C) (m0:Es) (k1:KD R) (k2:KD R):KD R->KD R:=fun k3 d2 m2=>(bif decide (bp (dk d2 3)<2)then(if 0<=bp (dk d2 3)/\bp (dk d2 3)<2 then(if 0<=bp (dk d2 3)/\bp (dk d2 3)<2 then(if bn (bq (dk d2 13))=bn (bq (dk d2 13))then(if bn (bq (dk d2 15))=bn (bq (dk d2 15))then(Mb N (cd (dk d2 2) (bo (bp (dk d2 3)))) (cd (dk d2 1) (bo (bp (dk d2 3)))) (bt (↑(bo (bp (dk d2 9))):Int)) (bt (↑(bo (bp (dk d2 10))):Int)) (dk d2 11) (dk d2 13) (dk d2 15) (fun d3 m3=>(bif !decide (bp (dk d3 0)=0)then(if bn (bq (dk d3 5))=bn (bq (dk d3 5))then(if bn (bq (dk d3 7))=bn (bq (dk d3 7))then(if Ab AB (dE AB (dm m2 0))=true then(if bn (bq (dk d2 17))=bn (bq (dk d2 17))then(if bn (bq (dk d2 19))=bn (bq (dk d2 19))then(if bn (bq (dk d2 21))=bn (bq (dk d2 21))then(k1 [dk d3 0,dk d2 4,dk d2 5,bt (↑(bo (bp (dk d2 6))):Int),bt (↑(bo (bp (dk d2 7))):Int),bt (↑(bo (bp (dk d2 8))):Int),bt (↑(bo (bp (dk d3 1))):Int),bt (↑(bo (bp (dk d3 2))):Int),dk d3 3,bt (↑(bo (bp (dk d2 12))):Int),dk d3 5,bt (↑(bo (bp (dk d2 14))):Int),dk d3 7,bt (↑(bo (bp (dk d2 16))):Int),dk d2 17,bt (↑(bo (bp (dk d2 18))):Int),dk d2 19,bt (↑(bo (bp (dk d2 20))):Int),dk d2 21] [unE (dE AB (dm m2 0))])else none)else none)else none)else none)else none)else none)else(if bn (bq (dk d3 5))=bn (bq (dk d3 5))then(if bn (bq (dk d3 7))=bn (bq (dk d3 7))then(if Ab AB (dE AB (dm m2 0))=true then(if bn (bq (dk d2 17))=bn (bq (dk d2 17))then(if bn (bq (dk d2 19))=bn (bq (dk d2 19))then(if bn (bq (dk d2 21))=bn (bq (dk d2 21))then(k3 [dk d2 0,dk d2 1,dk d2 2,bt (bw ca (bp (dk d2 3)+1)),dk d2 4,dk d2 5,bt (↑(bo (bp (dk d2 6))):Int),bt (↑(bo (bp (dk d2 7))):Int),bt (↑(bo (bp (dk d2 8))):Int),bt (↑(bo (bp (dk d3 1))):Int),bt (↑(bo (bp (dk d3 2))):Int),dk d3 3,bt (↑(bo (bp (dk d2 12))):Int),dk d3 5,bt (↑(bo (bp (dk d2 14))):Int),dk d3 7,bt (↑(bo (bp (dk d2 16))):Int),dk d2 17,bt (↑(bo (bp (dk d2 18))):Int),dk d2 19,bt (↑(bo (bp (dk d2 20))):Int),dk d2 21,dk d2 22] [unE (dE AB (dm m2 0))])else none)else none)else none)else none)else none)else none))))else none)else none)else none)else none)else(if bn (bq (dk d2 13))=bn (bq (dk d2 13))then(if bn (bq (dk d2 15))=bn (bq (dk d2 15))then(if Ab AB (dE AB (dm m2 0))=true then(if bn (bq (dk d2 17))=bn (bq (dk d2 17))then(if bn (bq (dk d2 19))=bn (bq (dk d2 19))then(if bn (bq (dk d2 21))=bn (bq (dk d2 21))then(k2 [dk d2 0,dk d2 4,dk d2 5,bt (↑(bo (bp (dk d2 6))):Int),bt (↑(bo (bp (dk d2 7))):Int),bt (↑(bo (bp (dk d2 8))):Int),bt (↑(bo (bp (dk d2 9))):Int),bt (↑(bo (bp (dk d2 10))):Int),dk d2 11,bt (↑(bo (bp (dk d2 12))):Int),dk d2 13,bt (↑(bo (bp (dk d2 14))):Int),dk d2 15,bt (↑(bo (bp (dk d2 16))):Int),dk d2 17,bt (↑(bo (bp (dk d2 18))):Int),dk d2 19,bt (↑(bo (bp (dk d2 20))):Int),dk d2 21,dk d2 22] [unE (dE AB (dm m2 0))])else none)else none)else none)else none)else none)else none))
def NQ (a0 a1 b0 b1 b2 b3 b4 b5 b6 b7 b8 b9 b10 b11 b12 b13:C) (m0:Es) (k1:KD R):Option R:=if Ab AB (dE AB m0)=true then(NF N a1 b1 C.nil (unE (dE AB m0)) (fun d1 m1=>(bif !decide (bp (dk d1 0)=0)then(if bn (bq b8)=bn (bq b8)then(if bn (bq b9)=bn (bq b9)then(if Ab AB (dE AB m0)=true then(if bn (bq b10)=bn (bq b10)then(if bn (bq b11)=bn (bq b11)then(if bn (bq b12)=bn (bq b12)then(k1 [dk d1 0,b0,b1,bt (↑(bo (bp b2)):Int),bt (↑(bo (bp b3)):Int),bt (↑(bo (bp b4)):Int),bt (↑(bo (bp b5)):Int),bt (↑(bo (bp b6)):Int),b7,bt (↑(bn (bq b8)):Int),b8,bt (↑(bn (bq b9)):Int),b9,bt (↑(bn (bq b10)):Int),b10,bt (↑(bn (bq b11)):Int),b11,bt (↑(bn (bq b12)):Int),b12] [unE (dE AB m0)])else none)else none)else none)else none)else none)else none)else(jn (fun d2 m2=>(if 0<=bp (cd (dk d2 0) 6)/\bp (cd (dk d2 0) 6)<(↑(bo (bp (dk d2 3))):Int)then(if bn (bq (dk d2 10))=bn (bq (dk d2 10))then(if bn (bq (dk d2 12))=bn (bq (dk d2 12))then(if Ab AB (dE AB (dm m2 0))=true then(if bn (bq (dk d2 14))=bn (bq (dp (dk d2 14) (0+bo (bp (cd (dk d2 0) 6))) (dk d2 19)))then(if bn (bq (dk d2 16))=bn (bq (dk d2 16))then(if bn (bq (dk d2 18))=bn (bq (dk d2 18))then(k1 [bt 0,dk d2 1,dk d2 2,bt (↑(bo (bp (dk d2 3))):Int),bt (↑(bo (bp (dk d2 4))):Int),bt (↑(bo (bp (dk d2 5))):Int),bt (↑(bo (bp (dk d2 6))):Int),bt (↑(bo (bp (dk d2 7))):Int),dk d2 8,bt (↑(bo (bp (dk d2 9))):Int),dk d2 10,bt (↑(bo (bp (dk d2 11))):Int),dk d2 12,bt (↑(bo (bp (dk d2 13))):Int),dp (dk d2 14) (0+bo (bp (cd (dk d2 0) 6))) (dk d2 19),bt (↑(bo (bp (dk d2 15))):Int),dk d2 16,bt (↑(bo (bp (dk d2 17))):Int),dk d2 18] [unE (dE AB (dm m2 0))])else none)else none)else none)else none)else none)else none)else none)) (fun k2=>(if bn (bq b8)=bn (bq b8)then(if bn (bq b9)=bn (bq b9)then(if Ab AB (dE AB m0)=true then(if bn (bq b10)=bn (bq b10)then(if bn (bq b11)=bn (bq b11)then(if bn (bq b12)=bn (bq b12)then(BU N (TX N a0 a1 b0 b1 b2 b3 b4 b5 b6 b7 b8 b9 b10 b11 b12 b13 m0 k1 k2) [a0,dk d1 2,cd (dk d1 1) 1,bt 0,b0,b1,bt (↑(bo (bp b2)):Int),bt (↑(bo (bp b3)):Int),bt (↑(bo (bp b4)):Int),bt (↑(bo (bp b5)):Int),bt (↑(bo (bp b6)):Int),b7,bt (↑(bn (bq b8)):Int),b8,bt (↑(bn (bq b9)):Int),b9,bt (↑(bn (bq b10)):Int),b10,bt (↑(bn (bq b11)):Int),b11,bt (↑(bn (bq b12)):Int),b12,dk d1 1] [unE (dE AB m0)])else none)else none)else none)else none)else none)else none))))))else none
def Po:=lid "" (@NQ R N)
theorem Pp {R N a0 a1 b0 b1 b2 b3 b4 b5 b6 b7 b8 b9 b10 b11 b12 b13 m0 k}:@Po R N a0 a1 b0 b1 b2 b3 b4 b5 b6 b7 b8 b9 b10 b11 b12 b13 m0 k=NQ N a0 a1 b0 b1 b2 b3 b4 b5 b6 b7 b8 b9 b10 b11 b12 b13 m0 k:=by unfold Po;rw[Ag]
def J5:OvG R:=CP J4 J7 (fun ds ms=>Po N (dk ds 0) (dk ds 1) (dk ds 2) (dk ds 3) (dk ds 4) (dk ds 5) (dk ds 6) (dk ds 7) (dk ds 8) (dk ds 9) (dk ds 10) (dk ds 11) (dk ds 12) (dk ds 13) (dk ds 14) (dk ds 15) (dm ms 0)) fun ds ms K d1 m1=>K (V.d (cg ca) (dk d1 0)) [(ej (dg 1),
  fw
   (mj Bo
    [V.ptr (ej (dg 2)) [] BO,V.ptr (ej (dg 5)) [] Bb,V.d (cg bu) (dk d1 1),
     V.d (cg bu) (dk d1 2),
     og (dg 1000000000234) [] 0 (bo (bp (dk d1 3))) none 240 AO,
     og (dg 1000000000266) [] 0 (bo (bp (dk d1 4))) none 2368 tTx,
     og (dg 1000000000298) [] 0 (bo (bp (dk d1 5))) none 40 AX])),
 (ej (dg 2),
  fw
   (mj BO
    [og (dg 1000000000106) [] 0 (bo (bp (dk d1 6))) none 8 (cg bu),
     og (dg 1000000000138) [] 0 (bo (bp (dk d1 7))) none 8 (cg bu),
     V.d (cg bu) (dk d1 8)])),
 (ej (dg 3),gh (dc (bo (bp (dk d1 9))) (cg bu))),
 (dg 1000000000106,fw (V.d (dc (bn (bq (dk d1 10))) (cg bu)) (dk d1 10))),
 (ej (dg 4),gh (dc (bo (bp (dk d1 11))) (cg bu))),
 (dg 1000000000138,fw (V.d (dc (bn (bq (dk d1 12))) (cg bu)) (dk d1 12))),
 (ej (dg 5),fw (mj Bb [V.mp (ej (dg 6))])),
 (ej (dg 6),O.map (dc 32 (cg df)) AB (dE AB (dm m1 0))),
 (ej (dg 7),gh (dc (bo (bp (dk d1 13))) AO)),
 (dg 1000000000234,fw (V.d (dc (bn (bq (dk d1 14))) AO) (dk d1 14))),
 (ej (dg 8),gh (dc (bo (bp (dk d1 15))) tTx)),
 (dg 1000000000266,fw (V.d (dc (bn (bq (dk d1 16))) tTx) (dk d1 16))),
 (ej (dg 9),gh (dc (bo (bp (dk d1 17))) AX)),
 (dg 1000000000298,fw (V.d (dc (bn (bq (dk d1 18))) AX) (dk d1 18)))]
theorem J6:okX 103 (@J5 R N):=CT (AP (dM N) <| AP (z9 N) <| Ah) N [(103,[(0,[(4,5),(5,5)]),(4,[(8,6)]),(7,[]),(11,[(7,6)])])] [(103,[([1,0,1,1,1],⟨[0,4,7],[],[.g (.l 1),.g (.l 2),.g (.l 3),.g (.l 4),.g (.l 5),.g (.l 6),.g (.l 7),.g (.l 8),.g (.l 9)],[],[],[(.int .u64),AO,tTx,AX]⟩),
  ([4,1,0,1,1,1],⟨[0,4,7,8,31],[(32,.d (.int .i64))],[.g (.l 1),.g (.l 2),.g (.l 3),.g (.l 4),.g (.l 5),.g (.l 6),.g (.l 7),.g (.l 8),.g (.l 9)],[],[],[(.int .u64),AO,tTx,AX]⟩),
  ([9],⟨[],[(6,.d (.int .i64))],[.g (.l 1),.g (.l 2),.g (.l 3),.g (.l 4),.g (.l 5),.g (.l 6),.g (.l 7),.g (.l 8),.g (.l 9)],[],[],[(.int .u64),AO,tTx,AX]⟩)])] (fun _ _ _=>Pp)
end Go.Proofs.YtpemdagggddcfaaGreatDoor
