/-
 What the functions on the way compute, part 7.
 Conditions: none.
-/
import Derived.Test.YteealakhniofoaaGreatDoorKf
set_option linter.all false
noncomputable section
set_option maxRecDepth 100000
set_option maxHeartbeats 4000000
open Go.E.C renaming agg->dc,elems->ax,get->bj,int->bc,nil->dj,set->cn,slice->bw,toInt->aq
open Go.E.Key renaming g->dp,l->ch
open Go.E.O renaming box->dy,dead->fk
open Go.E.Ty renaming arr->ca,bool->dq,int->bm
open Go.IntKind renaming i64->ba,u64->ay,u8->cq,wrap->ar
open Int renaming eq_ofNat_of_zero_le->kv,lt_irrefl->eg,natCast_nonneg->bz,tmod->bn,toNat->av,toNat_natCast->bb,toNat_zero->bu
open List renaming countP_cons->vz,drop_zero->jf,getD->bt,getD_eq_getElem?_getD->bq,getElem?_eq_getElem->bo,getElem?_eq_none->gb,length->au,length_append->br,length_cons->cg,length_map->fg,length_nil->cr,length_set->di,length_take->jh,map_append->pt,map_cons->dt,mem_append->eh,mem_of_getElem?->fa,mem_singleton->fj,range->gf,replicate->bp,take->eu,take_length->dh,take_of_length_le->ez
open List.cons renaming injEq->nf
open Nat renaming beq_refl->bh,le_refl->bx,le_succ->nh,le_trans->kh,zero_add->bf
open Prod.mk renaming injEq->fw
namespace Go.Proofs.YteealakhniofoaaGreatDoor
open Go Go.E
variable {R:Type} (N:Nat)
section
variable {R:Type} {N:Nat}
theorem IX (x:C) (a:Int) (h0:0<=a) (h1:a<=40) (b:Bool) (hN:100<N):∃v:Int,∀k:KD R,Df N x (.int a) (.bool b) k=k [.int v] []:=by
 obtain⟨n,rfl⟩:=kv h0
 obtain⟨d,⟨p,hp,rfl⟩,h⟩:=Ga (R:=R) (F:=fun k2=>Lr N k2) n (fun i st=>∃p:Nat,st=[x,.int n,.bool b,.int p,.int i]/\1<=p/\p<=2^i) (fun d=>∃p:Nat,1<=p/\d=[x,.bool b,.int p])
  (fun i st hi hst=>by
   obtain⟨p,rfl,hp,hp2⟩:=hst;have e1:(i:Int)<(n:Int):=by omega
   have e2:2^i<=2^40:=Nat.pow_le_pow_right (by omega) (by omega);have e3:IntKind.u64.wrap ((p:Int)*2)=((p*2:Nat):Int):=by rw[wrap_u64 (by omega) (by omega)];omega
   refine⟨_,⟨p*2,rfl,by omega,by rw[Nat.pow_succ];omega⟩,fun k rec=>?_⟩;unfold Lr;simp only[AF,AH,AJ,AL,AQ,AG,AX,e1,e3,AE,Bp (show i<4611686018427387904 by omega),AB])
  (fun st hst=>by
   obtain⟨p,rfl,hp,hp2⟩:=hst;refine⟨_,⟨p,hp,rfl⟩,fun k rec=>?_⟩;unfold Lr;simp only[AF,AH,AJ,AL,AQ,AG,AX,eg,AE,AB])
  (N:=N) (by omega) (st:=[x,.int n,.bool b,.int (1:Nat),.int (0:Nat)]) ⟨1,rfl,by omega,by simp⟩
 have hne:(p:Int)≠0:=by omega
 cases b
 ·refine⟨?v1,fun k=>?eq1⟩
  case eq1=>
   rw[WW];unfold Sk;simp only[AR,AX,AB];refine(h _).trans ?_;simp only[AF,AH,AJ,AX,AG,cond_false,AB];exact if_pos hne
 ·refine⟨?v2,fun k=>?eq2⟩
  case eq2=>
   rw[WW];unfold Sk;simp only[AR,AX,AB];refine(h _).trans ?_;simp only[AF,AH,AJ,AX,AG,cond_true,AB];refine(if_pos hne).trans ?_;refine(if_pos hne).trans ?_;exact if_pos hne
theorem iV (s:C) (a:Int) (h0:0<=a) (h1:8*a+8<=(s.toStr.length:Int)) (h2:a<=1000) (hN:100<N):∃v:Int,∀k:KD R,KV N s (.int a) k=k [.int v] []:=by
 obtain⟨n,rfl⟩:=kv h0;have q1:IntKind.i64.wrap (8*(n:Int))=8*n:=wrap_i64 (by omega) (by omega);have q2:IntKind.i64.wrap (8*(n:Int)+8)=8*n+8:=wrap_i64 (by omega) (by omega)
 obtain⟨d,⟨v,rfl⟩,h⟩:=Ga (R:=R) (F:=fun k2=>KU N k2) 8 (fun i st=>∃v:Int,st=[s,.int n,.int v,.int (8*n+i)]) (fun d=>∃v:Int,d=[.int v])
  (fun i st hi hst=>by
   obtain⟨v,rfl⟩:=hst;have e1:8*(n:Int)+i<8*n+8:=by omega
   have e2:0<=8*(n:Int)+i/\8*(n:Int)+i<(s.toStr.length:Int):=by omega
   have e3:IntKind.i64.wrap (8*(n:Int)+i+1)=8*n+((i+1:Nat):Int):=by rw[wrap_i64 (by omega) (by omega)];omega
   by_cases z:97<=IntKind.u64.wrap ((bt s.toStr (8*(n:Int)+i).toNat 0).toNat:Int)
   ·refine⟨_,⟨?x3,rfl⟩,fun k rec=>?eq3⟩
    case eq3=>
     unfold KU;simp only[AR,AF,AH,AJ,AL,AQ,AG,q1,q2,e1,e3,AE,AB];rw[if_pos e2];refine(congrArg (fun b=>cond b _ _) (decide_eq_true z)).trans ?_;rfl
   ·refine⟨_,⟨?x4,rfl⟩,fun k rec=>?eq4⟩
    case eq4=>
     unfold KU;simp only[AR,AF,AH,AJ,AL,AQ,AG,q1,q2,e1,e3,AE,AB];rw[if_pos e2];refine(congrArg (fun b=>cond b _ _) (decide_eq_false z)).trans ?_;rfl)
  (fun st hst=>by
   obtain⟨v,rfl⟩:=hst;refine⟨_,⟨v,rfl⟩,fun k rec=>?_⟩;unfold KU;have e:¬8*(n:Int)+((8:Nat):Int)<8*n+8:=by omega
   simp only[AF,AH,AJ,AL,AG,q1,q2,e,AE,AB])
  (N:=N) (by omega) (st:=[s,.int n,.int 0,.int (8*n+(0:Nat))]) ⟨0,rfl⟩
 refine⟨v,fun k=>?_⟩;rw[cW];unfold WV;simp only[AR,AG,q1,AB];rw[show(8*(n:Int))=8*n+(0:Nat) by omega];exact(h _).trans rfl
theorem Ww (l:List C) (i:Nat) (x:C):cn (.agg l) i x= .agg (l.set i x):=rfl
theorem Z7 (t:C) (h b:List C) (hh:h.length=8) (hb:b.length=64) (ht:(t.get 1).toStr.length=512) (hN:1000<N):∃v:List C,v.length=8/\∀k:KD R,NX N t (.slice h) (.slice b) k=k [.int 8,.agg v] []:=by
 obtain⟨J,⟨w,hw,rfl⟩,h1⟩:=Ga (R:=R) (F:=fun k2=>Jl N k2) 64 (fun i st=>∃w:List C,w.length=i/\st=[.slice h,.slice b,t,.slice w,.int i]) (fun d=>∃w:List C,w.length=64/\d=[.slice h,t,.slice w])
  (fun i st hi hst=>by
   obtain⟨w,hw,rfl⟩:=hst;have e1:(i:Int)<64:=by omega
   have g1:(i+1)*8<=140737488355328/\i+1<=9223372036854775807:=by omega
   by_cases z:(i:Int)<16
   ·have p0:IntKind.i64.wrap (4*(i:Int))=4*i:=wrap_i64 (by omega) (by omega);have p1:IntKind.i64.wrap (4*(i:Int)+1)=4*i+1:=wrap_i64 (by omega) (by omega);have p2:IntKind.i64.wrap (4*(i:Int)+2)=4*i+2:=wrap_i64 (by omega) (by omega);have p3:IntKind.i64.wrap (4*(i:Int)+3)=4*i+3:=wrap_i64 (by omega) (by omega);have c0:0<=4*(i:Int)/\4*(i:Int)<((64:Nat):Int):=by omega
    have c1:0<=4*(i:Int)+1/\4*(i:Int)+1<((64:Nat):Int):=by omega
    have c2:0<=4*(i:Int)+2/\4*(i:Int)+2<((64:Nat):Int):=by omega
    have c3:0<=4*(i:Int)+3/\4*(i:Int)+3<((64:Nat):Int):=by omega
    refine⟨_,⟨w++[?x5],by simp[hw],rfl⟩,fun k rec=>?eq5⟩
    case eq5=>
     unfold Jl;simp only[AR,AF,AH,AJ,AL,AQ,AG,AO,e1,z,p0,p1,p2,p3,hb,c0,c1,c2,c3,hw,g1,AE,and_self,bh,br,cg,cr,bf,Bp (show i<4611686018427387904 by omega),AB];rfl
   ·have p15:IntKind.i64.wrap ((i:Int)-15)=i-15:=wrap_i64 (by omega) (by omega);have p2:IntKind.i64.wrap ((i:Int)-2)=i-2:=wrap_i64 (by omega) (by omega);have p16:IntKind.i64.wrap ((i:Int)-16)=i-16:=wrap_i64 (by omega) (by omega);have p7:IntKind.i64.wrap ((i:Int)-7)=i-7:=wrap_i64 (by omega) (by omega);have c15:0<=(i:Int)-15/\(i:Int)-15<(i:Int):=by omega
    have c2:0<=(i:Int)-2/\(i:Int)-2<(i:Int):=by omega
    have c16:0<=(i:Int)-16/\(i:Int)-16<(i:Int):=by omega
    have c7:0<=(i:Int)-7/\(i:Int)-7<(i:Int):=by omega
    obtain⟨a1,r1⟩:=IX (R:=R) (N:=N) (w.getD ((i:Int)-15).toNat .nil) 7 (by omega) (by omega) true (by omega);obtain⟨a2,r2⟩:=IX (R:=R) (N:=N) (w.getD ((i:Int)-15).toNat .nil) 18 (by omega) (by omega) true (by omega);obtain⟨a3,r3⟩:=IX (R:=R) (N:=N) (w.getD ((i:Int)-15).toNat .nil) 3 (by omega) (by omega) false (by omega);obtain⟨a4,r4⟩:=IX (R:=R) (N:=N) (w.getD ((i:Int)-2).toNat .nil) 17 (by omega) (by omega) true (by omega);obtain⟨a5,r5⟩:=IX (R:=R) (N:=N) (w.getD ((i:Int)-2).toNat .nil) 19 (by omega) (by omega) true (by omega);obtain⟨a6,r6⟩:=IX (R:=R) (N:=N) (w.getD ((i:Int)-2).toNat .nil) 10 (by omega) (by omega) false (by omega);refine⟨_,⟨w++[?x6],by simp[hw],rfl⟩,fun k rec=>?eq6⟩
    case eq6=>
     unfold Jl;simp only[AR,AF,AH,AJ,AL,AQ,AG,AO,e1,z,p15,p2,p16,p7,c15,c2,c16,c7,hw,g1,r1,r2,r3,r4,r5,r6,AE,and_self,bh,br,cg,cr,bf,Bp (show i<4611686018427387904 by omega),AB];rfl)
  (fun st hst=>by
   obtain⟨w,hw,rfl⟩:=hst;refine⟨_,⟨w,hw,rfl⟩,fun k rec=>?_⟩;unfold Jl;have e:¬((64:Nat):Int)<64:=by decide
   simp only[AF,AH,AJ,AL,AQ,AG,AO,e,AE,bh,AB])
  (N:=N) (by omega) (st:=[.slice h,.slice b,t,.slice [],.int (0:Nat)]) ⟨[],rfl,rfl⟩
 obtain⟨I,⟨v,hv,rfl⟩,h2⟩:=Ga (R:=R) (F:=fun k2=>KT N k2) 64 (fun i st=>∃v:List C,v.length=8/\st=[.slice h,t,.int 8,.slice w,.int i,.agg v]) (fun d=>∃v:List C,v.length=8/\d=[.slice h,.int 8,.agg v])
  (fun i st hi hst=>by
   obtain⟨v,hv,rfl⟩:=hst;have e1:(i:Int)<64:=by omega
   have e0:0<=(i:Int)/\(i:Int)<((64:Nat):Int):=by omega
   have e8:av 8=8:=rfl;have q:∀a:Int,64<=a->a<=71->IntKind.i64.wrap (a-(i:Int))=a-i/\0<=bn (a-i) 8/\bn (a-i) 8<((8:Nat):Int):=fun a h1 h2=>⟨wrap_i64 (by omega) (by omega),(JJ _ 8 (by omega) (by omega)).1,(JJ _ 8 (by omega) (by omega)).2⟩;have q64:=q 64 (by omega) (by omega);have q65:=q 65 (by omega) (by omega);have q66:=q 66 (by omega) (by omega);have q67:=q 67 (by omega) (by omega);have q68:=q 68 (by omega) (by omega);have q69:=q 69 (by omega) (by omega);have q70:=q 70 (by omega) (by omega);have q71:=q 71 (by omega) (by omega);clear q;obtain⟨a1,r1⟩:=IX (R:=R) (N:=N) (bj (.agg v) (0+(bn (68-(i:Int)) 8).toNat)) 6 (by omega) (by omega) true (by omega);obtain⟨a2,r2⟩:=IX (R:=R) (N:=N) (bj (.agg v) (0+(bn (68-(i:Int)) 8).toNat)) 11 (by omega) (by omega) true (by omega);obtain⟨a3,r3⟩:=IX (R:=R) (N:=N) (bj (.agg v) (0+(bn (68-(i:Int)) 8).toNat)) 25 (by omega) (by omega) true (by omega);obtain⟨a4,r4⟩:=IX (R:=R) (N:=N) (bj (.agg v) (0+(bn (64-(i:Int)) 8).toNat)) 2 (by omega) (by omega) true (by omega);obtain⟨a5,r5⟩:=IX (R:=R) (N:=N) (bj (.agg v) (0+(bn (64-(i:Int)) 8).toNat)) 13 (by omega) (by omega) true (by omega);obtain⟨a6,r6⟩:=IX (R:=R) (N:=N) (bj (.agg v) (0+(bn (64-(i:Int)) 8).toNat)) 22 (by omega) (by omega) true (by omega);obtain⟨a7,r7⟩:=iV (R:=R) (N:=N) (t.get 1) i (by omega) (by omega) (by omega) (by omega);refine⟨_,⟨List.set (List.set v ?a7 ?b7) ?c7 ?d7,by simp[hv],rfl⟩,fun k rec=>?eq7⟩
   case eq7=>
    unfold KT;simp only[AF,AH,AJ,AL,AQ,Aa,AG,AO,Ab,Ww,e0,e1,e8,q64,q65,q66,q67,q68,q69,q70,q71,hw,hv,r1,r2,r3,r4,r5,r6,r7,AE,and_self,bh,di,Bp (show i<4611686018427387904 by omega),AB];rfl)
  (fun st hst=>by
   obtain⟨v,hv,rfl⟩:=hst;refine⟨_,⟨v,hv,rfl⟩,fun k rec=>?_⟩;unfold KT;have e:¬((64:Nat):Int)<64:=by decide
   simp only[AF,AH,AJ,AL,AQ,Aa,AG,AO,e,AE,AB];rfl)
  (N:=N) (by omega) (st:=[.slice h,t,.int 8,.slice w,.int (0:Nat),.agg h]) ⟨h,hh,rfl⟩
 obtain⟨d3,⟨o,ho,rfl⟩,h3⟩:=Ga (R:=R) (F:=fun k2=>Lp N k2) 8 (fun i st=>∃o:List C,o.length=i/\st=[.slice h,.int 8,.int i,.int i,.agg v,.agg o]) (fun d=>∃o:List C,o.length=8/\d=[.int 8,.agg o])
  (fun i st hi hst=>by
   obtain⟨o,ho,rfl⟩:=hst;have e1:(i:Int)<8:=by omega
   have e8:av 8=8:=rfl;have e2:0<=(i:Int)/\(i:Int)<((8:Nat):Int):=by omega
   have g1:(i+1)*8<=140737488355328/\i+1<=9223372036854775807:=by omega
   have ht:o.take i=o:=ez (by omega);refine⟨_,⟨o++[?x8],by simp[ho],rfl⟩,fun k rec=>?eq8⟩
   case eq8=>
    unfold Lp;simp only[AF,AH,AJ,AL,AQ,Aa,AG,AO,Ab,e1,e2,e8,hh,g1,ht,ho,AE,and_self,bb,br,cg,cr,bf,Bp (show i<4611686018427387904 by omega),AB];rfl)
  (fun st hst=>by
   obtain⟨o,ho,rfl⟩:=hst;refine⟨_,⟨o,ho,rfl⟩,fun k rec=>?_⟩;unfold Lp;have e:¬((8:Nat):Int)<8:=by decide
   simp only[AF,AH,AJ,AL,AQ,Aa,AG,AO,e,AE,AB];rfl)
  (N:=N) (by omega) (st:=[.slice h,.int 8,.int (0:Nat),.int (0:Nat),.agg v,.agg []]) ⟨[],rfl,rfl⟩
 refine⟨o,ho,fun k=>?_⟩;rw[cU];unfold WT;simp only[AR,AB];refine(h1 _).trans ?_;have ne:h.isEmpty=false:=by cases h <;> simp_all
 simp only[AF,AH,AJ,AO,Ab,ne,hh,bh,AE,AB];refine(h2 _).trans ?_;simp only[AF,AH,AJ,AG,if_true,AB];refine(h3 _).trans ?_;simp only[AF,AH,AJ,AG,if_true,AB];rfl
end
section
variable {R:Type} {N:Nat}
def Ku (t:C):Prop:=(t.get 0).toStr.length=64/\(t.get 1).toStr.length=512
theorem o9 (t:C) (ht:Ku t) (p:List C) (hp:p.length<=200000) (hN:300000<N):∃c,Dig c/\∀k:KD R,NW N t (.slice p) k=k [c] []:=by
 have e8:av 8=8:=rfl
 obtain⟨d5,⟨b,hb1,hb2,rfl⟩,h5⟩:=Lb (R:=R) (F:=fun k2=>Ln N k2)
  (fun n st=>∃b:List C,n=(120-b.length%64)%64/\b.length+n<=200100/\st=[.slice p,t,.slice b,AI (.arr 32 (.int .u8))]) (fun d=>∃b:List C,b.length%64=56/\b.length<=200100/\d=[.slice p,t,.slice b,AI (.arr 32 (.int .u8))])
  (fun n st hst=>by
   obtain⟨b,hn,hb,rfl⟩:=hst;have em:bn (b.length:Int) 64=(b.length:Int)%64:=Int.tmod_eq_emod_of_nonneg (by omega);have g1:(b.length+1)*1<=140737488355328/\b.length+1<=9223372036854775807:=by omega
   by_cases z:b.length%64=56
   ·have z':(b.length:Int)%64=56:=by omega
    refine .inr ⟨_,⟨b,z,by omega,rfl⟩,fun k rec=>?_⟩;unfold Ln;simp only[AF,AH,AJ,AL,AO,em,z',AE,bh]
   ·have z':¬(b.length:Int)%64=56:=by omega
    refine .inl ⟨_,n-1,by omega,⟨b++[bc 0],by simp;omega,by simp;omega,rfl⟩,fun k rec=>?_⟩;unfold Ln;simp only[AF,AH,AJ,AL,AO,em,z',g1,AE,bh,and_self,br,cg,cr,bf,AB])
  64 ((120-(p.length+1)%64)%64) [.slice p,t,.slice (p++[bc 128]),AI (.arr 32 (.int .u8))] N (by omega) ⟨p++[bc 128],by simp,by simp;omega,rfl⟩ (by omega)
 obtain⟨d4,⟨e,he,rfl⟩,h4⟩:=Lb (R:=R) (F:=fun k2=>KR N k2)
  (fun n st=>∃(e:List C) (x:Int),e.length=8/\n<=8/\st=[t,.int 0,.int (8:Nat),.int (8:Nat),.slice b,.int x,.int ((n:Int)-1),AI (.arr 32 (.int .u8)),.agg e]) (fun d=>∃e:List C,e.length=8/\d=[t,.int (0:Nat),.int (8:Nat),.int (8:Nat),.slice b,AI (.arr 32 (.int .u8)),.agg e])
  (fun n st hst=>by
   obtain⟨e,x,he,hn,rfl⟩:=hst;by_cases z:n=0
   ·have z':¬0<=(n:Int)-1:=by omega
    refine .inr ⟨_,⟨e,he,rfl⟩,fun k rec=>?_⟩;unfold KR;simp only[AF,AH,AJ,AL,AQ,Aa,Ac,Ah,Ai,AO,AG,z',AE,bh,bb,bu,AB]
   ·have z':0<=(n:Int)-1:=by omega
    have c1:0<=(n:Int)-1/\(n:Int)-1<((8:Nat):Int):=by omega
    have w1:IntKind.i64.wrap ((n:Int)-1-1)=((n-1:Nat):Int)-1:=by rw[wrap_i64 (by omega) (by omega)];omega
    refine .inl ⟨_,n-1,by omega,⟨e.set ?i1 ?v1,?x1,by simp[he],by omega,rfl⟩,fun k rec=>?eq1⟩
    case eq1=>
     unfold KR;simp only[AF,AH,AJ,AL,AQ,Aa,Ac,Ah,Ai,AO,AG,c1,w1,Ww,AE,bh,and_self,bb,AB];rfl)
  8 8 [t,.int 0,.int (8:Nat),.int (8:Nat),.slice b,bc (ar ay (ar ay (p.length:Int)*8)),.int (((8:Nat):Int)-1),AI (.arr 32 (.int .u8)),dc (bp 8 (AI (bm cq)))] N (bx _) ⟨_,_,by simp,bx _,rfl⟩ (by omega)
 have te:eu 8 (List.drop 0 e)=e:=by rw[jf];exact ez (by omega)
 have hbl:(b++e).length%64=0:=by simp;omega
 have hbl2:(b++e).length<=200200:=by simp;omega
 generalize hb3:b++e=b3 at*
 obtain⟨d3,⟨h,hh,rfl⟩,h3⟩:=Ga (R:=R) (F:=fun k2=>Lm N k2) 8
  (fun i st=>∃h:List C,h.length=8/\st=[t,.slice b3,.int (8:Nat),.int i,AI (.arr 32 (.int .u8)),.agg h]) (fun d=>∃h:List C,h.length=8/\d=[t,.slice b3,.int (8:Nat),AI (.arr 32 (.int .u8)),.agg h])
  (fun i st hi hst=>by
   obtain⟨h,hh,rfl⟩:=hst;have e1:(i:Int)<8:=by omega
   have c1:0<=(i:Int)/\(i:Int)<((8:Nat):Int):=by omega
   obtain⟨v,hv⟩:=iV (R:=R) (N:=N) (t.get 0) i (by omega) (by have:=ht.1;omega) (by omega) (by omega);refine⟨_,⟨h.set (0+i) (.int v),by simp[hh],rfl⟩,fun k rec=>?_⟩;unfold Lm;simp only[AF,AH,AJ,AL,AQ,Aa,AO,AG,Ab,e1,c1,hv,Ww,AE,bh,and_self,bb,di,Bp (show i<4611686018427387904 by omega),AB])
  (fun st hst=>by
   obtain⟨h,hh,rfl⟩:=hst;refine⟨_,⟨h,hh,rfl⟩,fun k rec=>?_⟩;unfold Lm;have e:¬((8:Nat):Int)<8:=by decide
   simp only[AF,AH,AJ,AL,AQ,Aa,AO,AG,e,AE,bh,bb,AB])
  (N:=N) (by omega) (st:=[t,.slice b3,.int (8:Nat),.int (0:Nat),AI (.arr 32 (.int .u8)),dc (bp 8 (AI (bm ay)))]) ⟨_,by simp,rfl⟩
 obtain⟨I,⟨v,hv,rfl⟩,h2⟩:=Lb (R:=R) (F:=fun k2=>NV N k2)
  (fun n st=>∃(b h:List C),b.length=n/\n%64=0/\h.length=8/\st=[t,.slice b,.int (8:Nat),AI (.arr 32 (.int .u8)),.agg h]) (fun d=>∃h:List C,h.length=8/\d=[.int (8:Nat),AI (.arr 32 (.int .u8)),.agg h])
  (fun n st hst=>by
   obtain⟨b,h,hb,hn,hh,rfl⟩:=hst;by_cases z:n=0
   ·have z':¬0<(b.length:Int):=by omega
    refine .inr ⟨_,⟨h,hh,rfl⟩,fun k rec=>?_⟩;unfold NV;simp only[AF,AH,AJ,AL,AQ,AO,AG,z',AE,bb,AB]
   ·have z':0<(b.length:Int):=by omega
    have c1:64<=(b.length:Int):=by omega
    have c2:Int.ofNat 0<=0/\Int.ofNat 0<=64/\64<=(b.length:Int):=⟨by decide,by decide,c1⟩;have th:eu 8 (List.drop 0 h)=h:=by rw[jf];exact ez (by omega)
    obtain⟨v,hv,hbl⟩:=Z7 (R:=R) (N:=N) t h (cut b 0 64) hh (by simp[cut];omega) ht.2 (by omega);refine .inl ⟨_,(cut b 64 (b.length:Int)).length,by simp[cut];omega,⟨cut b 64 (b.length:Int),v,rfl,by simp[cut];omega,hv,rfl⟩,fun k rec=>?_⟩;unfold NV;simp only[AF,AH,AJ,AL,AQ,AO,AG,Ab,z',c2,c1,th,hbl,AE,and_self,bb,Int.le_refl,AB];rfl)
  b3.length b3.length [t,.slice b3,.int (8:Nat),AI (.arr 32 (.int .u8)),.agg h] N (bx _) ⟨b3,h,rfl,hbl,hh,rfl⟩ (by omega)
 obtain⟨J,⟨c,hc,rfl⟩,h1⟩:=Lb (R:=R) (F:=fun k2=>Ll N k2)
  (fun n st=>∃(c h:List C),c.length=32/\h.length=8/\n<=32/\st=[.int (8:Nat),.int ((n:Int)-1),AI (.arr 32 (.int .u8)),.agg c,.agg h]) (fun d=>∃c:List C,c.length=32/\d=[AI (.arr 32 (.int .u8)),.agg c])
  (fun n st hst=>by
   obtain⟨c,h,hc,hh,hn,rfl⟩:=hst;by_cases z:n=0
   ·have z':¬0<=(n:Int)-1:=by omega
    refine .inr ⟨_,⟨c,hc,rfl⟩,fun k rec=>?_⟩;unfold Ll;simp only[AF,AH,AJ,AL,AQ,AG,z',AE,AB]
   ·have z':0<=(n:Int)-1:=by omega
    have z2:(n:Int)-1<32:=by omega
    have q:Int.tdiv ((n:Int)-1) 4=((n:Int)-1) / 4:=Int.tdiv_eq_ediv_of_nonneg z';have q2:IntKind.i64.wrap (((n:Int)-1) / 4)=((n:Int)-1) / 4:=wrap_i64 (by omega) (by omega);have c1:0<=((n:Int)-1) / 4/\((n:Int)-1) / 4<((8:Nat):Int):=by omega
    have w1:IntKind.i64.wrap ((n:Int)-1-1)=((n-1:Nat):Int)-1:=by rw[wrap_i64 (by omega) (by omega)];omega
    refine .inl ⟨_,n-1,by omega,⟨c.set ?i2 ?v2,h.set ?j2 ?w2,by simp[hc],by simp[hh],by omega,rfl⟩,fun k rec=>?eq2⟩
    case eq2=>
     unfold Ll;simp only[AF,AH,AJ,AL,AQ,AG,Ab,z',z2,q,q2,c1,w1,Ww,AE,and_self,bb,di,AB];rfl)
  32 32 [.int (8:Nat),.int (((32:Nat):Int)-1),AI (.arr 32 (.int .u8)),AI (.arr 32 (.int .u8)),.agg v] N (bx _) ⟨bp 32 (.int 0),v,by simp,hv,bx _,rfl⟩ (by omega)
 refine⟨.agg c,⟨c,rfl,hc⟩,fun k=>?_⟩;rw[cT];unfold WS;have g1:(p.length+1)*1<=140737488355328/\p.length+1<=9223372036854775807:=by omega
 have g2:(b.length+8)*1<=140737488355328/\b.length+8<=9223372036854775807:=by omega
 simp only[AR,AO,bh,AE,g1,and_self,br,cg,cr,bf,AB];refine(h5 _).trans ?_;simp only[AF,AH,AJ,AL,AO,bh,cond_true,e8];refine(h4 _).trans ?_;simp only[AF,AH,AJ,AL,AQ,Aa,Ac,AO,Ab,AG,bh,AE,bb,te,he,g2,and_self,hb3,br,AB];refine(h3 _).trans ?_;simp only[AF,AH,AJ,AL,AQ,Aa,AO,AG,bh,AE,bb,AB];refine(h2 _).trans ?_;simp only[AF,AH,AJ,AG,bb,if_true,AB];refine(h1 _).trans ?_;rfl
end
section
variable {R:Type} {N:Nat}
def gX (B:Nat) (l:List C):Prop:=∀x∈l,∃y:List C,x= .slice y/\y.length<=B
theorem k8 (a0:C) (l:List C) (B:Nat) (hb:gX B l) (hB:B<=1000000) (hl:l.length<=100) (hN:1000<N):∃o:List C,o.length<=2+l.length*(B+4)/\∀k:KD R,Px N a0 (.slice l) k=k [.slice o] []:=by
 obtain⟨d,⟨o,ho,rfl⟩,h⟩:=Ga (R:=R) (F:=fun k2=>Lq N k2) l.length (fun i st=>∃o:List C,o.length<=2+i*(B+4)/\st=[.slice l,.slice o,.int i]) (fun d=>∃o:List C,o.length<=2+l.length*(B+4)/\d=[.slice o])
  (fun i st hi hst=>by
   obtain⟨o,ho,rfl⟩:=hst;have e1:(i:Int)<(l.length:Int):=by omega
   obtain⟨y,hy,hyl⟩:=hb _ (Eb hi);have m1:i*(B+4)<=100*(B+4):=Nat.mul_le_mul_right _ (by omega);have g1:(o.length+4)*1<=140737488355328/\o.length+4<=9223372036854775807:=by omega
   have g2:(o.length+4+y.length)*1<=140737488355328/\o.length+4+y.length<=9223372036854775807:=by omega
   refine⟨_,⟨o++[?a1,?b1,?c1,?J]++y,by simp[Nat.succ_mul];omega,rfl⟩,fun k rec=>?eq1⟩
   case eq1=>
    unfold Lq;simp only[AF,AH,AJ,AG,AO,e1,hy,g1,g2,AE,bz,and_self,bb,bh,br,cg,cr,bf,Nat.reduceAdd,Bp (show i<4611686018427387904 by omega),AB];rfl)
  (fun st hst=>by
   obtain⟨o,ho,rfl⟩:=hst;refine⟨_,⟨o,ho,rfl⟩,fun k rec=>?_⟩;unfold Lq;simp only[AF,AH,AJ,AG,AO,eg,AE,bh,AB])
  (N:=N) (by omega) (st:=[.slice l,.slice [a0,bc (ar cq (l.length:Int))],.int (0:Nat)]) ⟨_,by simp,rfl⟩
 refine⟨o,ho,fun k=>?_⟩;rw[cV];unfold WU;simp only[AR,AO,AB];refine(h _).trans ?_;simp only[AF,AO,bh,cond_true]
section
variable {t:C} (hOf:∀(p:List C),p.length<=200000->∃c,Dig c/\∀k:KD R,NW N t (.slice p) k=k [c] [])
include hOf
theorem q6v (a0:C) (l:List C) (B:Nat) (hb:gX B l) (hB:B<=1100) (hl:l.length<=100) (hN:1000<N):∃c,Dig c/\∀k:KD R,Pv N t a0 (.slice l) k=k [c] []:=by obtain⟨o,ho,h1⟩:=k8 (R:=R) (N:=N) a0 l B hb (by omega) hl hN;have m1:l.length*(B+4)<=100*1104:=Nat.mul_le_mul hl (by omega);obtain⟨c,hc,h2⟩:=hOf o (by omega);refine⟨c,hc,fun k=>?_⟩;rw[cR];unfold WQ;simp only[h1,AF,AO,h2]
end
end
section
variable {R:Type} {N:Nat}
theorem q8h (t:C) (ht:Ku t) (s:C) (hN:300000<N):∃c,∀k:KD R,Pw N t s k=k [c] []:=by have hOf:=fun p hp=>o9 (R:=R) (N:=N) t ht p hp hN;obtain⟨c,_,h⟩:=q6v (R:=R) (N:=N) hOf (.int 6) [bw (cut (ax s) 0 32)] 100 (fun x hx=>⟨_,fj.1 hx,by simp[cut];omega⟩) (by decide) (by simp) (by omega);refine⟨c,fun k=>?_⟩;rw[cS];unfold WR;simp only[h,AF]
def Yw (x:C) (l:List C):Int:=match Dg (fun(i:Nat) (_:Unit) (d:C)=>if C.beq (bj d 0) x=true then(.inr i:Unit ⊕ Nat)else .inl ()) 0 () l with| .inl _=>-1| .inr i=>(i:Int)
theorem q8f (x:C) (l:List C) (hl:l.length<4611686018427387904) (hN:l.length<N) (a c:C):∃v:Int,∀k:KD R,NY N x a (.slice l) c k=k [.int v] []:=by
 have key:∀(k k2:KD R),(k2=fun _ _=>k [.int (-1)] [])->BR N (KW N (.slice l) k k2) [x,.int (0:Nat)] []=k [.int (Yw x l)] []:=by
  intro k k2 hk2;refine(SC (F:=KW N (.slice l) k k2) (fun i (_:Unit)=>[x,.int i]) (fun _ _=>[]) l (fun(i:Nat) (_:Unit) (d:C)=>if C.beq (bj d 0) x=true then(.inr i:Unit ⊕ Nat)else .inl ()) (fun _=>k [.int (-1)] []) (fun i=>k [.int (i:Nat)] []) (s0:=()) ?_ ?_ hN).trans ?_
  ·intro i _ d hx hi rec;have h1:(i:Int)<(l.length:Int):=by omega
   unfold KW;simp only[AF,AH,AG,AO,h1,FJ hx,bz,and_self,AE,bb,Bp (show i<4611686018427387904 by omega),AB];cases C.beq (bj d 0) x <;> rfl
  ·intro _ rec;unfold KW;simp only[AF,AH,AG,AO,eg,AE,hk2,AB]
  ·unfold Yw;cases Dg (fun(i:Nat) (_:Unit) (d:C)=>if C.beq (bj d 0) x=true then(.inr i:Unit ⊕ Nat)else .inl ()) 0 () l <;> rfl
 refine⟨Yw x l,fun k=>?_⟩;rw[dB];unfold WY;rw[AR];exact key k _ rfl
theorem q8r (s ya tab b1:C) (ht:Ku tab) (l:List C) (hl:l.length<=100000) (hN:300000<N):∃(e:Int) (l':List C),l'.length<=l.length+1/\∀k:KD R,NZ N s ya tab (.slice l) b1 k=k [.int e,tab,.slice l'] []:=by
 obtain⟨c,hc⟩:=q8h (R:=R) (N:=N) tab ht s hN;obtain⟨v,hv⟩:=q8f (R:=R) (N:=N) c l (by omega) (by omega) tab .nil;by_cases h:0<=v;{refine⟨7,l,nh _,fun k=>?_⟩;rw[WZ];unfold Sp;simp only[AR,AG,AX,BG,bb,Ab,AO,eq_self,AE,Ae,BM,Af,BO,BP,and_self,bf,bh,Ay,AF,AH,AJ,AL,AQ,Aa,Ac,Ah,Ai,Aj,Ak,Al,Ao,Ap,Aq,Ar,Au,Av,Aw,Ax,Az,BA,BB,BC,BD,BF,hc,hv,h,AB]}
 ·have g:(l.length+1)*72<=140737488355328/\l.length+1<=9223372036854775807:=by omega
  refine⟨0,l++[cn (cn (cn (dc [dc (bp 32 (bc 0)),dc (bp 32 (bc 0)),bc 0]) 0 c) 1 s) 2 ya],by simp,fun k=>?_⟩;rw[WZ];unfold Sp;simp only[AR,AG,AX,BG,bb,Ab,AO,eq_self,AE,Ae,BM,Af,BO,BP,and_self,bf,bh,Ay,AF,AH,AJ,AL,AQ,Aa,Ac,Ah,Ai,Aj,Ak,Al,Ao,Ap,Aq,Ar,Au,Av,Aw,Ax,Az,BA,BB,BC,BD,BF,hc,hv,h,g,br,cg,cr,AB]
def Ml (s:MS) (n:Nat) (t:C):C:=cn (cn s.has (t.get 1).toInt.toNat (.int (IntKind.u64.wrap ((s.has.get (t.get 1).toInt.toNat).toInt-(t.get 3).toInt)))) ((n:Int)-1).toNat (.int (IntKind.u64.wrap (((cn s.has (t.get 1).toInt.toNat (.int (IntKind.u64.wrap ((s.has.get (t.get 1).toInt.toNat).toInt-(t.get 3).toInt)))).get ((n:Int)-1).toNat).toInt+(t.get 3).toInt)))
theorem q1W (s:MS) (n:Nat) (t:C):(Ml s n t).elems.length=s.has.elems.length:=by unfold Ml;rw[Gg,Gg]
theorem nC {s:MS} (h:Pos s.has) (n:Nat) (t:C):Pos (Ml s n t):=by unfold Ml;exact(h.set (v:=.int _) (Qb _) _).set (v:=.int _) (Qb _) _
theorem q1N {x y:Ent} (h:DL x=DL y):x=y:=by obtain⟨a,b,c⟩:=x;obtain⟨a',b',c'⟩:=y;simp only[DL,C.agg.injEq,nf,C.int.injEq,and_true]at h;obtain⟨rfl,rfl,rfl⟩:=h;rfl
theorem q4f {l m:List Ent} (h:l.map DL=m.map DL):l=m:=by
 induction l generalizing m with
 |nil=>cases m <;> first|rfl|cases h
 |cons x l ih=>
  cases m with
  |nil=>cases h
  |cons y m=>
   simp only[dt,nf]at h;rw[q1N h.1,ih h.2]
def MDo (s:MS) (n:Nat) (t:C) (s':MS):Prop:=∀l:List Ent,MM n t->s.lst=l.map DL->Pos s.has->s.ya= .int s.ya.toInt->GB s.tab->l.length<=1000->
 s'.yd=(FM n s.ya.toInt (s.yd,l) t).1/\s'.lst=(FM n s.ya.toInt (s.yd,l) t).2.map DL/\Pos s'.has
theorem q4o {s:MS} (hs:s.lst.length<=100000) (z8Q:Ku s.tab) {n:Nat} (hn:n<4611686018427387904) {t:C} (ht:TxM n t) (hN:300000<N):∃(e:Int) (s':MS),MFr s s'/\MDo s n t s'/\∀k:KD R,St N t s.least s.ya (.int s.yc.length) (.int s.yb.length) (.int s.evs.length) (.int n) (.int n) s.kept s.has s.yd s.tab (.slice s.lst) (.agg s.yc) (.agg s.yb) (.agg s.evs) k=
  k (s'.out n e s.JJ) []:=by
 have f0:=ht.z8G;have f1:=ht.z8H;have r:0<=(t.get 1).toInt/\(t.get 1).toInt<(n:Int):=by omega
 have rl:0<=(n:Int)-1/\(n:Int)-1<(n:Int):=by omega
 by_cases h1:(s.has.get (t.get 1).toInt.toNat).toInt<(t.get 3).toInt;{refine⟨23,s,.refl s,(fun l ho _ hp _ _ _=>by have:=hp (t.get 1).toInt.toNat;have:=ho.fee;omega),fun k=>?_⟩;rw[Su];unfold QB;simp only[AR,AG,AX,BG,bb,Ab,AO,eq_self,AE,Ae,BM,Af,BO,BP,and_self,bf,bh,Ay,AF,AH,AJ,AL,AQ,Aa,Ac,Ah,Ai,Aj,Ak,Al,Ao,Ap,Aq,Ar,Au,Av,Aw,Ax,Az,BA,BB,BC,BD,BF,r,h1,AB];rfl};by_cases h2:(Ew n (t.get 1) (t.get 2) s.yd).1=0
 case neg=>
  refine⟨(Ew n (t.get 1) (t.get 2) s.yd).1,s.JI s.kept s.has (Ew n (t.get 1) (t.get 2) s.yd).2,⟨rfl,rfl,rfl,rfl,rfl,id,nh _⟩,(fun l ho hl hp _ _ _=>by unfold FM;dsimp only;rw[if_neg h2];exact⟨rfl,hl,hp⟩),fun k=>?_⟩;rw[Su];unfold QB;simp only[AR,AG,AX,BG,bb,Ab,AO,eq_self,AE,Ae,BM,Af,BO,BP,and_self,bf,bh,Ay,AF,AH,AJ,AL,AQ,Aa,Ac,Ah,Ai,Aj,Ak,Al,Ao,Ap,Aq,Ar,Au,Av,Aw,Ax,Az,BA,BB,BC,BD,BF,r,h1,eB,h2,AB];rfl
 have hfl:=q1W s n t;rcases ht.FK.kind with hk|hk
 ·obtain⟨e,l',hl,hbk,hq⟩:∃(e:Int) (l':List C),l'.length<=s.lst.length+1/\(∀l:List Ent,s.lst=l.map DL->FT 32 (t.get 7)->s.ya= .int s.ya.toInt->GB s.tab->l.length<=1000->l'=(JH s.ya.toInt t l).map DL)/\∀k:KD R,NZ N (t.get 7) s.ya s.tab (.slice s.lst) .nil k=k [.int e,s.tab,.slice l'] []:=by by_cases g:∃l:List Ent,s.lst=l.map DL/\FT 32 (t.get 7)/\s.ya= .int s.ya.toInt/\GB s.tab/\l.length<=1000;{obtain⟨l,g1,g2,g3,g4,g5⟩:=g;refine⟨_,(Jo l (t.get 7) s.ya.toInt).2.map DL,?_,fun l' h1' _ _ _ _=>?_,fun k=>by rw[g1];exact q8q (t.get 7) g2 s.ya g3 s.tab g4 l g5 (by omega) .nil k⟩;{rw[g1,fg,fg];exact yZ l _ _};{have:l'=l:=q4f (h1'.symm.trans g1);subst this;unfold JH;rw[if_pos hk]}};{obtain⟨e,l',hl,hq⟩:=q8r (R:=R) (N:=N) (t.get 7) s.ya s.tab .nil z8Q s.lst hs hN;exact⟨e,l',hl,fun l h1 h2 h3 h4 h5=>absurd ⟨l,h1,h2,h3,h4,h5⟩ g,hq⟩}
  refine⟨e,{(s.JI s.kept (Ml s n t) (Ew n (t.get 1) (t.get 2) s.yd).2)with lst:=l'},⟨rfl,rfl,rfl,rfl,rfl,id,hl⟩,(fun l ho hl hp hh hT hn=>by unfold FM;dsimp only;rw[if_pos h2];exact⟨rfl,hbk l hl ho.sec hh hT hn,nC hp n t⟩),fun k=>?_⟩;rw[Su];unfold QB;simp only[AR,AG,AX,BG,bb,Ab,AO,eq_self,AE,Ae,BM,Af,BO,BP,and_self,bf,bh,Ay,AF,AH,AJ,AL,AQ,Aa,Ac,Ah,Ai,Aj,Ak,Al,Ao,Ap,Aq,Ar,Au,Av,Aw,Ax,Az,BA,BB,BC,BD,BF,r,rl,h1,eB,h2,Hz hn,hk,hq,Gg,show ¬(1:Int)=0 by decide,AB];rfl
 ·obtain⟨e,s',hf,hop,hq⟩:=q41 (R:=R) (N:=N) (s:=s.JI s.kept (Ml s n t) (Ew n (t.get 1) (t.get 2) s.yd).2) hn ht.FK ht.am;have hq':∀k:KD R,QD N t s.least s.ya (.int s.yc.length) (.int s.yb.length) (.int s.evs.length) (.int n) (.int n) s.kept (Ml s n t) (Ew n (t.get 1) (t.get 2) s.yd).2 s.tab (.slice s.lst) (.agg s.yc) (.agg s.yb) (.agg s.evs) k=_:=hq;refine⟨e,s',⟨hf.tab,hf.least,hf.ya,hf.yb,hf.evs,hf.n,hf.l⟩,(fun l ho hl hp hh hT hn=>by unfold FM JH;dsimp only;rw[if_pos h2,if_neg (by omega)];exact⟨hop.non,hop.l.trans hl,hop.pos (nC hp n t)⟩),fun k=>?_⟩;rw[Su];unfold QB;simp only[AR,AG,AX,BG,bb,Ab,AO,eq_self,AE,Ae,BM,Af,BO,BP,and_self,bf,bh,Ay,AF,AH,AJ,AL,AQ,Aa,Ac,Ah,Ai,Aj,Ak,Al,Ao,Ap,Aq,Ar,Au,Av,Aw,Ax,Az,BA,BB,BC,BD,BF,r,rl,h1,eB,h2,Hz hn,hk,Gg,show ¬(2:Int)=0 by decide,show ¬(2:Int)=1 by decide,AB];refine(hq' _).trans ?_;simp only[AR,AG,AX,BG,bb,Ab,AO,eq_self,AE,Ae,BM,Af,BO,BP,and_self,bf,bh,Ay,AF,AH,AJ,AL,AQ,Aa,Ac,Ah,Ai,Aj,Ak,Al,Ao,Ap,Aq,Ar,Au,Av,Aw,Ax,Az,BA,BB,BC,BD,BF,MS.out,MS.JJ,jL,AB]
  rfl
end
def q7v:List Sh:=[.as (.ptr (.g (.l 1)) [] Ba),.d (.slice 8 (.int .i64))]
def q7x:List (Key × OSh):=[(.l 1,.box (.agg Ba [.as (.ptr (.g (.l 2)) [] BN),.as (.ptr (.g (.l 5)) [] Bc),.d (.int .u64),.d (.int .u64),.vec (.g (.l 7)) 240 AV,.vec (.g (.l 8)) 2368 tTx,.vec (.g (.l 9)) 40 AW])),(.l 2,.box (.agg BN [.vec (.g (.l 3)) 8 (.int .u64),.vec (.g (.l 4)) 8 (.int .u64),.d (.int .u64)])),(.l 3,.box (.arr (.int .u64))),(.l 4,.box (.arr (.int .u64))),(.l 5,.box (.agg Bc [.d Bf,.ts 72 Bw])),(.l 7,.box (.arr AV)),(.l 8,.box (.arr tTx)),(.l 9,.box (.arr AW))]
def KX {R:Type} (N:Nat) (J:List C) (k2:KD R):KD R->KD R:=fun k3 d4 m4=>(bif decide (aq (U d4 5)<(↑(av (aq (U d4 9))):Int))then(gB (aq (U d4 5)) ((↑(av (aq (U d4 1))):Int)) (jn (fun d5 m5=>(gN (au (ax (U d5 4))) (gA (U d5 14) (gA (U d5 15) (gA (U d5 18) (gA (U d5 19) (gA (U d5 20) (if ca (av (↑(av (aq (U J 4))):Int)) dq=ca (av (↑(av (aq (U J 4))):Int)) dq then(gA (U d5 47) (k3 [nI (U d5 0),nI (U d5 1),nI (U d5 2),bw (ax (U d5 4)),nI (U d5 5),bc (ar ba (aq (U d5 3)+1)),U d5 6,U d5 7,nI (U d5 8),nI (U d5 9),nI (U d5 10),nI (U d5 11),nI (U d5 12),U d5 13,U d5 14,U d5 15,U d5 16,bw (ax (U d5 17)),U d5 18,U d5 19,U d5 20,U d5 21,nI (U d5 22),nI (U d5 23),nI (U d5 24),nI (U d5 25),nI (U d5 26),nI (U d5 22),nI (U d5 23),nI (U d5 24),nI (U d5 25),nI (U d5 26),nI (U d5 22),nI (U d5 23),nI (U d5 24),nI (U d5 25),nI (U d5 26),nI (U d5 22),nI (U d5 23),nI (U d5 24),nI (U d5 25),nI (U d5 26),U d5 47] []))else none)))))))) (fun k4=>(bif !C.toBool (bj (U d4 21) (av (aq (U d4 0))+av (aq (U d4 5))))then(gB (aq (U d4 5)) ((↑(av (aq (U d4 9))):Int)) (gL (av (aq (U d4 4))) 2368 (gN (au (ax (U d4 3))) (gA (U d4 14) (gA (U d4 15) (gA (U d4 18) (gA (U d4 19) (gA (U d4 20) (if ca (av (↑(av (aq (U J 4))):Int)) dq=ca (av (↑(av (aq (U J 4))):Int)) dq then(if av (aq (U d4 4))+1=au (eu (av (aq (U d4 4))) (ax (U d4 42))++[bj (U d4 19) (0+av (aq (U d4 5)))])then(k4 [nI (U d4 0),nI (U d4 1),nI (U d4 2),U d4 5,bw (ax (U d4 3)),bc (↑(av (aq (U d4 4))+1):Int),U d4 6,U d4 7,nI (U d4 8),nI (U d4 9),nI (U d4 10),nI (U d4 11),nI (U d4 12),U d4 13,U d4 14,U d4 15,U d4 16,bw (ax (U d4 17)),U d4 18,U d4 19,U d4 20,U d4 21,nI (U d4 22),nI (U d4 23),nI (U d4 24),nI (U d4 25),nI (U d4 26),nI (U d4 22),nI (U d4 23),nI (U d4 24),nI (U d4 25),nI (U d4 26),nI (U d4 22),nI (U d4 23),nI (U d4 24),nI (U d4 25),nI (U d4 26),nI (U d4 22),nI (U d4 23),nI (U d4 24),nI (U d4 25),nI (U d4 26),nI (U d4 22),nI (U d4 23),nI (U d4 24),nI (U d4 25),nI (U d4 26),dc (eu (av (aq (U d4 4))) (ax (U d4 42))++[bj (U d4 19) (0+av (aq (U d4 5)))])] [])else none)else none)))))))))else(gN (au (ax (U d4 3))) (gA (U d4 14) (gA (U d4 15) (gA (U d4 18) (gA (U d4 19) (gA (U d4 20) (if ca (av (↑(av (aq (U J 4))):Int)) dq=ca (av (↑(av (aq (U J 4))):Int)) dq then(gA (U d4 42) (k4 [nI (U d4 0),nI (U d4 1),nI (U d4 2),U d4 5,bw (ax (U d4 3)),nI (U d4 4),U d4 6,U d4 7,nI (U d4 8),nI (U d4 9),nI (U d4 10),nI (U d4 11),nI (U d4 12),U d4 13,U d4 14,U d4 15,U d4 16,bw (ax (U d4 17)),U d4 18,U d4 19,U d4 20,U d4 21,nI (U d4 22),nI (U d4 23),nI (U d4 24),nI (U d4 25),nI (U d4 26),nI (U d4 22),nI (U d4 23),nI (U d4 24),nI (U d4 25),nI (U d4 26),nI (U d4 22),nI (U d4 23),nI (U d4 24),nI (U d4 25),nI (U d4 26),nI (U d4 22),nI (U d4 23),nI (U d4 24),nI (U d4 25),nI (U d4 26),nI (U d4 22),nI (U d4 23),nI (U d4 24),nI (U d4 25),nI (U d4 26),U d4 42] []))else none)))))))))))else(gN (au (ax (U d4 3))) (gA (U d4 14) (gA (U d4 15) (gA (U d4 18) (gA (U d4 19) (gA (U d4 20) (gA (U d4 42) (k2 [bw (ax (U d4 3)),nI (U d4 4),U d4 6,U d4 7,nI (U d4 8),nI (U d4 9),nI (U d4 10),nI (U d4 11),nI (U d4 12),U d4 13,U d4 14,U d4 15,U d4 16,bw (ax (U d4 17)),U d4 18,U d4 19,U d4 20,nI (U d4 22),nI (U d4 23),nI (U d4 24),nI (U d4 25),nI (U d4 26),nI (U d4 22),nI (U d4 23),nI (U d4 24),nI (U d4 25),nI (U d4 26),nI (U d4 22),nI (U d4 23),nI (U d4 24),nI (U d4 25),nI (U d4 26),nI (U d4 22),nI (U d4 23),nI (U d4 24),nI (U d4 25),nI (U d4 26),U d4 42] [])))))))))
def Na (J:List C) (k2:KD R):KD R->KD R:=fun k3 I m2=>(bif decide (aq (U I 5)<(↑(au (ax (U I 0))):Int))then(gB (aq (U I 5)) ((↑(au (ax (U I 0))):Int)) (gB (aq (bt (ax (U I 0)) (av (aq (U I 5))) dj)) ((↑(av (aq (U I 9))):Int)) (gB (aq (U I 5)) ((↑(au (ax (U I 0))):Int)) (gB (aq (bt (ax (U I 0)) (av (aq (U I 5))) dj)) ((↑(av (aq (U I 2))):Int)) (gA (U I 14) (gA (U I 15) (gA (U I 18) (gA (U I 19) (gA (U I 20) (St N (bj (U I 19) (0+av (aq (bt (ax (U I 0)) (av (aq (U I 5))) dj)))) (U I 6) (U I 7) (nI (U I 8)) (nI (U I 9)) (nI (U I 10)) (nI (U I 11)) (nI (U I 12)) (U I 13) (U I 14) (U I 15) (U I 16) (bw (ax (U I 17))) (U I 18) (U I 19) (U I 20) (fun d3 m3=>(gN (au (ax (U I 4))) (gL (au (ax (U I 4))) 8 (gL (av (aq (U d3 7))) 40 (bif Nat.beq (au (ax (U I 4))+1) (au (ax (U I 4)++[U d3 0]))then(gA (U d3 12) (gA (U d3 14) (gA (U d3 16) (gA (U d3 18) (if av (aq (U d3 7))+1=au (eu (av (aq (U d3 7))) (ax (U d3 20))++[cn (cn (cn (cn (cn (dc [bc 0,bc 0,bc 0,bc 0,bc 0]) 0 (U d3 4)) 1 (bj (bj (U I 19) (0+av (aq (bt (ax (U I 0)) (av (aq (U I 5))) dj)))) 0)) 2 (bj (bj (U I 19) (0+av (aq (bt (ax (U I 0)) (av (aq (U I 5))) dj)))) 1)) 3 (bj (bj (U I 19) (0+av (aq (bt (ax (U I 0)) (av (aq (U I 5))) dj)))) 6)) 4 (U d3 0)])then(if ca (av (↑(av (aq (U J 4))):Int)) dq=ca (av (↑(av (aq (U J 4))):Int)) dq then(k3 [U I 0,nI (U I 1),nI (U I 2),nI (U I 3),bw (ax (U I 4)++[U d3 0]),bc (ar ba (aq (U I 5)+1)),U d3 3,U d3 4,nI (U d3 5),nI (U d3 6),bc (↑(av (aq (U d3 7))+1):Int),nI (U d3 8),nI (U d3 9),U d3 10,U d3 12,U d3 14,U d3 1,bw (ax (U d3 2)),U d3 16,U d3 18,dc (eu (av (aq (U d3 7))) (ax (U d3 20))++[cn (cn (cn (cn (cn (dc [bc 0,bc 0,bc 0,bc 0,bc 0]) 0 (U d3 4)) 1 (bj (bj (U I 19) (0+av (aq (bt (ax (U I 0)) (av (aq (U I 5))) dj)))) 0)) 2 (bj (bj (U I 19) (0+av (aq (bt (ax (U I 0)) (av (aq (U I 5))) dj)))) 1)) 3 (bj (bj (U I 19) (0+av (aq (bt (ax (U I 0)) (av (aq (U I 5))) dj)))) 6)) 4 (U d3 0)]),cn (U I 21) (av (aq (U I 1))+av (aq (bt (ax (U I 0)) (av (aq (U I 5))) dj))) (C.bool true),nI (U I 22),nI (U I 23),nI (U I 24),nI (U I 25),nI (U I 26),nI (U I 22),nI (U I 23),nI (U I 24),nI (U I 25),nI (U I 26)] [])else none)else none)))))else none)))))))))))))))else(gN (au (ax (U I 4))) (gA (U I 14) (gA (U I 15) (gA (U I 18) (gA (U I 19) (gA (U I 20) (if ca (av (↑(av (aq (U J 4))):Int)) dq=ca (av (↑(av (aq (U J 4))):Int)) dq then(k2 [nI (U I 1),nI (U I 2),nI (U I 3),bw (ax (U I 4)),U I 6,U I 7,nI (U I 8),nI (U I 9),nI (U I 10),nI (U I 11),nI (U I 12),U I 13,U I 14,U I 15,U I 16,bw (ax (U I 17)),U I 18,U I 19,U I 20,U I 21,nI (U I 22),nI (U I 23),nI (U I 24),nI (U I 25),nI (U I 26),nI (U I 22),nI (U I 23),nI (U I 24),nI (U I 25),nI (U I 26)] [])else none))))))))
def Sr {R:Type} (N:Nat) (k1:KD R) (k4:KD R):KD R->KD R:=fun k5 d3 m3=>(bif decide (aq (U d3 2)<aq (U d3 1))then(gB (aq (U d3 2)) ((↑(au (ax (U d3 0))):Int)) (gB (aq (U d3 1)) ((↑(au (ax (U d3 0))):Int)) (bif decide (aq (bt (ax (U d3 0)) (av (aq (U d3 2))) dj)=aq (bt (ax (U d3 0)) (av (aq (U d3 1))) dj))then(gA (U d3 11) (gA (U d3 12) (gA (U d3 15) (gA (U d3 16) (gA (U d3 17) (k1 [bw [],bc 1,U d3 13,bw (ax (U d3 14)),U d3 3,U d3 4,nI (U d3 5),nI (U d3 6),nI (U d3 7),nI (U d3 8),nI (U d3 9),U d3 10,nI (U d3 18),U d3 11,nI (U d3 19),U d3 12,nI (U d3 20),U d3 15,nI (U d3 21),U d3 16,nI (U d3 22),U d3 17] []))))))else(gA (U d3 11) (gA (U d3 12) (gA (U d3 15) (gA (U d3 16) (gA (U d3 17) (k5 [U d3 0,U d3 1,bc (ar ba (aq (U d3 2)+1)),U d3 3,U d3 4,nI (U d3 5),nI (U d3 6),nI (U d3 7),nI (U d3 8),nI (U d3 9),U d3 10,U d3 11,U d3 12,U d3 13,bw (ax (U d3 14)),U d3 15,U d3 16,U d3 17,nI (U d3 18),nI (U d3 19),nI (U d3 20),nI (U d3 21),nI (U d3 22),nI (U d3 18),nI (U d3 19),nI (U d3 20),nI (U d3 21),nI (U d3 22),nI (U d3 18),nI (U d3 19),nI (U d3 20),nI (U d3 21),nI (U d3 22)] [])))))))))else(gA (U d3 11) (gA (U d3 12) (gA (U d3 15) (gA (U d3 16) (gA (U d3 17) (k4 [U d3 0,U d3 1,U d3 3,U d3 4,nI (U d3 5),nI (U d3 6),nI (U d3 7),nI (U d3 8),nI (U d3 9),U d3 10,U d3 11,U d3 12,U d3 13,bw (ax (U d3 14)),U d3 15,U d3 16,U d3 17,nI (U d3 18),nI (U d3 19),nI (U d3 20),nI (U d3 21),nI (U d3 22),nI (U d3 18),nI (U d3 19),nI (U d3 20),nI (U d3 21),nI (U d3 22),nI (U d3 18),nI (U d3 19),nI (U d3 20),nI (U d3 21),nI (U d3 22)] [])))))))
def Ss (k1:KD R) (k2:KD R):KD R->KD R:=fun k3 J m1=>(bif decide (aq (U J 1)<(↑(au (ax (U J 0))):Int))then(jn (fun I m2=>(bif C.toBool (U I 2)then(gA (U I 11) (gA (U I 12) (gA (U I 15) (gA (U I 16) (gA (U I 17) (k1 [bw [],bc 1,U I 13,bw (ax (U I 14)),U I 3,U I 4,nI (U I 5),nI (U I 6),nI (U I 7),nI (U I 8),nI (U I 9),U I 10,nI (U I 18),U I 11,nI (U I 19),U I 12,nI (U I 20),U I 15,nI (U I 21),U I 16,nI (U I 22),U I 17] []))))))else(jn (fun d3 m3=>(gA (U d3 10) (gA (U d3 11) (gA (U d3 14) (gA (U d3 15) (gA (U d3 16) (k3 [U d3 0,bc (ar ba (aq (U d3 1)+1)),U d3 2,U d3 3,nI (U d3 4),nI (U d3 5),nI (U d3 6),nI (U d3 7),nI (U d3 8),U d3 9,nI (U d3 17),U d3 10,nI (U d3 18),U d3 11,U d3 12,bw (ax (U d3 13)),nI (U d3 19),U d3 14,nI (U d3 20),U d3 15,nI (U d3 21),U d3 16] []))))))) (fun k4=>(gA (U I 11) (gA (U I 12) (gA (U I 15) (gA (U I 16) (gA (U I 17) (BR N (Sr N k1 k4) [U I 0,U I 1,bc 0,U I 3,U I 4,nI (U I 5),nI (U I 6),nI (U I 7),nI (U I 8),nI (U I 9),U I 10,U I 11,U I 12,U I 13,bw (ax (U I 14)),U I 15,U I 16,U I 17,nI (U I 18),nI (U I 19),nI (U I 20),nI (U I 21),nI (U I 22),nI (U I 18),nI (U I 19),nI (U I 20),nI (U I 21),nI (U I 22),nI (U I 18),nI (U I 19),nI (U I 20),nI (U I 21),nI (U I 22)] [])))))))))) (fun k4=>(gB (aq (U J 1)) ((↑(au (ax (U J 0))):Int)) (bif decide (aq (bt (ax (U J 0)) (av (aq (U J 1))) dj)<0)then(gA (U J 11) (gA (U J 13) (gA (U J 17) (gA (U J 19) (gA (U J 21) (k4 [U J 0,U J 1,C.bool true,U J 2,U J 3,nI (U J 4),nI (U J 5),nI (U J 6),nI (U J 7),nI (U J 8),U J 9,U J 11,U J 13,U J 14,bw (ax (U J 15)),U J 17,U J 19,U J 21,nI (U J 10),nI (U J 12),nI (U J 16),nI (U J 18),nI (U J 20),nI (U J 10),nI (U J 12),nI (U J 16),nI (U J 18),nI (U J 20)] []))))))else(gB (aq (U J 1)) ((↑(au (ax (U J 0))):Int)) (gA (U J 11) (gA (U J 13) (gA (U J 17) (gA (U J 19) (gA (U J 21) (k4 [U J 0,U J 1,C.bool (decide ((↑(av (aq (U J 5))):Int)<=aq (bt (ax (U J 0)) (av (aq (U J 1))) dj))),U J 2,U J 3,nI (U J 4),nI (U J 5),nI (U J 6),nI (U J 7),nI (U J 8),U J 9,U J 11,U J 13,U J 14,bw (ax (U J 15)),U J 17,U J 19,U J 21,nI (U J 10),nI (U J 12),nI (U J 16),nI (U J 18),nI (U J 20),nI (U J 10),nI (U J 12),nI (U J 16),nI (U J 18),nI (U J 20)] [])))))))))))else(gA (U J 11) (gA (U J 13) (gA (U J 17) (gA (U J 19) (gA (U J 21) (k2 [U J 0,U J 2,U J 3,nI (U J 4),nI (U J 5),nI (U J 6),nI (U J 7),nI (U J 8),U J 9,nI (U J 10),U J 11,nI (U J 12),U J 13,U J 14,bw (ax (U J 15)),nI (U J 16),U J 17,nI (U J 18),U J 19,nI (U J 20),U J 21] [])))))))
def dH (a0 b0 b1 b2 b3 b4 b5 b6 b7 b8 b9 b10 b11 b12 b13 b14:C) (k1:KD R):Option R:=jn (fun J m1=>(if 0<=(↑(av (aq (U J 4))):Int)/\(↑(av (aq (U J 4))):Int)<=(↑(av (aq (U J 4))):Int)/\(↑(av (aq (U J 4))):Int)<=9223372036854775807/\av (↑(av (aq (U J 4))):Int)*1<=140737488355328 then(jn (fun I m2=>(jn (fun d3 m3=>(jn (fun d4 m4=>(gN (au (ax (U d4 0))) (gA (U d4 10) (gA (U d4 11) (gA (U d4 14) (gA (U d4 37) (gA (U d4 16) (k1 [bw (ax (U d4 0)),bc 0,U d4 12,bw (ax (U d4 13)),U d4 2,U d4 3,nI (U d4 4),nI (U d4 1),nI (U d4 6),nI (U d4 7),nI (U d4 8),U d4 9,nI (U d4 17),U d4 10,nI (U d4 18),U d4 11,nI (U d4 19),U d4 14,nI (U d4 20),U d4 37,nI (U d4 21),U d4 16] [])))))))) (fun k2=>(gN (au (ax (U d3 3))) (gA (U d3 12) (gA (U d3 13) (gA (U d3 16) (gA (U d3 17) (gA (U d3 18) (if ca (av (↑(av (aq (U J 4))):Int)) dq=ca (av (↑(av (aq (U J 4))):Int)) dq then(BR N (KX N J k2) [nI (U d3 0),nI (U d3 1),nI (U d3 2),bw (ax (U d3 3)),bc 0,bc 0,U d3 4,U d3 5,nI (U d3 6),nI (U d3 7),nI (U d3 8),nI (U d3 9),nI (U d3 10),U d3 11,U d3 12,U d3 13,U d3 14,bw (ax (U d3 15)),U d3 16,U d3 17,U d3 18,U d3 19,nI (U d3 20),nI (U d3 21),nI (U d3 22),nI (U d3 23),nI (U d3 24),nI (U d3 20),nI (U d3 21),nI (U d3 22),nI (U d3 23),nI (U d3 24),nI (U d3 20),nI (U d3 21),nI (U d3 22),nI (U d3 23),nI (U d3 24),nI (U d3 20),nI (U d3 21),nI (U d3 22),nI (U d3 23),nI (U d3 24),dc []] [])else none)))))))))) (fun k2=>(bif decide (1024<(↑(av (aq (U I 8))):Int))then(if 0<=ar ba ((↑(av (aq (U I 8))):Int)-1024)/\ar ba ((↑(av (aq (U I 8))):Int)-1024)<=(↑(av (aq (U I 8))):Int)/\(↑(av (aq (U I 8))):Int)<=(↑(av (aq (U I 8))):Int)then(gN (au (ax (U I 3))) (if ch 1000000000298=ch 1000000000298/\([]:List Nat)=[]/\0+av (ar ba ((↑(av (aq (U I 8))):Int)-1024))=0/\true=true/\40=40/\AW=AW then(gA (U I 12) (gA (U I 13) (gA (U I 16) (gA (U I 17) (gA (U I 18) (if ca (av (↑(av (aq (U J 4))):Int)) dq=ca (av (↑(av (aq (U J 4))):Int)) dq then(k2 [nI (U I 0),nI (U I 1),nI (U I 2),bw (ax (U I 3)),U I 4,U I 5,nI (U I 6),nI (U I 7),bc (↑(av ((↑(av (aq (U I 8))):Int)-ar ba ((↑(av (aq (U I 8))):Int)-1024))):Int),nI (U I 9),nI (U I 10),U I 11,U I 12,U I 13,U I 14,bw (ax (U I 15)),U I 16,U I 17,U I 18,U I 19,nI (U I 20),nI (U I 21),nI (U I 22),nI (U I 23),nI (U I 24),nI (U I 20),nI (U I 21),nI (U I 22),nI (U I 23),nI (U I 24),nI (U I 20),nI (U I 21),nI (U I 22),nI (U I 23),nI (U I 24)] [])else none))))))else none))else none)else(gN (au (ax (U I 3))) (gA (U I 12) (gA (U I 13) (gA (U I 16) (gA (U I 17) (gA (U I 18) (if ca (av (↑(av (aq (U J 4))):Int)) dq=ca (av (↑(av (aq (U J 4))):Int)) dq then(k2 [nI (U I 0),nI (U I 1),nI (U I 2),bw (ax (U I 3)),U I 4,U I 5,nI (U I 6),nI (U I 7),nI (U I 8),nI (U I 9),nI (U I 10),U I 11,U I 12,U I 13,U I 14,bw (ax (U I 15)),U I 16,U I 17,U I 18,U I 19,nI (U I 20),nI (U I 21),nI (U I 22),nI (U I 23),nI (U I 24),nI (U I 20),nI (U I 21),nI (U I 22),nI (U I 23),nI (U I 24),nI (U I 20),nI (U I 21),nI (U I 22),nI (U I 23),nI (U I 24)] [])else none))))))))))) (fun k2=>(gA (U J 10) (gA (U J 12) (gA (U J 16) (gA (U J 18) (gA (U J 20) (if ca (av (↑(av (aq (U J 4))):Int)) dq=ca (av (↑(av (aq (U J 4))):Int)) dq then(BR N (Na N J k2) [U J 0,bc 0,bc (↑(av (↑(av (aq (U J 4))):Int)):Int),bc (↑(av (↑(av (aq (U J 4))):Int)):Int),bw [],bc 0,U J 1,bc (ar ay (aq (U J 2)+1)),nI (U J 3),nI (U J 4),nI (U J 5),nI (U J 6),nI (U J 7),U J 8,U J 10,U J 12,U J 13,bw (ax (U J 14)),U J 16,U J 18,U J 20,dc (bp (av (↑(av (aq (U J 4))):Int)) (AI dq)),nI (U J 9),nI (U J 11),nI (U J 15),nI (U J 17),nI (U J 19),nI (U J 9),nI (U J 11),nI (U J 15),nI (U J 17),nI (U J 19)] [])else none))))))))else none)) (fun k2=>(gA b8 (gA b9 (gA b12 (gA b13 (gA b14 (BR N (Ss N k1 k2) [a0,bc 0,b0,b1,nI b2,nI b3,nI b4,nI b5,nI b6,b7,bc (↑(au (ax b8)):Int),b8,bc (↑(au (ax b9)):Int),b9,b10,bw (ax b11),bc (↑(au (ax b12)):Int),b12,bc (↑(au (ax b13)):Int),b13,bc (↑(au (ax b14)):Int),b14] [])))))))
def QA:=lid "" (@dH R N)
theorem wF {R N a0 b0 b1 b2 b3 b4 b5 b6 b7 b8 b9 b10 b11 b12 b13 b14 k}:@QA R N a0 b0 b1 b2 b3 b4 b5 b6 b7 b8 b9 b10 b11 b12 b13 b14 k=dH N a0 b0 b1 b2 b3 b4 b5 b6 b7 b8 b9 b10 b11 b12 b13 b14 k:=by unfold QA;rw[BQ]
def wD:OvG R:=Cu q7v q7x (fun ds ms=>QA N (U ds 0) (U ds 1) (U ds 2) (U ds 3) (U ds 4) (U ds 5) (U ds 6) (U ds 7) (U ds 8) (U ds 9) (U ds 10) (U ds 11) (U ds 12) (U ds 13) (U ds 14) (U ds 15)) fun ds ms K J m1=>K (V.tup [V.ts 8 (bm ba) (ax (U J 0)),V.d (bm ba) (U J 1)]) [(dp (ch 5),dy (V.agg Bc [V.d Bf (U J 2),V.ts 72 Bw (ax (U J 3))])),
 (dp (ch 1),
  dy
   (V.agg Ba
    [V.ptr (dp (ch 2)) [] BN,V.ptr (dp (ch 5)) [] Bc,V.d (bm ay) (U J 4),
     V.d (bm ay) (U J 5),
     V.sr (ch 1000000000234) [] 0 (av (aq (U J 6))) none 240 AV,
     V.sr (ch 1000000000266) [] 0 (av (aq (U J 7))) none 2368 tTx,
     V.sr (ch 1000000000298) [] 0 (av (aq (U J 8))) none 40 AW])),
 (dp (ch 2),
  dy
   (V.agg BN
    [V.sr (ch 1000000000106) [] 0 (av (aq (U J 9))) none 8 (bm ay),
     V.sr (ch 1000000000138) [] 0 (av (aq (U J 10))) none 8 (bm ay),
     V.d (bm ay) (U J 11)])),
 (dp (ch 3),fk (ca (av (aq (U J 12))) (bm ay))),
 (ch 1000000000106,dy (V.d (ca (au (ax (U J 13))) (bm ay)) (U J 13))),
 (dp (ch 4),fk (ca (av (aq (U J 14))) (bm ay))),
 (ch 1000000000138,dy (V.d (ca (au (ax (U J 15))) (bm ay)) (U J 15))),
 (dp (ch 7),fk (ca (av (aq (U J 16))) AV)),
 (ch 1000000000234,dy (V.d (ca (au (ax (U J 17))) AV) (U J 17))),
 (dp (ch 8),fk (ca (av (aq (U J 18))) tTx)),
 (ch 1000000000266,dy (V.d (ca (au (ax (U J 19))) tTx) (U J 19))),
 (dp (ch 9),fk (ca (av (aq (U J 20))) AW)),
 (ch 1000000000298,dy (V.d (ca (au (ax (U J 21))) AW) (U J 21)))]
theorem q7w:okX 28 (@wD R N):=Cv (BJ (q7A N) <| BT) N [(28,[(21,[(11,6)])])] [(28,[([1,0,1],⟨[0,1],[],[.g (.l 1),.g (.l 2),.g (.l 3),.g (.l 4),.g (.l 5),.g (.l 7),.g (.l 8),.g (.l 9)],[],[],[(.int .u64),AV,tTx,AW]⟩),
  ([4,1,0,1],⟨[0,1],[(6,.d (.int .i64))],[.g (.l 1),.g (.l 2),.g (.l 3),.g (.l 4),.g (.l 5),.g (.l 7),.g (.l 8),.g (.l 9)],[],[],[(.int .u64),AV,tTx,AW]⟩),
  ([0,0,4,0,1,5,4,1,0,1],⟨[0,1,6],[(37,.d .bool)],[.g (.l 1),.g (.l 2),.g (.l 3),.g (.l 4),.g (.l 5),.g (.l 7),.g (.l 8),.g (.l 9)],[],[],[(.int .u64),AV,tTx,AW]⟩),
  ([1,1,4,0,1,5,4,1,0,1],⟨[0,1,6],[],[.g (.l 1),.g (.l 2),.g (.l 3),.g (.l 4),.g (.l 5),.g (.l 7),.g (.l 8),.g (.l 9)],[],[],[(.int .u64),AV,tTx,AW]⟩),
  ([4,1,1,4,0,1,5,4,1,0,1],⟨[0,1,6],[(7,.d (.int .i64))],[.g (.l 1),.g (.l 2),.g (.l 3),.g (.l 4),.g (.l 5),.g (.l 7),.g (.l 8),.g (.l 9)],[],[],[(.int .u64),AV,tTx,AW]⟩),
  ([1,0,1,1,1,1,1],⟨[0,9],[(8,.sl 8 (.int .i64) 5008)],[.g (.l 1),.g (.l 2),.g (.l 3),.g (.l 4),.g (.l 5),.g (.l 7),.g (.l 8),.g (.l 9)],[],[],[(.int .u64),AV,tTx,AW]⟩),
  ([4,1,0,1,1,1,1,1],⟨[0,1,9],[(8,.sl 8 (.int .i64) 5008),(10,.d (.int .i64))],[.g (.l 1),.g (.l 2),.g (.l 3),.g (.l 4),.g (.l 5),.g (.l 7),.g (.l 8),.g (.l 9)],[],[],[(.int .u64),AV,tTx,AW]⟩),
  ([1,0,1,1,1,1,1,1],⟨[0,9],[(8,.sl 8 (.int .i64) 5008)],[.g (.l 1),.g (.l 2),.g (.l 3),.g (.l 4),.g (.l 5),.g (.l 7),.g (.l 8),.g (.l 9)],[],[],[(.int .u64),AV,tTx,AW]⟩),
  ([1,0,1,1,1,1,1,1,1,1],⟨[0],[(8,.sl 8 (.int .i64) 5008),(13,.vec (.l 1000000000107) 2368 tTx)],[.g (.l 1),.g (.l 2),.g (.l 3),.g (.l 4),.g (.l 5),.g (.l 7),.g (.l 8),.g (.l 9)],[],[],[(.int .u64),AV,tTx,AW]⟩),
  ([4,1,0,1,1,1,1,1,1,1,1],⟨[0,9],[(8,.sl 8 (.int .i64) 5008),(13,.vec (.l 1000000000107) 2368 tTx),(14,.d (.int .i64))],[.g (.l 1),.g (.l 2),.g (.l 3),.g (.l 4),.g (.l 5),.g (.l 7),.g (.l 8),.g (.l 9)],[],[],[(.int .u64),AV,tTx,AW]⟩),
  ([1,4,0,1,5,4,1,0,1,1,1,1,1,1,1,1],⟨[0,9,14],[(8,.sl 8 (.int .i64) 5008),(13,.vec (.l 1000000000107) 2368 tTx)],[.g (.l 1),.g (.l 2),.g (.l 3),.g (.l 4),.g (.l 5),.g (.l 7),.g (.l 8),.g (.l 9)],[],[],[(.int .u64),AV,tTx,AW]⟩),
  ([9],⟨[],[(4,.sl 8 (.int .i64) 5004),(5,.d (.int .i64))],[.g (.l 1),.g (.l 2),.g (.l 3),.g (.l 4),.g (.l 5),.g (.l 7),.g (.l 8),.g (.l 9)],[(.g (.l 5),.box (.agg Bc [.d Bf,.ts 72 Bw]))],[],[(.int .u64),AV,tTx,AW]⟩)])] (fun _ _ _=>wF) fun ds ms K=>(show _=jn (fun J m1=>(bif Nat.beq (au (ax (U J 0))) (au (ax (U J 0)))then
  (K (V.tup [V.ts 8 (bm ba) (ax (U J 0)),V.d (bm ba) (U J 1)]) [(dp (ch 5),dy (V.agg Bc [V.d Bf (U J 2),V.ts 72 Bw (ax (U J 3))])),
 (dp (ch 1),
  dy
   (V.agg Ba
    [V.ptr (dp (ch 2)) [] BN,V.ptr (dp (ch 5)) [] Bc,V.d (bm ay) (U J 4),
     V.d (bm ay) (U J 5),
     V.sr (ch 1000000000234) [] 0 (av (aq (U J 6))) none 240 AV,
     V.sr (ch 1000000000266) [] 0 (av (aq (U J 7))) none 2368 tTx,
     V.sr (ch 1000000000298) [] 0 (av (aq (U J 8))) none 40 AW])),
 (dp (ch 2),
  dy
   (V.agg BN
    [V.sr (ch 1000000000106) [] 0 (av (aq (U J 9))) none 8 (bm ay),
     V.sr (ch 1000000000138) [] 0 (av (aq (U J 10))) none 8 (bm ay),
     V.d (bm ay) (U J 11)])),
 (dp (ch 3),fk (ca (av (aq (U J 12))) (bm ay))),
 (ch 1000000000106,dy (V.d (ca (au (ax (U J 13))) (bm ay)) (U J 13))),
 (dp (ch 4),fk (ca (av (aq (U J 14))) (bm ay))),
 (ch 1000000000138,dy (V.d (ca (au (ax (U J 15))) (bm ay)) (U J 15))),
 (dp (ch 7),fk (ca (av (aq (U J 16))) AV)),
 (ch 1000000000234,dy (V.d (ca (au (ax (U J 17))) AV) (U J 17))),
 (dp (ch 8),fk (ca (av (aq (U J 18))) tTx)),
 (ch 1000000000266,dy (V.d (ca (au (ax (U J 19))) tTx) (U J 19))),
 (dp (ch 9),fk (ca (av (aq (U J 20))) AW)),
 (ch 1000000000298,dy (V.d (ca (au (ax (U J 21))) AW) (U J 21)))])
 else
  none)) _ by kernel_rfl).trans (congrArg (fun k=>jn k _) (funext fun _=>funext fun _=>by simp only[bh,cond_true]))
section
variable {R:Type} {N:Nat}
theorem FW (a0 a1 a2 a3 a4 a5 a6 a7 a8 a9 a10 a11 a12 a13 a14 a15 a16 a17 a18 a19 a20 a21 a22 a23 a24 a25 a26 a27 a28 a29 a30 a31 a32 a33 a34 a35 a36 a37 a38 a39 a40:C) (l:List C):U (a0::a1::a2::a3::a4::a5::a6::a7::a8::a9::a10::a11::a12::a13::a14::a15::a16::a17::a18::a19::a20::a21::a22::a23::a24::a25::a26::a27::a28::a29::a30::a31::a32::a33::a34::a35::a36::a37::a38::a39::a40::l) 40=a40:=rfl
theorem FX (a0 a1 a2 a3 a4 a5 a6 a7 a8 a9 a10 a11 a12 a13 a14 a15 a16 a17 a18 a19 a20 a21 a22 a23 a24 a25 a26 a27 a28 a29 a30 a31 a32 a33 a34 a35 a36 a37 a38 a39 a40 a41:C) (l:List C):U (a0::a1::a2::a3::a4::a5::a6::a7::a8::a9::a10::a11::a12::a13::a14::a15::a16::a17::a18::a19::a20::a21::a22::a23::a24::a25::a26::a27::a28::a29::a30::a31::a32::a33::a34::a35::a36::a37::a38::a39::a40::a41::l) 41=a41:=rfl
theorem FY (a0 a1 a2 a3 a4 a5 a6 a7 a8 a9 a10 a11 a12 a13 a14 a15 a16 a17 a18 a19 a20 a21 a22 a23 a24 a25 a26 a27 a28 a29 a30 a31 a32 a33 a34 a35 a36 a37 a38 a39 a40 a41 a42:C) (l:List C):U (a0::a1::a2::a3::a4::a5::a6::a7::a8::a9::a10::a11::a12::a13::a14::a15::a16::a17::a18::a19::a20::a21::a22::a23::a24::a25::a26::a27::a28::a29::a30::a31::a32::a33::a34::a35::a36::a37::a38::a39::a40::a41::a42::l) 42=a42:=rfl
theorem FZ (a0 a1 a2 a3 a4 a5 a6 a7 a8 a9 a10 a11 a12 a13 a14 a15 a16 a17 a18 a19 a20 a21 a22 a23 a24 a25 a26 a27 a28 a29 a30 a31 a32 a33 a34 a35 a36 a37 a38 a39 a40 a41 a42 a43:C) (l:List C):U (a0::a1::a2::a3::a4::a5::a6::a7::a8::a9::a10::a11::a12::a13::a14::a15::a16::a17::a18::a19::a20::a21::a22::a23::a24::a25::a26::a27::a28::a29::a30::a31::a32::a33::a34::a35::a36::a37::a38::a39::a40::a41::a42::a43::l) 43=a43:=rfl
theorem Fa (a0 a1 a2 a3 a4 a5 a6 a7 a8 a9 a10 a11 a12 a13 a14 a15 a16 a17 a18 a19 a20 a21 a22 a23 a24 a25 a26 a27 a28 a29 a30 a31 a32 a33 a34 a35 a36 a37 a38 a39 a40 a41 a42 a43 a44:C) (l:List C):U (a0::a1::a2::a3::a4::a5::a6::a7::a8::a9::a10::a11::a12::a13::a14::a15::a16::a17::a18::a19::a20::a21::a22::a23::a24::a25::a26::a27::a28::a29::a30::a31::a32::a33::a34::a35::a36::a37::a38::a39::a40::a41::a42::a43::a44::l) 44=a44:=rfl
theorem Fb (a0 a1 a2 a3 a4 a5 a6 a7 a8 a9 a10 a11 a12 a13 a14 a15 a16 a17 a18 a19 a20 a21 a22 a23 a24 a25 a26 a27 a28 a29 a30 a31 a32 a33 a34 a35 a36 a37 a38 a39 a40 a41 a42 a43 a44 a45:C) (l:List C):U (a0::a1::a2::a3::a4::a5::a6::a7::a8::a9::a10::a11::a12::a13::a14::a15::a16::a17::a18::a19::a20::a21::a22::a23::a24::a25::a26::a27::a28::a29::a30::a31::a32::a33::a34::a35::a36::a37::a38::a39::a40::a41::a42::a43::a44::a45::l) 45=a45:=rfl
theorem Fc (a0 a1 a2 a3 a4 a5 a6 a7 a8 a9 a10 a11 a12 a13 a14 a15 a16 a17 a18 a19 a20 a21 a22 a23 a24 a25 a26 a27 a28 a29 a30 a31 a32 a33 a34 a35 a36 a37 a38 a39 a40 a41 a42 a43 a44 a45 a46:C) (l:List C):U (a0::a1::a2::a3::a4::a5::a6::a7::a8::a9::a10::a11::a12::a13::a14::a15::a16::a17::a18::a19::a20::a21::a22::a23::a24::a25::a26::a27::a28::a29::a30::a31::a32::a33::a34::a35::a36::a37::a38::a39::a40::a41::a42::a43::a44::a45::a46::l) 46=a46:=rfl
theorem Fe (a0 a1 a2 a3 a4 a5 a6 a7 a8 a9 a10 a11 a12 a13 a14 a15 a16 a17 a18 a19 a20 a21 a22 a23 a24 a25 a26 a27 a28 a29 a30 a31 a32 a33 a34 a35 a36 a37 a38 a39 a40 a41 a42 a43 a44 a45 a46 a47:C) (l:List C):U (a0::a1::a2::a3::a4::a5::a6::a7::a8::a9::a10::a11::a12::a13::a14::a15::a16::a17::a18::a19::a20::a21::a22::a23::a24::a25::a26::a27::a28::a29::a30::a31::a32::a33::a34::a35::a36::a37::a38::a39::a40::a41::a42::a43::a44::a45::a46::a47::l) 47=a47:=rfl
def Jm (s:MS) (n:Nat) (t:C):Int:=if 64<=s.yb.length then 4 else if ¬(0<=(t.get 1).toInt/\(t.get 1).toInt<(n:Int)-1)then 1 else if(t.get 3).toInt<s.least.toInt then 23 else 0
theorem q5a (s:MS) (n:Nat) (hn:n<4611686018427387904) (t:C) (k:KD R):KY N t s.least s.ya (.int s.yc.length) (.int s.yb.length) (.int s.evs.length) (.int n) (.int n) s.kept s.has s.yd s.tab (.slice s.lst) (.agg s.yc) (.agg s.yb) (.agg s.evs) k=
  k ((if Jm s n t=0 then{s with yb:=s.yb++[t]} else s).out n (Jm s n t) s.JJ) []:=by
 rw[wH];unfold dI Jm;by_cases h1:64<=s.yb.length
 ·have h1':(64:Int)<=(s.yb.length:Int):=by omega
  simp only[AR,AG,AX,BG,bb,Ab,AO,eq_self,AE,Ae,BM,Af,BO,BP,and_self,bf,bh,Ay,bu,AF,AH,AJ,AL,AQ,Aa,Ac,Ah,Ai,Aj,Ak,Al,Ao,Ap,Aq,Ar,Au,Av,Aw,Ax,Az,BA,BB,BC,BD,BF,CA,CB,CC,CD,CE,CF,CG,CH,CI,CJ,CK,CL,CM,DV,FW,FX,FY,FZ,Fa,Fb,Fc,Fe,h1,h1',show ¬(4:Int)=0 by decide,AB];rfl
 have h1':¬(64:Int)<=(s.yb.length:Int):=by omega
 by_cases h2:0<=(t.get 1).toInt/\(t.get 1).toInt<(n:Int)-1
 case neg=>
  simp only[AR,AG,AX,BG,bb,Ab,AO,eq_self,AE,Ae,BM,Af,BO,BP,and_self,bf,bh,Ay,bu,AF,AH,AJ,AL,AQ,Aa,Ac,Ah,Ai,Aj,Ak,Al,Ao,Ap,Aq,Ar,Au,Av,Aw,Ax,Az,BA,BB,BC,BD,BF,CA,CB,CC,CD,CE,CF,CG,CH,CI,CJ,CK,CL,CM,DV,FW,FX,FY,FZ,Fa,Fb,Fc,Fe,h1,h1',Kl n hn,h2,not_false_iff,show ¬(1:Int)=0 by decide,AB];rfl
 by_cases h3:(t.get 3).toInt<s.least.toInt;{simp only[AR,AG,AX,BG,bb,Ab,AO,eq_self,AE,Ae,BM,Af,BO,BP,and_self,bf,bh,Ay,bu,AF,AH,AJ,AL,AQ,Aa,Ac,Ah,Ai,Aj,Ak,Al,Ao,Ap,Aq,Ar,Au,Av,Aw,Ax,Az,BA,BB,BC,BD,BF,CA,CB,CC,CD,CE,CF,CG,CH,CI,CJ,CK,CL,CM,DV,FW,FX,FY,FZ,Fa,Fb,Fc,Fe,h1,h1',Kl n hn,h2,h3,not_true,show ¬(23:Int)=0 by decide,AB];rfl};have hlen:(s.yb.length+1)*2368<=140737488355328/\s.yb.length+1<=9223372036854775807:=by omega
 simp only[AR,AG,AX,BG,bb,Ab,AO,eq_self,AE,Ae,BM,Af,BO,BP,and_self,bf,bh,Ay,bu,AF,AH,AJ,AL,AQ,Aa,Ac,Ah,Ai,Aj,Ak,Al,Ao,Ap,Aq,Ar,Au,Av,Aw,Ax,Az,BA,BB,BC,BD,BF,CA,CB,CC,CD,CE,CF,CG,CH,CI,CJ,CK,CL,CM,DV,FW,FX,FY,FZ,Fa,Fb,Fc,Fe,h1,h1',Kl n hn,h2,h3,hlen,not_true,dh,br,cg,cr,AB];simp only[MS.out,MS.JJ,jL,br,cg,cr,bf]
structure Tn (s s1:MS) (i:Nat):Prop where
 tab:s1.tab=s.tab
 least:s1.least=s.least
 ya:s1.ya=s.ya
 yb:s1.yb=s.yb
 evs:s1.evs.length=s.evs.length+i
 n:s1.yc.length<=16
 l:s1.lst.length<=s.lst.length+i
def MNb (s:MS) (n:Nat) (ts:List C) (s1:MS):Prop:=∀l:List Ent,s.lst=l.map DL->Pos s.has->s.ya= .int s.ya.toInt->GB s.tab->(∀t∈s.yb,MM n t)->l.length+ts.length<=1000->
 s1.yd=(Gz n s.ya.toInt ts (s.yd,l)).1/\s1.lst=(Gz n s.ya.toInt ts (s.yd,l)).2.map DL/\Pos s1.has
def Mg:List C->C->C
 | [],D=>D|c::l,D=>Mg l (cn D c.toInt.toNat (.bool true))
theorem lK (c:C):∀(l:List C) (D:C),Mg (l++[c]) D=cn (Mg l D) c.toInt.toNat (.bool true)
 | [],_=>rfl|_::l,D=>lK c l _
theorem q4n (s:MS) (hs:s.lst.length<=50000) (hb:s.yc.length<=16) (z8Q:Ku s.tab) {n:Nat} (hn:n<4611686018427387904) (l:List C) (hl:l.length<=1000) (hg:∀c∈l,0<=c.toInt/\c.toInt<(s.yb.length:Int)) (hp:∀t∈s.yb,TxM n t) (hev:s.evs.length<=50000) (hN:300000<N) (J:List C) (D:C) (x1 x2 x3 x4 x5:Nat):
  ∃(out:List C) (s1:MS) (D':C),Tn s s1 l.length/\MNb s n (Ef l s.yb) s1/\D'=Mg l D/\out.length=l.length/\∀k2:KD R,BR N (Na N J k2) [.slice l,.int 0,.int s.yb.length,.int s.yb.length,.slice [],.int (0:Nat),s.least,s.ya,.int s.yc.length,.int s.yb.length,.int s.evs.length,.int n,.int n,s.kept,s.has,s.yd,s.tab,.slice s.lst,.agg s.yc,.agg s.yb,.agg s.evs,D,.int x1,.int x2,.int x3,.int x4,.int x5,.int x1,.int x2,.int x3,.int x4,.int x5] []=
   k2 [.int ((0:Nat):Int),.int s.yb.length,.int s.yb.length,.slice out,s1.least,s1.ya,.int s1.yc.length,.int s1.yb.length,.int s1.evs.length,.int n,.int n,s1.kept,s1.has,s1.yd,s1.tab,.slice s1.lst,.agg s1.yc,.agg s1.yb,.agg s1.evs,D',.int x1,.int x2,.int x3,.int x4,.int x5,.int x1,.int x2,.int x3,.int x4,.int x5] []:=by
 have key:=Jg (R:=R) (F:=fun k2=>Na N J k2) l.length
  (fun i st sm=>∃(out:List C) (s1:MS) (D':C),Tn s s1 i/\MNb s n (Ef (l.take i) s.yb) s1/\D'=Mg (l.take i) D/\out.length=i/\st=[.slice l,.int ((0:Nat):Int),.int s.yb.length,.int s.yb.length,.slice out,.int i,s1.least,s1.ya,.int s1.yc.length,.int s1.yb.length,.int s1.evs.length,.int n,.int n,s1.kept,s1.has,s1.yd,s1.tab,.slice s1.lst,.agg s1.yc,.agg s1.yb,.agg s1.evs,D',.int x1,.int x2,.int x3,.int x4,.int x5,.int x1,.int x2,.int x3,.int x4,.int x5]/\sm=[])
  (fun d m=>∃(out:List C) (s1:MS) (D':C),Tn s s1 l.length/\MNb s n (Ef l s.yb) s1/\D'=Mg l D/\out.length=l.length/\d=[.int ((0:Nat):Int),.int s.yb.length,.int s.yb.length,.slice out,s1.least,s1.ya,.int s1.yc.length,.int s1.yb.length,.int s1.evs.length,.int n,.int n,s1.kept,s1.has,s1.yd,s1.tab,.slice s1.lst,.agg s1.yc,.agg s1.yb,.agg s1.evs,D',.int x1,.int x2,.int x3,.int x4,.int x5,.int x1,.int x2,.int x3,.int x4,.int x5]/\m=[]) ?_ ?_ l.length 0 _ _ N (by omega) (by omega) ⟨[],s,D,⟨rfl,rfl,rfl,rfl,rfl,hb,bx _⟩,(fun l h1 h2 _ _ _ _=>⟨rfl,h1,h2⟩),rfl,rfl,rfl,rfl⟩
 ·obtain⟨d,m',⟨out,s1,D',h1,hnb,hd,h2,rfl,rfl⟩,heq⟩:=key;exact⟨out,s1,D',h1,hnb,hd,h2,heq⟩
 ·rintro i st sm hi ⟨out,s1,D',h,hnb,hdn,ho,rfl,rfl⟩;obtain⟨c,hc⟩:∃c,l[i]? =some c:=⟨_,bo hi⟩;have h1:(i:Int)<(l.length:Int):=by omega
  have hr:=hg c (fa hc);have hr2:0<=c.toInt/\c.toInt<(s1.yb.length:Int):=by rw[h.yb];exact hr
  have ht:TxM n (s.yb.getD c.toInt.toNat .nil):=hp _ (Eb (by omega));have he:=h.evs;have hll:=h.l;obtain⟨e,s2,hf,hmd,hdo⟩:=q4o (R:=R) (N:=N) (s:=s1) (by omega) (by rw[h.tab];exact z8Q) hn ht hN;have hpe:(dc s1.yb).get c.toInt.toNat=s.yb.getD c.toInt.toNat .nil:=by rw[h.yb];rfl
  have hol:(out.length+1)*8<=140737488355328/\out.length+1<=9223372036854775807:=by omega
  have he2:s2.evs.length=s1.evs.length:=by rw[hf.evs]
  have hel:(s2.evs.length+1)*40<=140737488355328/\s2.evs.length+1<=9223372036854775807:=by omega
  have hps:s2.yb=s1.yb:=hf.yb;refine⟨_,_,⟨out++[.int e],{s2 with evs:=s2.evs++[cn (cn (cn (cn (cn (dc [bc 0,bc 0,bc 0,bc 0,bc 0]) 0 s2.ya) 1 ((s.yb.getD c.toInt.toNat .nil).get 0)) 2 ((s.yb.getD c.toInt.toNat .nil).get 1)) 3 ((s.yb.getD c.toInt.toNat .nil).get 6)) 4 (.int e)]},cn D' c.toInt.toNat (.bool true),⟨hf.tab.trans h.tab,hf.least.trans h.least,hf.ya.trans h.ya,hf.yb.trans h.yb,?_,hf.n h.n,?_⟩,?_,by rw[List.take_add_one,hc];exact(congrArg (fun x=>cn x c.toInt.toNat (.bool true)) hdn).trans (lK c _ _).symm,by simp[ho],rfl,rfl⟩,fun k2 rec=>?_⟩;{show(s2.evs++[_]).length=_;rw[br,he2,he];simp only[cg,cr];omega};{have:=hf.l;show s2.lst.length<=_;omega}
  ·intro l0 q1 q2 q3 q4 q5 q6;have q7:(Ef (l.take (i+1)) s.yb).length=i+1:=by unfold Ef;rw[fg,jh];omega
   have q8:(Ef (l.take i) s.yb).length=i:=by unfold Ef;rw[fg,jh];omega
   obtain⟨w1,w2,w3⟩:=hnb l0 q1 q2 q3 q4 q5 (by omega);have w4:=sP n s.ya.toInt (Ef (l.take i) s.yb) (s.yd,l0);have hh1:s1.ya=s.ya:=h.ya;have:=hmd _ (q5 _ (Eb (show c.toInt.toNat<s.yb.length by omega))) w2 w3 (by rw[hh1];exact q3) (by rw[h.tab];exact q4) (by dsimp only at w4;omega);rw[uB l s.yb hc,q5c];rw[hh1,w1]at this;exact this
  show Na N J k2 rec _ _=_;unfold Na;simp only[AR,AG,AX,BG,bb,Ab,AO,eq_self,AE,Ae,BM,Af,BO,BP,and_self,bf,bh,Ay,bu,AF,AH,AJ,AL,AQ,Aa,Ac,Ah,Ai,Aj,Ak,Al,Ao,Ap,Aq,Ar,Au,Av,Aw,Ax,Az,BA,BB,BC,BD,BF,CA,CB,CC,CD,CE,CF,CG,CH,CI,CJ,CK,CL,CM,DV,FW,FX,FY,FZ,Fa,Fb,Fc,Fe,h1,FJ hc,bz,hr,hr2,hpe,hdo,AB];simp only[AR,AG,AX,BG,bb,Ab,AO,eq_self,AE,Ae,BM,Af,BO,BP,and_self,bf,bh,Ay,bu,AF,AH,AJ,AL,AQ,Aa,Ac,Ah,Ai,Aj,Ak,Al,Ao,Ap,Aq,Ar,Au,Av,Aw,Ax,Az,BA,BB,BC,BD,BF,CA,CB,CC,CD,CE,CF,CG,CH,CI,CJ,CK,CL,CM,DV,FW,FX,FY,FZ,Fa,Fb,Fc,Fe,MS.out,MS.JJ,jL,hol,hel,dh,br,cg,cr,Bp (show i<4611686018427387904 by omega),AB]
 ·rintro st sm ⟨out,s1,D',h,hnb,hdn,ho,rfl,rfl⟩;refine⟨_,_,⟨out,s1,D',h,by rw[dh]at hnb;exact hnb,by rw[hdn,dh],ho,rfl,rfl⟩,fun k2 rec=>?_⟩;show Na N J k2 rec _ _=_;unfold Na;simp only[AR,AG,AX,BG,bb,Ab,AO,eq_self,AE,Ae,BM,Af,BO,BP,and_self,bf,bh,Ay,bu,AF,AH,AJ,AL,AQ,Aa,Ac,Ah,Ai,Aj,Ak,Al,Ao,Ap,Aq,Ar,Au,Av,Aw,Ax,Az,BA,BB,BC,BD,BF,CA,CB,CC,CD,CE,CF,CG,CH,CI,CJ,CK,CL,CM,DV,FW,FX,FY,FZ,Fa,Fb,Fc,Fe,eg,AB]
theorem q4V (s:MS) (hpl:s.yb.length<=1000) (n:Nat) (out:List C) (hN:300000<N) (J:List C) (D:C) (x1 x2 x3 x4 x5:Nat):
  ∃left:List C,left.length<=s.yb.length/\(∀t∈left,t∈s.yb)/\((∀i<s.yb.length,(D.get i).toBool=true)->left=[])/\∀k2:KD R,BR N (KX N J k2) [.int ((0:Nat):Int),.int s.yb.length,.int s.yb.length,.slice out,.int (0:Nat),.int (0:Nat),s.least,s.ya,.int s.yc.length,.int s.yb.length,.int s.evs.length,.int n,.int n,s.kept,s.has,s.yd,s.tab,.slice s.lst,.agg s.yc,.agg s.yb,.agg s.evs,D,.int x1,.int x2,.int x3,.int x4,.int x5,.int x1,.int x2,.int x3,.int x4,.int x5,.int x1,.int x2,.int x3,.int x4,.int x5,.int x1,.int x2,.int x3,.int x4,.int x5,.agg []] []=
   k2 [.slice out,.int left.length,s.least,s.ya,.int s.yc.length,.int s.yb.length,.int s.evs.length,.int n,.int n,s.kept,s.has,s.yd,s.tab,.slice s.lst,.agg s.yc,.agg s.yb,.agg s.evs,.int x1,.int x2,.int x3,.int x4,.int x5,.int x1,.int x2,.int x3,.int x4,.int x5,.int x1,.int x2,.int x3,.int x4,.int x5,.int x1,.int x2,.int x3,.int x4,.int x5,.agg left] []:=by
 have key:=Jg (R:=R) (F:=fun k2=>KX N J k2) s.yb.length
  (fun i st sm=>∃left:List C,left.length<=i/\(∀t∈left,t∈s.yb)/\((∀i<s.yb.length,(D.get i).toBool=true)->left=[])/\st=[.int ((0:Nat):Int),.int s.yb.length,.int s.yb.length,.slice out,.int left.length,.int i,s.least,s.ya,.int s.yc.length,.int s.yb.length,.int s.evs.length,.int n,.int n,s.kept,s.has,s.yd,s.tab,.slice s.lst,.agg s.yc,.agg s.yb,.agg s.evs,D,.int x1,.int x2,.int x3,.int x4,.int x5,.int x1,.int x2,.int x3,.int x4,.int x5,.int x1,.int x2,.int x3,.int x4,.int x5,.int x1,.int x2,.int x3,.int x4,.int x5,.agg left]/\sm=[])
  (fun d m=>∃left:List C,left.length<=s.yb.length/\(∀t∈left,t∈s.yb)/\((∀i<s.yb.length,(D.get i).toBool=true)->left=[])/\d=[.slice out,.int left.length,s.least,s.ya,.int s.yc.length,.int s.yb.length,.int s.evs.length,.int n,.int n,s.kept,s.has,s.yd,s.tab,.slice s.lst,.agg s.yc,.agg s.yb,.agg s.evs,.int x1,.int x2,.int x3,.int x4,.int x5,.int x1,.int x2,.int x3,.int x4,.int x5,.int x1,.int x2,.int x3,.int x4,.int x5,.int x1,.int x2,.int x3,.int x4,.int x5,.agg left]/\m=[]) ?_ ?_ s.yb.length 0 _ _ N (by omega) (by omega) ⟨[],bx _,(fun _ h=>nomatch h),(fun _=>rfl),rfl,rfl⟩
 ·obtain⟨d,m',⟨left,h1,h2,h3,rfl,rfl⟩,heq⟩:=key;exact⟨left,h1,h2,h3,heq⟩
 ·rintro i st sm hi ⟨left,hl,hm,hz,rfl,rfl⟩;have h1:(i:Int)<(s.yb.length:Int):=by omega
  have hol:(left.length+1)*2368<=140737488355328/\left.length+1<=9223372036854775807:=by omega
  have hg:(dc s.yb).get i=s.yb.getD i .nil:=rfl;cases hD:(D.get i).toBool with
  |true=>
   refine⟨_,_,⟨left,by omega,hm,hz,rfl,rfl⟩,fun k2 rec=>?_⟩;show KX N J k2 rec _ _=_;unfold KX;simp only[AR,AG,AX,BG,bb,Ab,AO,eq_self,AE,Ae,BM,Af,BO,BP,and_self,bf,bh,Ay,bu,AF,AH,AJ,AL,AQ,Aa,Ac,Ah,Ai,Aj,Ak,Al,Ao,Ap,Aq,Ar,Au,Av,Aw,Ax,Az,BA,BB,BC,BD,BF,CA,CB,CC,CD,CE,CF,CG,CH,CI,CJ,CK,CL,CM,DV,FW,FX,FY,FZ,Fa,Fb,Fc,Fe,h1,bz,hD,Bp (show i<4611686018427387904 by omega),AB]
  |false=>
   refine⟨_,_,⟨left++[s.yb.getD i .nil],by simp;omega,fun t ht=>?_,(fun h=>by rw[h i hi]at hD;cases hD),rfl,rfl⟩,fun k2 rec=>?_⟩;{rcases eh.1 ht with h|h;{exact hm t h};{rw[fj.1 h];exact Eb hi}};show KX N J k2 rec _ _=_;unfold KX;simp only[AR,AG,AX,BG,bb,Ab,AO,eq_self,AE,Ae,BM,Af,BO,BP,and_self,bf,bh,Ay,bu,AF,AH,AJ,AL,AQ,Aa,Ac,Ah,Ai,Aj,Ak,Al,Ao,Ap,Aq,Ar,Au,Av,Aw,Ax,Az,BA,BB,BC,BD,BF,CA,CB,CC,CD,CE,CF,CG,CH,CI,CJ,CK,CL,CM,DV,FW,FX,FY,FZ,Fa,Fb,Fc,Fe,h1,bz,hD,hol,hg,dh,br,cg,cr,Bp (show i<4611686018427387904 by omega),AB]
 ·rintro st sm ⟨left,hl,hm,hz,rfl,rfl⟩;refine⟨_,_,⟨left,hl,hm,hz,rfl,rfl⟩,fun k2 rec=>?_⟩;show KX N J k2 rec _ _=_;unfold KX;simp only[AR,AG,AX,BG,bb,Ab,AO,eq_self,AE,Ae,BM,Af,BO,BP,and_self,bf,bh,Ay,bu,AF,AH,AJ,AL,AQ,Aa,Ac,Ah,Ai,Aj,Ak,Al,Ao,Ap,Aq,Ar,Au,Av,Aw,Ax,Az,BA,BB,BC,BD,BF,CA,CB,CC,CD,CE,CF,CG,CH,CI,CJ,CK,CL,CM,DV,FW,FX,FY,FZ,Fa,Fb,Fc,Fe,eg,AB]
end
section
variable {R:Type} {N:Nat}
def CU (m:Nat):List C:=(gf m).map fun i=>bc (i:Nat)
theorem IY (m:Nat):(CU m).length=m:=by simp[CU]
theorem Nf {m i:Nat} (h:i<m):(CU m)[i]? =some (.int (i:Nat)):=by simp[CU,h]
theorem eA {m:Nat} {c:C} (h:c∈CU m):0<=c.toInt/\c.toInt<(m:Int):=by unfold CU at h;obtain⟨i,hi,rfl⟩:=List.mem_map.1 h;have:=List.mem_range.1 hi;show 0<=(i:Int)/\(i:Int)<(m:Int);omega
theorem q07 (L:List C):∀(l:List C),(∀c∈l,0<=c.toInt/\c.toInt<(L.length:Int))->∃L':List C,Mg l (.agg L)= .agg L'/\L'.length=L.length/\(∀i,(L.getD i .nil).toBool=true->(L'.getD i .nil).toBool=true)/\∀c∈l,(L'.getD c.toInt.toNat .nil).toBool=true:=by
 intro l
 induction l generalizing L with
 |nil=>exact fun _=>⟨L,rfl,rfl,fun _ h=>h,fun _ h=>nomatch h⟩|cons c l ih=>
  intro h;have hc:=h c (List.mem_cons_self ..);obtain⟨L',h1,h2,h3,h4⟩:=ih (L.set c.toInt.toNat (.bool true)) fun d hd=>by rw[di];exact h d (List.mem_cons_of_mem _ hd)
  rw[di]at h2;have zi:((L.set c.toInt.toNat (.bool true)).getD c.toInt.toNat .nil).toBool=true:=by
   have hlt:c.toInt.toNat<L.length:=by omega
   rw[FJ (c:=.bool true) (by simp[hlt])];rfl
  refine⟨L',h1,h2,fun i hi=>h3 i ?_,fun d hd=>?_⟩
  ·by_cases e:i=c.toInt.toNat;{rw[e];exact zi}
   ·have:(L.set c.toInt.toNat (.bool true)).getD i .nil=L.getD i .nil:=by rw[bq,bq,List.getElem?_set_ne (fun h=>e h.symm)]
    rw[this];exact hi
  ·rcases List.mem_cons.1 hd with rfl|hd;{exact h3 _ zi};{exact h4 d hd}
def MS.Gb (s:MS) (n:Nat) (out:List C) (e:Int) (j:Nat->C):List C:=[.slice out,.int e,s.tab,.slice s.lst,s.least,s.ya,.int s.yc.length,.int s.yb.length,.int s.evs.length,.int n,.int n,s.kept,j 0,s.has,j 1,s.yd,j 2,.agg s.yc,j 3,.agg s.yb,j 4,.agg s.evs]
def MS.high (s:MS):MS:={s with ya:=.int (IntKind.u64.wrap (s.ya.toInt+1))}
theorem q5b (s:MS) (n m i:Nat) (hm:m<=1000) (hi:i<m) (hN:300000<N) (x1 x2 x3 x4 x5:Nat) (k1 k2:KD R):
  BR N (Sr N k1 k2) [.slice (CU m),.int i,.int (0:Nat),s.least,s.ya,.int s.yc.length,.int s.yb.length,.int s.evs.length,.int n,.int n,s.kept,s.has,s.yd,s.tab,.slice s.lst,.agg s.yc,.agg s.yb,.agg s.evs,.int x1,.int x2,.int x3,.int x4,.int x5,.int x1,.int x2,.int x3,.int x4,.int x5,.int x1,.int x2,.int x3,.int x4,.int x5] []=k2 [.slice (CU m),.int i,s.least,s.ya,.int s.yc.length,.int s.yb.length,.int s.evs.length,.int n,.int n,s.kept,s.has,s.yd,s.tab,.slice s.lst,.agg s.yc,.agg s.yb,.agg s.evs,.int x1,.int x2,.int x3,.int x4,.int x5,.int x1,.int x2,.int x3,.int x4,.int x5,.int x1,.int x2,.int x3,.int x4,.int x5] []:=by
 refine Ee (R:=R) (F:=Sr N k1 k2) (fun j=>[.slice (CU m),.int i,.int j,s.least,s.ya,.int s.yc.length,.int s.yb.length,.int s.evs.length,.int n,.int n,s.kept,s.has,s.yd,s.tab,.slice s.lst,.agg s.yc,.agg s.yb,.agg s.evs,.int x1,.int x2,.int x3,.int x4,.int x5,.int x1,.int x2,.int x3,.int x4,.int x5,.int x1,.int x2,.int x3,.int x4,.int x5]) (fun _=>[]) i _ ?_ ?_ (N:=N) (by omega)
 ·intro j hj rec;have h1:(j:Int)<(i:Int):=by omega
  have h2:(j:Int)<((CU m).length:Int):=by rw[IY];omega
  have h3:(i:Int)<((CU m).length:Int):=by rw[IY];omega
  have h4:¬(j:Int)=(i:Int):=by omega
  unfold Sr;simp only[AR,AG,AX,BG,bb,Ab,AO,eq_self,AE,Ae,BM,Af,BO,BP,and_self,bf,bh,Ay,bu,AF,AH,AJ,AL,AQ,Aa,Ac,Ah,Ai,Aj,Ak,Al,Ao,Ap,Aq,Ar,Au,Av,Aw,Ax,Az,BA,BB,BC,BD,BF,CA,CB,CC,CD,CE,CF,CG,CH,CI,CJ,CK,CL,CM,DV,FW,FX,FY,FZ,Fa,Fb,Fc,Fe,h1,h2,h3,h4,FJ (Nf (show j<m by omega)),FJ (Nf hi),bz,Bp (show j<4611686018427387904 by omega),AB]
 ·intro rec;unfold Sr;simp only[AR,AG,AX,BG,bb,Ab,AO,eq_self,AE,Ae,BM,Af,BO,BP,and_self,bf,bh,Ay,bu,AF,AH,AJ,AL,AQ,Aa,Ac,Ah,Ai,Aj,Ak,Al,Ao,Ap,Aq,Ar,Au,Av,Aw,Ax,Az,BA,BB,BC,BD,BF,CA,CB,CC,CD,CE,CF,CG,CH,CI,CJ,CK,CL,CM,DV,FW,FX,FY,FZ,Fa,Fb,Fc,Fe,eg,AB]
theorem q4m (s:MS) (n:Nat) (hm:s.yb.length<=1000) (hN:300000<N) (x1 x2 x3 x4 x5:Nat) (k1 k2:KD R):
  BR N (Ss N k1 k2) [.slice (CU s.yb.length),.int (0:Nat),s.least,s.ya,.int s.yc.length,.int s.yb.length,.int s.evs.length,.int n,.int n,s.kept,.int x1,s.has,.int x2,s.yd,s.tab,.slice s.lst,.int x3,.agg s.yc,.int x4,.agg s.yb,.int x5,.agg s.evs] []=
   k2 [.slice (CU s.yb.length),s.least,s.ya,.int s.yc.length,.int s.yb.length,.int s.evs.length,.int n,.int n,s.kept,.int x1,s.has,.int x2,s.yd,s.tab,.slice s.lst,.int x3,.agg s.yc,.int x4,.agg s.yb,.int x5,.agg s.evs] []:=by
 refine Ee (R:=R) (F:=Ss N k1 k2) (fun i=>[.slice (CU s.yb.length),.int i,s.least,s.ya,.int s.yc.length,.int s.yb.length,.int s.evs.length,.int n,.int n,s.kept,.int x1,s.has,.int x2,s.yd,s.tab,.slice s.lst,.int x3,.agg s.yc,.int x4,.agg s.yb,.int x5,.agg s.evs]) (fun _=>[]) s.yb.length _ ?_ ?_ (N:=N) (by omega)
 ·intro i hi rec;have h1:(i:Int)<((CU s.yb.length).length:Int):=by rw[IY];omega
  have h2:¬(i:Int)<0:=by omega
  have h3:¬(s.yb.length:Int)<=(i:Int):=by omega
  unfold Ss;simp only[AR,AG,AX,BG,bb,Ab,AO,eq_self,AE,Ae,BM,Af,BO,BP,and_self,bf,bh,Ay,bu,AF,AH,AJ,AL,AQ,Aa,Ac,Ah,Ai,Aj,Ak,Al,Ao,Ap,Aq,Ar,Au,Av,Aw,Ax,Az,BA,BB,BC,BD,BF,CA,CB,CC,CD,CE,CF,CG,CH,CI,CJ,CK,CL,CM,DV,FW,FX,FY,FZ,Fa,Fb,Fc,Fe,h1,h2,h3,FJ (Nf hi),bz,AB];refine(q5b s n s.yb.length i hm hi hN x1 x2 x3 x4 x5 _ _).trans ?_;simp only[AR,AG,AX,BG,bb,Ab,AO,eq_self,AE,Ae,BM,Af,BO,BP,and_self,bf,bh,Ay,bu,AF,AH,AJ,AL,AQ,Aa,Ac,Ah,Ai,Aj,Ak,Al,Ao,Ap,Aq,Ar,Au,Av,Aw,Ax,Az,BA,BB,BC,BD,BF,CA,CB,CC,CD,CE,CF,CG,CH,CI,CJ,CK,CL,CM,DV,FW,FX,FY,FZ,Fa,Fb,Fc,Fe,Bp (show i<4611686018427387904 by omega),AB]
 ·intro rec;unfold Ss;simp only[AR,AG,AX,BG,bb,Ab,AO,eq_self,AE,Ae,BM,Af,BO,BP,and_self,bf,bh,Ay,bu,AF,AH,AJ,AL,AQ,Aa,Ac,Ah,Ai,Aj,Ak,Al,Ao,Ap,Aq,Ar,Au,Av,Aw,Ax,Az,BA,BB,BC,BD,BF,CA,CB,CC,CD,CE,CF,CG,CH,CI,CJ,CK,CL,CM,DV,FW,FX,FY,FZ,Fa,Fb,Fc,Fe,IY,eg,AB]
theorem uA (yb:List C):Ef (CU yb.length) yb=yb:=by apply List.ext_getElem?;intro i;unfold Ef;rw[List.getElem?_map];by_cases h:i<yb.length;{rw[Nf h];show some (yb.getD (i:Int).toNat .nil)=_;rw[bb,bq,bo h];rfl};{rw[gb (by rw[IY];omega),gb (by omega)];rfl}
theorem q4l (s:MS) (hs:s.lst.length<=50000) (hb:s.yc.length<=16) (z8Q:Ku s.tab) {n:Nat} (hn:n<4611686018427387904) (hpl:s.yb.length<=1000) (hp:∀t∈s.yb,TxM n t) (hev:s.evs.length+s.yb.length<=1024) (hN:300000<N):
  ∃(out:List C) (s1:MS),Tn s.high s1 s.yb.length/\MNb s.high n s.yb s1/\∀k:KD R,QA N (.slice (CU s.yb.length)) s.least s.ya (.int s.yc.length) (.int s.yb.length) (.int s.evs.length) (.int n) (.int n) s.kept s.has s.yd s.tab (.slice s.lst) (.agg s.yc) (.agg s.yb) (.agg s.evs) k=
   k ({s1 with yb:=[]}.Gb n out 0 s.JJ) []:=by
 have hdo:=q4n (R:=R) (N:=N) s.high hs hb z8Q hn (CU s.yb.length) (by rw[IY];exact hpl) (fun c hc=>eA hc) hp (by show s.evs.length<=50000;omega) hN
  [.slice (CU s.yb.length),s.least,s.ya,.int s.yc.length,.int s.yb.length,.int s.evs.length,.int n,.int n,s.kept,.int s.has.elems.length,s.has,.int s.yd.elems.length,s.yd,s.tab,.slice s.lst,.int s.yc.length,.agg s.yc,.int s.yb.length,.agg s.yb,.int s.evs.length,.agg s.evs]
  (.agg (bp s.yb.length (AI dq))) s.has.elems.length s.yd.elems.length s.yc.length s.yb.length s.evs.length
 obtain⟨out,s1,D',hm,hnb,hD,ho,hq⟩:=hdo;have hnb:MNb s.high n (Ef (CU s.yb.length) s.yb) s1:=hnb;rw[uA]at hnb;rw[IY]at hm ho;have hp1:s1.yb=s.yb:=hm.yb;obtain⟨L',e1,e2,_,e4⟩:=q07 (bp s.yb.length (AI dq)) (CU s.yb.length) (fun c hc=>by rw[List.length_replicate];exact eA hc);rw[e1]at hD
 obtain⟨left,_,_,hz,hq2⟩:=q4V (R:=R) (N:=N) s1 (by rw[hp1];exact hpl) n out hN
  [.slice (CU s.yb.length),s.least,s.ya,.int s.yc.length,.int s.yb.length,.int s.evs.length,.int n,.int n,s.kept,.int s.has.elems.length,s.has,.int s.yd.elems.length,s.yd,s.tab,.slice s.lst,.int s.yc.length,.agg s.yc,.int s.yb.length,.agg s.yb,.int s.evs.length,.agg s.evs]
  D' s.has.elems.length s.yd.elems.length s.yc.length s.yb.length s.evs.length
 have y0l:left=[]:=hz fun i hi=>by rw[hp1]at hi;rw[hD];exact e4 (.int (i:Nat)) (fa (Nf hi))
 subst y0l;have hev1:s1.evs.length=s.evs.length+s.yb.length:=hm.evs;have hle:¬(1024:Int)<(s1.evs.length:Int):=by omega
 have g1:0<=(s.yb.length:Int)/\(s.yb.length:Int)<=(s.yb.length:Int)/\(s.yb.length:Int)<=9223372036854775807/\s.yb.length*1<=140737488355328:=by omega
 refine⟨out,s1,hm,hnb,fun k=>?_⟩;rw[wF];unfold dH;simp only[AR,AG,AX,BG,bb,Ab,AO,eq_self,AE,Ae,BM,Af,BO,BP,and_self,bf,bh,Ay,bu,AF,AH,AJ,AL,AQ,Aa,Ac,Ah,Ai,Aj,Ak,Al,Ao,Ap,Aq,Ar,Au,Av,Aw,Ax,Az,BA,BB,BC,BD,BF,CA,CB,CC,CD,CE,CF,CG,CH,CI,CJ,CK,CL,CM,DV,FW,FX,FY,FZ,Fa,Fb,Fc,Fe,AB];refine(q4m s n hpl hN _ _ _ _ _ _ _).trans ?_;simp only[AR,AG,AX,BG,bb,Ab,AO,eq_self,AE,Ae,BM,Af,BO,BP,and_self,bf,bh,Ay,bu,AF,AH,AJ,AL,AQ,Aa,Ac,Ah,Ai,Aj,Ak,Al,Ao,Ap,Aq,Ar,Au,Av,Aw,Ax,Az,BA,BB,BC,BD,BF,CA,CB,CC,CD,CE,CF,CG,CH,CI,CJ,CK,CL,CM,DV,FW,FX,FY,FZ,Fa,Fb,Fc,Fe,g1,AB];refine(hq _).trans ?_;simp only[AR,AG,AX,BG,bb,Ab,AO,eq_self,AE,Ae,BM,Af,BO,BP,and_self,bf,bh,Ay,bu,AF,AH,AJ,AL,AQ,Aa,Ac,Ah,Ai,Aj,Ak,Al,Ao,Ap,Aq,Ar,Au,Av,Aw,Ax,Az,BA,BB,BC,BD,BF,CA,CB,CC,CD,CE,CF,CG,CH,CI,CJ,CK,CL,CM,DV,FW,FX,FY,FZ,Fa,Fb,Fc,Fe,hle,AB];rw[hp1]at hq2 ⊢;refine(hq2 _).trans ?_;simp only[AR,AG,AX,BG,bb,Ab,AO,eq_self,AE,Ae,BM,Af,BO,BP,and_self,bf,bh,Ay,bu,AF,AH,AJ,AL,AQ,Aa,Ac,Ah,Ai,Aj,Ak,Al,Ao,Ap,Aq,Ar,Au,Av,Aw,Ax,Az,BA,BB,BC,BD,BF,CA,CB,CC,CD,CE,CF,CG,CH,CI,CJ,CK,CL,CM,DV,FW,FX,FY,FZ,Fa,Fb,Fc,Fe,AB];rfl
end
section
variable {R:Type} {N:Nat}
theorem kE (p q r:Nat->Bool) (h:∀x,r x=(p x||q x)) (hd:∀x,p x=true->q x=false):∀l:List Nat,l.countP r=l.countP p+l.countP q
 | []=>rfl|x::l=>by
  have ih:=kE p q r h hd l;simp only[vz,h x,ih];cases hp:p x with
  |true=>rw[hd x hp];simp;omega|false=>cases q x <;> simp <;> omega
def Nk (at_:List C) (m:Nat) (n:Int):Nat:=(gf m).countP fun i=>decide (i<at_.length/\(at_.getD i .nil).toInt=n)
def TV (at_:List C) (m:Nat) (n:Int):Nat:=(gf m).countP fun i=>decide (i<at_.length/\(at_.getD i .nil).toInt<n)
theorem q9z (at_:List C) (m:Nat) (n:Int):TV at_ m (n+1)=TV at_ m n+Nk at_ m n:=by refine kE _ _ _ (fun x=>?_) (fun x hx=>?_) _;{rw[Bool.eq_iff_iff];simp only[Bool.or_eq_true,decide_eq_true_iff];omega};{simp only[decide_eq_true_iff,decide_eq_false_iff_not]at hx ⊢;omega}
theorem yX (at_:List C) (m:Nat) (n:Int):TV at_ m n<=m:=by unfold TV;exact kh List.countP_le_length (by simp)
theorem q9y (at_:List C) (m i:Nat) (n:Int):Nk at_ (i+1) n=Nk at_ i n+(if i<at_.length/\(at_.getD i .nil).toInt=n then 1 else 0):=by unfold Nk;rw[List.range_succ,List.countP_append];simp[vz]
end
section
variable {R:Type} {N:Nat}
theorem q9j (s:CS) (m:MS) (n:Nat) (t t':C) (hp:s.yb.length=m.yb.length) (hl:s.least=m.least) (h1:t.get 1=t'.get 1) (h3:t.get 3=t'.get 3):TT s n t=Jm m n t':=by
 unfold TT Jm;rw[hp,hl,h1,h3];by_cases g:(t'.get 1).toInt<0\/(n:Int)-1<=(t'.get 1).toInt
 ·have g':¬(0<=(t'.get 1).toInt/\(t'.get 1).toInt<(n:Int)-1):=by omega
  rw[if_pos g,if_pos g']
 ·have g':¬¬(0<=(t'.get 1).toInt/\(t'.get 1).toInt<(n:Int)-1):=by omega
  rw[if_neg g,if_neg g']
theorem q2x {m i:Nat} (h:i<m):Fu (CU m) (.int (i:Nat))=true:=by unfold Fu;rw[List.any_eq_true];exact⟨.int (i:Nat),fa (Nf h),decide_eq_true rfl⟩
theorem qQ {m:Nat}:∀(l:List C) (i:Nat),i+l.length<=m->DY (CU m) i l=[]
 | [],_,_=>rfl|c::l,i,h=>by simp only[cg]at h;simp only[DY,q2x (show i<m by omega),if_true,AB];exact qQ l (i+1) (by omega)
theorem q8k {m i:Nat} (hi:i<=m):cut (CU m) 0 i=CU i:=by simp only[cut,CU,bu,jf,bb,<-List.map_take,List.take_range,Nat.min_eq_left hi]
theorem q2y {m i:Nat} (h:m<=i):Fu (CU m) (.int (i:Nat))=false:=by unfold Fu;rw[List.any_eq_false];intro c hc;have:=eA hc;simp only[decide_eq_true_iff];show ¬(i:Int)=c.toInt;omega
theorem iX {m:Nat}:∀(l:List C) (i:Nat),(∀j,l[j]? =(CU m)[i+j]?)->i+l.length=m->Dg (JP (CU m) m) i () l= .inl ()
 | [],_,_,_=>rfl|c::l,i,hg,hm=>by
  simp only[cg]at hm;have h0:=hg 0;rw[Nat.add_zero,Nf (show i<m by omega)]at h0;have hc:c= .int (i:Nat):=by simpa using h0
  have hb:JP (CU m) m i () c= .inl ():=by unfold JP;rw[hc,q8k (show i<=m by omega),q2y (bx i)];exact if_neg (by simp only[Bool.false_eq_true,or_false];show ¬((i:Int)<0\/(m:Int)<=(i:Int));omega)
  simp only[Dg,hb];refine iX l (i+1) (fun j=>?_) (by omega);have:=hg (j+1);rw[show i+1+j=i+(j+1) by omega,<-this];rfl
theorem Z5 (s:CS) (h:s.ya.toInt<1073741824):Il s (CU s.yb.length)=0:=by unfold Il;rw[if_neg (by omega),iX (CU s.yb.length) 0 (fun j=>by rw[bf]) (by rw[IY];omega)]
end
section
variable {R:Type} {N:Nat}
def HQ (t:C):C × C × C × C:=(t.get 0,t.get 1,t.get 2,t.get 7)
theorem q5d {n:Nat} {h:Int} {x:C × List Ent} {t t':C} (e:HQ t=HQ t'):FM n h x t=FM n h x t':=by simp only[HQ,fw]at e;obtain⟨e0,e1,e2,e7⟩:=e;unfold FM JH;rw[e0,e1,e2,e7]
theorem sN {n:Nat} {h:Int}:∀{ts ts':List C} {x:C × List Ent},ts.map HQ=ts'.map HQ->Gz n h ts x=Gz n h ts' x
 | [],[],_,_=>rfl| [],_::_,_,e=>by cases e
 |_::_,[],_,e=>by cases e
 |t::ts,t'::ts',x,e=>by simp only[dt,nf]at e;show Gz n h ts (FM n h x t)=Gz n h ts' (FM n h x t');rw[q5d e.1];exact sN e.2
structure EC (s:CS) (m:MS) (u:Nat):Prop where
 FK:GR s
 p:∀t∈s.yb,TxG t
 mp:∀t∈m.yb,TxM 5 t
 len:s.yb.length=m.yb.length
 least:s.least=m.least
 evs:s.evs.length+s.yb.length<=u
 z8R:m.evs.length+m.yb.length<=u
 tab:Ku m.tab
 lst:m.lst.length+m.yb.length<=u
 yc:m.yc.length<=16
 ya:0<=s.ya.toInt/\s.ya.toInt<=100000
 z8S:GB m.tab
 heq:s.ya=m.ya
 hint:s.ya= .int s.ya.toInt
 yd:s.yd=m.yd
 pos:Pos s.has
 z85:Pos m.has
 ord:∀t∈s.yb,MM 5 t
 z86:∀t∈m.yb,MM 5 t
 keys:s.yb.map HQ=m.yb.map HQ
 book:∃l:List Ent,s.book=l.map Cm/\m.lst=l.map DL
theorem q8K {s:CS} {m:MS} {u:Nat} (h:EC s m u) (hu:u<=64) (hh:s.ya.toInt<100000) (hN:2199023255552<N) (hN2:N<4611686018427387904):
  ∃(out:List C) (s':CS) (j:Nat->C) (z87:List C) (m':MS),EC s' m' u/\s'.ya.toInt=s.ya.toInt+1/\
   (∀k:KD R,OY N (.slice (CU m.yb.length)) s.least s.ya (.int s.yc.length) (.int s.yb.length) (.int s.evs.length) (.int (5:Nat)) (.int (5:Nat)) s.kept s.has s.yd (.agg s.yc) (.agg s.yb) (.agg s.evs) .nil s.book k=k (s'.Gb 5 out 0 j) [s'.book])/\
   ∀k:KD R,QA N (.slice (CU m.yb.length)) m.least m.ya (.int m.yc.length) (.int m.yb.length) (.int m.evs.length) (.int (5:Nat)) (.int (5:Nat)) m.kept m.has m.yd m.tab (.slice m.lst) (.agg m.yc) (.agg m.yb) (.agg m.evs) k=k (m'.Gb 5 z87 0 m.JJ) []:=by
 have he:=h.evs;have hme:=h.z8R;have hll:=h.lst;have hlen:=h.len;obtain⟨out,s',j,hb,hq⟩:=X4 (R:=R) (N:=N) s h.FK 5 (by decide) (CU s.yb.length) (by rw[IY];omega) h.p (by omega) (by rw[IY];omega) hN hN2;have hE:=Z5 s (by omega);obtain⟨z87,m1,hm,hmn,hmq⟩:=q4l (R:=R) (N:=N) m (by omega) h.yc h.tab (n:=5) (by decide) (by omega) h.mp (by omega) (by omega);rcases hb with⟨b1,_⟩|⟨_,s1,hs1,rfl⟩;{exact absurd hE b1};have hl0:DY (CU s.yb.length) 0 s.yb=[]:=qQ s.yb 0 (by omega);have hev:=hs1.evs;have z8L:(Ef (CU s.yb.length) s.yb).length=s.yb.length:=by unfold Ef;rw[fg,IY]
 rw[z8L]at hev;have hev:s1.evs.length=s.evs.length+s.yb.length:=hev;have hmev:m1.evs.length=m.evs.length+m.yb.length:=hm.evs;have hml:m1.lst.length<=m.lst.length+m.yb.length:=hm.l;have hlt:s1.least=s.least:=hs1.least;have y0Q:m1.least=m.least:=hm.least;have hht:s1.ya= .int (IntKind.u64.wrap (s.ya.toInt+1)):=hs1.ya;rw[hE]at hq;obtain⟨l,hb1,hb2⟩:=h.book;have hh0:=h.ya;have hwr:IntKind.u64.wrap (s.ya.toInt+1)=s.ya.toInt+1:=wrap_u64 (by omega) (by omega);have hsh:s.high.ya= .int (s.ya.toInt+1):=congrArg bc hwr;have hmh:m.high.ya= .int (s.ya.toInt+1):=by show bc (IntKind.u64.wrap (m.ya.toInt+1))=_;rw[<-h.heq,hwr]
 have hob:Ef (CU s.yb.length) s.yb=s.yb:=uA s.yb;have hd1:=lF (l:=l) hs1.d ⟨h.FK.b,h.FK.n⟩ (fun t ht=>h.ord t (by rw[hob]at ht;exact ht)) h.pos hb1 (by rw[hsh];rfl);have z8V:l.length=m.lst.length:=by rw[hb2,fg]
 have hd2:=hmn l hb2 h.z85 (by rw[hmh];rfl) h.z8S h.z86 (by omega);rw[hob,hsh]at hd1;rw[hmh]at hd2;obtain⟨n1,b1',p1⟩:=hd1;obtain⟨n2,b2',p2⟩:=hd2;have hnn:s.high.yd=m.high.yd:=h.yd;have hkk:Gz 5 (bc (s.ya.toInt+1)).toInt s.yb (s.high.yd,l)=Gz 5 (bc (s.ya.toInt+1)).toInt m.yb (m.high.yd,l):=by rw[hnn];exact sN h.keys
 rw[hkk]at n1 b1';have z9u:s1.ya= .int (s.ya.toInt+1):=by rw[hht,hwr]
 have y0R:m1.ya= .int (s.ya.toInt+1):=by rw[show m1.ya=m.high.ya from hm.ya,hmh]
 refine⟨out,{s1 with yb:=DY (CU s.yb.length) 0 s.yb},j,z87,{m1 with yb:=[]},⟨⟨hs1.FK.b,hs1.FK.n⟩,?_,(fun _ h=>nomatch h),?_,?_,?_,?_,?_,?_,hm.n,?_,?_,?_,?_,?_,?_,?_,(fun t ht=>?_),(fun _ h=>nomatch h),?_,?_⟩,congrArg aq z9u,?_,hmq⟩;{intro t ht;have ht:t∈DY (CU s.yb.length) 0 s.yb:=ht;rw[hl0]at ht;cases ht};{show(DY (CU s.yb.length) 0 s.yb).length=0;rw[hl0];rfl};{show s1.least=m1.least;rw[hlt,y0Q,h.least]};{show s1.evs.length+(DY (CU s.yb.length) 0 s.yb).length<=u;rw[hl0,hev];simpa using he};{show m1.evs.length+0<=u;omega};{show Ku m1.tab;have:m1.tab=m.tab:=hm.tab;rw[this];exact h.tab};{show m1.lst.length+0<=u;omega};{have hh0:=h.ya;show 0<=s1.ya.toInt/\s1.ya.toInt<=100000;rw[hht];show 0<=IntKind.u64.wrap (s.ya.toInt+1)/\_;rw[wrap_u64 (by omega) (by omega)];show 0<=s.ya.toInt+1/\s.ya.toInt+1<=100000;omega};{show GB m1.tab;have:m1.tab=m.tab:=hm.tab;rw[this];exact h.z8S};{show s1.ya=m1.ya;rw[z9u,y0R]};{show s1.ya= .int s1.ya.toInt;rw[z9u];rfl};{show s1.yd=m1.yd;rw[n1,n2]};{exact p1};{exact p2};{have ht:t∈DY (CU s.yb.length) 0 s.yb:=ht;rw[hl0]at ht;cases ht};{show(DY (CU s.yb.length) 0 s.yb).map HQ=[].map HQ;rw[hl0]};{exact⟨_,b1',b2'⟩};{rw[<-hlen];exact hq}
end
section
variable {R:Type} {N:Nat}
theorem EC.mono {s:CS} {m:MS} {u v:Nat} (h:EC s m u) (hv:u<=v):EC s m v:=
 ⟨h.FK,h.p,h.mp,h.len,h.least,kh h.evs hv,kh h.z8R hv,h.tab,kh h.lst hv,h.yc,h.ya,h.z8S,h.heq,h.hint,h.yd,h.pos,h.z85,h.ord,h.z86,h.keys,h.book⟩
theorem q9l {t d:C} (h:TxG t) (hd:Nx d):TxG (XC t d):=by refine⟨?_,hd,h.no,h.kind⟩;show C.wf (.slice 1 (.int .u8)) (.slice (t.get 9).elems);have e:t.get 9= .slice (t.get 9).elems:=h.yk.1;rw[<-e];exact h.yk
theorem eF {m:MS} {n:Nat} {t:C} (h:Jm m n t=0):0<=(t.get 1).toInt/\(t.get 1).toInt<(n:Int)-1:=by unfold Jm at h;split at h;{cases h};{split at h;{cases h};{rename_i g;exact Classical.not_not.1 g}}
theorem yG {s:CS} {m:MS} {u:Nat} (h:EC s m u) {t t':C} (ht:TxG t) (ht':TxG t') (ha:W64 (t'.get 5).toInt) (h1:t.get 1=t'.get 1) (h3:t.get 3=t'.get 3) (hk:HQ t=HQ t') (hf:(t.get 3).toInt=0) (hs:FT 32 (t.get 7)):
  ∃(s':CS) (j:Nat->C) (m':MS) (e:Int),EC s' m' (u+1)/\s'.ya=s.ya/\
   (∀k:KD R,Jv N t s.least s.ya (.int s.yc.length) (.int s.yb.length) (.int s.evs.length) (.int (5:Nat)) (.int (5:Nat)) s.kept s.has s.yd (.agg s.yc) (.agg s.yb) (.agg s.evs) .nil s.book k=k (s'.out 5 e j) [s'.book])/\
   ∀k:KD R,KY N t' m.least m.ya (.int m.yc.length) (.int m.yb.length) (.int m.evs.length) (.int (5:Nat)) (.int (5:Nat)) m.kept m.has m.yd m.tab (.slice m.lst) (.agg m.yc) (.agg m.yb) (.agg m.evs) k=k (m'.out 5 e m.JJ) []:=by
 obtain⟨d,j,hd,_,hq⟩:=q9m (R:=R) (N:=N) s (n:=5) (by decide) ht;have hm:∀k:KD R,_=_:=fun k=>q5a (N:=N) m 5 (by decide) t' k;have hE:=q9j s m 5 t t' h.len h.least h1 h3;rw[hE]at hq;have he:=h.evs;have hme:=h.z8R;have hll:=h.lst;have hlen:=h.len;by_cases g:Jm m 5 t'=0
 ·rw[if_pos g]at hq hm;refine⟨{s with yb:=s.yb++[XC t d]},j,{m with yb:=m.yb++[t']},Jm m 5 t',⟨⟨h.FK.b,h.FK.n⟩,fun x hx=>?_,fun x hx=>?_,?_,h.least,?_,?_,h.tab,?_,h.yc,h.ya,h.z8S,h.heq,h.hint,h.yd,h.pos,h.z85,fun x hx=>?_,fun x hx=>?_,?_,h.book⟩,rfl,hq,hm⟩;{rcases eh.1 hx with hx|hx;{exact h.p x hx};{rw[fj.1 hx];exact q9l ht hd}};{rcases eh.1 hx with hx|hx;{exact h.mp x hx};{rw[fj.1 hx];have:=eF g;exact⟨ht',ha,this.1,this.2⟩}};{show(s.yb++[_]).length=(m.yb++[_]).length;simp[hlen]};{show s.evs.length+(s.yb++[_]).length<=u+1;simp;omega};{show m.evs.length+(m.yb++[_]).length<=u+1;simp;omega};{show m.lst.length+(m.yb++[_]).length<=u+1;simp;omega};{rcases eh.1 hx with hx|hx;{exact h.ord x hx};{rw[fj.1 hx];have:=eF g;rw[<-h1]at this;exact⟨this.1,this.2,hf,hs⟩}}
  ·rcases eh.1 hx with hx|hx;{exact h.z86 x hx}
   ·rw[fj.1 hx];have:=eF g;have e7:t.get 7=t'.get 7:=by simp only[HQ,fw]at hk;exact hk.2.2.2
    exact⟨this.1,this.2,by rw[<-h3];exact hf,by rw[<-e7];exact hs⟩
  ·show(s.yb++[_]).map HQ=(m.yb++[_]).map HQ;rw[pt,pt,h.keys];exact congrArg (fun x=>_++[x]) hk
 ·rw[if_neg g]at hq hm;exact⟨s,j,m,Jm m 5 t',h.mono (nh _),rfl,hq,hm⟩
end
end Go.Proofs.YteealakhniofoaaGreatDoor
