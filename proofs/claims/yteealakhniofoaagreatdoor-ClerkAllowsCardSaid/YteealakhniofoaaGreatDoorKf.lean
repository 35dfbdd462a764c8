/-
 What the functions on the way compute, part 6.
 Conditions: none.
-/
import Derived.Test.YteealakhniofoaaGreatDoorKe
set_option linter.all false
noncomputable section
set_option maxRecDepth 100000
set_option maxHeartbeats 4000000
open Go.E.C renaming bool->de,elems->ax,get->bj,int->bc,set->cn,slice->bw,toBool->dg,toInt->aq
open Go.E.Key renaming g->dp,l->ch
open Go.E.O renaming box->dy,dead->fk
open Go.E.Ty renaming arr->ca,int->bm
open Go.E.V renaming agg->mf,sr->oq
open Go.IntKind renaming i64->ba,u64->ay,wrap->ar
open Int renaming lt_irrefl->eg,natCast_nonneg->bz,toNat->av,toNat_natCast->bb
open List renaming length->au,length_append->br,length_cons->cg,length_nil->cr,take->eu,take_length->dh
open Nat renaming beq_refl->bh,le_succ->nh,zero_add->bf
namespace Go.Proofs.YteealakhniofoaaGreatDoor
open Go Go.E
variable {R:Type} (N:Nat)
section
variable {R:Type} {N:Nat}
theorem q0w (l:List C) (i:Nat):(cut l 0 i).length<=l.length:=by unfold cut;simp;omega
def CS.Gb (s:CS) (n:Nat) (out:List C) (e:Int) (j:Nat->C):List C:=[.slice out,.int e,s.least,s.ya,.int s.yc.length,.int s.yb.length,.int s.evs.length,.int n,.int n,s.kept,j 0,s.has,j 1,s.yd,j 2,.agg s.yc,j 3,.agg s.yb,j 4,.agg s.evs]
def CS.mid (s:CS) (n:Nat) (l:List C) (j:Nat->C):List C:=[.slice l,s.least,s.ya,.int s.yc.length,.int s.yb.length,.int s.evs.length,.int n,.int n,s.kept,j 0,s.has,j 1,s.yd,j 2,.agg s.yc,j 3,.agg s.yb,j 4,.agg s.evs]
def J0 (s:CS):Nat->C:=jL (.int s.has.elems.length) (.int s.yd.elems.length) (.int s.yc.length) (.int s.yb.length) (.int s.evs.length)
theorem uU (s:CS) (n:Nat) (l:List C) (hl:l.length<=1000) (hN:2000<N) (k1 k2:KD R):
  BR N (Qw N k1 k2) [.slice l,.slice l,.int l.length,.int (0:Nat),s.least,s.ya,.int s.yc.length,.int s.yb.length,.int s.evs.length,.int n,.int n,s.kept,.int s.has.elems.length,s.has,.int s.yd.elems.length,s.yd,.int s.yc.length,.agg s.yc,.int s.yb.length,.agg s.yb,.int s.evs.length,.agg s.evs] [s.book]=
   LI (fun _=>k2 (s.mid n l (J0 s)) [s.book]) (fun _=>k1 (s.Gb n [] 1 (J0 s)) [s.book]) (Dg (JP l s.yb.length) 0 () l):=by
 refine SC (F:=Qw N k1 k2) (fun i (_:Unit)=>[.slice l,.slice l,.int l.length,.int i,s.least,s.ya,.int s.yc.length,.int s.yb.length,.int s.evs.length,.int n,.int n,s.kept,.int s.has.elems.length,s.has,.int s.yd.elems.length,s.yd,.int s.yc.length,.agg s.yc,.int s.yb.length,.agg s.yb,.int s.evs.length,.agg s.evs]) (fun _ _=>[s.book]) l (JP l s.yb.length) _ _ (s0:=()) ?_ ?_ (by omega)
 ·intro i _ c hx hi rec;have h1:(i:Int)<(l.length:Int):=by omega
  have hc:=q0w l i;have h2:Int.ofNat 0<=0/\0<=(i:Int)/\(i:Int)<=(l.length:Int):=⟨by decide,by omega,by omega⟩;unfold Qw JP;by_cases g1:c.toInt<0;{simp only[AR,AG,AX,BG,bb,Ab,AO,eq_self,AE,Ae,Af,and_self,bf,bh,Ay,AF,AH,AJ,AL,AQ,Aa,Ac,Ah,Ai,Aj,Ak,Al,Ao,Ap,Aq,Ar,Au,Av,Aw,Ax,Az,BA,BB,BC,BD,BF,h1,FJ hx,bz,g1,true_or,AB];rfl};by_cases g2:(s.yb.length:Int)<=c.toInt;{simp only[AR,AG,AX,BG,bb,Ab,AO,eq_self,AE,Ae,Af,and_self,bf,bh,Ay,AF,AH,AJ,AL,AQ,Aa,Ac,Ah,Ai,Aj,Ak,Al,Ao,Ap,Aq,Ar,Au,Av,Aw,Ax,Az,BA,BB,BC,BD,BF,h1,FJ hx,bz,g1,g2,true_or,or_true,AB];rfl};cases g3:Fu (cut l 0 i) c;{simp only[AR,AG,AX,BG,bb,Ab,AO,eq_self,AE,Ae,Af,and_self,bf,bh,Ay,AF,AH,AJ,AL,AQ,Aa,Ac,Ah,Ai,Aj,Ak,Al,Ao,Ap,Aq,Ar,Au,Av,Aw,Ax,Az,BA,BB,BC,BD,BF,h1,h2,FJ hx,bz,contains_eq (cut l 0 i) c (by omega) (show(cut l 0 i).length<N by omega),g1,g2,g3,Bp (show i<4611686018427387904 by omega),or_self,Bool.false_eq_true,AB]};{simp only[AR,AG,AX,BG,bb,Ab,AO,eq_self,AE,Ae,Af,and_self,bf,bh,Ay,AF,AH,AJ,AL,AQ,Aa,Ac,Ah,Ai,Aj,Ak,Al,Ao,Ap,Aq,Ar,Au,Av,Aw,Ax,Az,BA,BB,BC,BD,BF,h1,h2,FJ hx,bz,contains_eq (cut l 0 i) c (by omega) (show(cut l 0 i).length<N by omega),g1,g2,g3,or_true,AB];rfl}
 ·intro _ rec;unfold Qw;simp only[AR,AG,AX,BG,bb,Ab,AO,eq_self,AE,Ae,Af,and_self,bf,bh,Ay,AF,AH,AJ,AL,AQ,Aa,Ac,Ah,Ai,Aj,Ak,Al,Ao,Ap,Aq,Ar,Au,Av,Aw,Ax,Az,BA,BB,BC,BD,BF,eg,AB];rfl
structure ML (s:CS) (n:Nat) (ts out:List C) (s1:CS):Prop where
 d:DoL n s ts out s1
 FK:GR s1
 yb:s1.yb=s.yb
 evs:s1.evs.length=s.evs.length+ts.length
 len:out.length=ts.length
 least:s1.least=s.least
 ya:s1.ya=s.ya
theorem ML.next {s:CS} {n:Nat} {ts out:List C} {s1 s2:CS} {t:C} {e:Int} (h:ML s n ts out s1) (g:DoR s1 n t s2 e):ML s n (ts++[t]) (out++[.int e]) (s2.ev t e):=by obtain⟨g1,g2⟩:=g.FK h.FK;refine⟨h.d.snoc g,⟨g1.b,g1.n⟩,g2.yb.trans h.yb,?_,by simp[h.len],g2.least.trans h.least,g2.ya.trans h.ya⟩;show(s2.evs++[evR s2 t e]).length=_;rw[br,g2.evs,h.evs,br];simp only[cg,cr];omega
def Ef (l yb:List C):List C:=l.map fun p=>yb.getD p.toInt.toNat .nil
theorem uB (l yb:List C) {i:Nat} {c:C} (h:l[i]? =some c):Ef (l.take (i+1)) yb=Ef (l.take i) yb++[yb.getD c.toInt.toNat .nil]:=by unfold Ef;rw[List.take_add_one,h];simp
theorem q5V (s:CS) (hs:GR s) (n:Nat) (hn:n<4611686018427387904) (l:List C) (hl:l.length<=1000) (hp:∀t∈s.yb,TxG t) (hev:s.evs.length+l.length<=1024) (hg:∀c∈l,0<=c.toInt/\c.toInt<(s.yb.length:Int))
  (hN:2199023255552<N) (hN2:N<4611686018427387904) (a0 b0 b1 b2 b3 b4 b5 b6 b7 b8 b9 b10 b11 b12 b13:C) (m0:Es) (x1 x2 x3 x4 x5:Nat):
  ∃(out:List C) (s1:CS),ML s n (Ef l s.yb) out s1/\∀k2:KD R,BR N (Mb N a0 b0 b1 b2 b3 b4 b5 b6 b7 b8 b9 b10 b11 b12 b13 m0 k2) [.slice l,.slice l,.int l.length,.slice [],.int (0:Nat),s.least,s.ya,.int s.yc.length,.int s.yb.length,.int s.evs.length,.int n,.int n,s.kept,s.has,s.yd,.agg s.yc,.agg s.yb,.agg s.evs,.int x1,.int x2,.int x3,.int x4,.int x5,.int x1,.int x2,.int x3,.int x4,.int x5] [s.book]=
   k2 [.slice l,.slice out,s1.least,s1.ya,.int s1.yc.length,.int s1.yb.length,.int s1.evs.length,.int n,.int n,s1.kept,s1.has,s1.yd,.agg s1.yc,.agg s1.yb,.agg s1.evs,.int x1,.int x2,.int x3,.int x4,.int x5,.int x1,.int x2,.int x3,.int x4,.int x5] [s1.book]:=by
 have key:=Jg (R:=R) (F:=fun k2=>Mb N a0 b0 b1 b2 b3 b4 b5 b6 b7 b8 b9 b10 b11 b12 b13 m0 k2) l.length
  (fun i st sm=>∃(out:List C) (s1:CS),st=[.slice l,.slice l,.int l.length,.slice out,.int i,s1.least,s1.ya,.int s1.yc.length,.int s1.yb.length,.int s1.evs.length,.int n,.int n,s1.kept,s1.has,s1.yd,.agg s1.yc,.agg s1.yb,.agg s1.evs,.int x1,.int x2,.int x3,.int x4,.int x5,.int x1,.int x2,.int x3,.int x4,.int x5]/\sm=[s1.book]/\ML s n (Ef (l.take i) s.yb) out s1)
  (fun d m=>∃(out:List C) (s1:CS),d=[.slice l,.slice out,s1.least,s1.ya,.int s1.yc.length,.int s1.yb.length,.int s1.evs.length,.int n,.int n,s1.kept,s1.has,s1.yd,.agg s1.yc,.agg s1.yb,.agg s1.evs,.int x1,.int x2,.int x3,.int x4,.int x5,.int x1,.int x2,.int x3,.int x4,.int x5]/\m=[s1.book]/\ML s n (Ef l s.yb) out s1) ?_ ?_ l.length 0
  [.slice l,.slice l,.int l.length,.slice [],.int (0:Nat),s.least,s.ya,.int s.yc.length,.int s.yb.length,.int s.evs.length,.int n,.int n,s.kept,s.has,s.yd,.agg s.yc,.agg s.yb,.agg s.evs,.int x1,.int x2,.int x3,.int x4,.int x5,.int x1,.int x2,.int x3,.int x4,.int x5] [s.book] N (by omega) (by omega) ⟨[],s,rfl,rfl,⟨rfl,rfl⟩,hs,rfl,rfl,rfl,rfl,rfl⟩
 ·obtain⟨d,m',⟨out,s1,rfl,rfl,h⟩,heq⟩:=key;exact⟨out,s1,h,heq⟩
 ·rintro i st sm hi ⟨out,s1,rfl,rfl,h⟩;obtain⟨c,hc⟩:∃c,l[i]? =some c:=⟨_,List.getElem?_eq_getElem hi⟩;have h1:(i:Int)<(l.length:Int):=by omega
  have hcm:c∈l:=List.mem_of_getElem? hc;have hr:=hg c hcm;have hr2:0<=c.toInt/\c.toInt<(s1.yb.length:Int):=by rw[h.yb];exact hr
  have ht:TxG (s.yb.getD c.toInt.toNat .nil):=hp _ (Eb (by omega));have hlen:(Ef (l.take i) s.yb).length=i:=by simp[Ef];omega
  have he:=h.evs;have ho:=h.len;obtain⟨e,s2,j,hd,hdo⟩:=q05 (R:=R) (N:=N) h.FK hn ht hN hN2 (by omega);have hol:(out.length+1)*8<=140737488355328/\out.length+1<=9223372036854775807:=by omega
  refine⟨_,_,⟨out++[.int e],s2.ev (s.yb.getD c.toInt.toNat .nil) e,rfl,rfl,by rw[uB l s.yb hc];exact h.next hd⟩,fun k2 rec=>?_⟩;have hpe:(C.agg s1.yb).get c.toInt.toNat=s.yb.getD c.toInt.toNat .nil:=by rw[h.yb];rfl
  show Mb N a0 b0 b1 b2 b3 b4 b5 b6 b7 b8 b9 b10 b11 b12 b13 m0 k2 rec _ _=_;unfold Mb;simp only[AR,AG,AX,BG,bb,Ab,AO,eq_self,AE,Ae,Af,and_self,bf,bh,Ay,AF,AH,AJ,AL,AQ,Aa,Ac,Ah,Ai,Aj,Ak,Al,Ao,Ap,Aq,Ar,Au,Av,Aw,Ax,Az,BA,BB,BC,BD,BF,CA,CB,CC,CD,CE,CF,CG,CH,CI,CJ,CK,CL,CM,DV,h1,FJ hc,bz,hr2,hpe,hdo,AB];simp only[CS.out,AR,AG,AX,BG,bb,Ab,AO,eq_self,AE,Ae,Af,and_self,bf,bh,Ay,AF,AH,AJ,AL,AQ,Aa,Ac,Ah,Ai,Aj,Ak,Al,Ao,Ap,Aq,Ar,Au,Av,Aw,Ax,Az,BA,BB,BC,BD,BF,CA,CB,CC,CD,CE,CF,CG,CH,CI,CJ,CK,CL,CM,DV,hol,br,cg,cr,Bp (show i<4611686018427387904 by omega),AB]
 ·rintro st sm ⟨out,s1,rfl,rfl,h⟩;refine⟨_,_,⟨out,s1,rfl,rfl,by rwa [dh]at h⟩,fun k2 rec=>?_⟩;show Mb N a0 b0 b1 b2 b3 b4 b5 b6 b7 b8 b9 b10 b11 b12 b13 m0 k2 rec _ _=_;unfold Mb;simp only[AR,AG,AX,BG,bb,Ab,AO,eq_self,AE,Ae,Af,and_self,bf,bh,Ay,AF,AH,AJ,AL,AQ,Aa,Ac,Ah,Ai,Aj,Ak,Al,Ao,Ap,Aq,Ar,Au,Av,Aw,Ax,Az,BA,BB,BC,BD,BF,CA,CB,CC,CD,CE,CF,CG,CH,CI,CJ,CK,CL,CM,DV,eg,AB]
end
section
variable {R:Type} {N:Nat}
theorem q3V (s:CS) (n:Nat) (l out:List C) (hl:l.length<=1000) (hpl:s.yb.length<=64) (hN:2000<N) (a0 b0 b1 b2 b3 b4 b5 b6 b7 b8 b9 b10 b11 b12 b13:C) (m0:Es) (x1 x2 x3 x4 x5:Nat) (k2:KD R):
  BR N (Qv N a0 b0 b1 b2 b3 b4 b5 b6 b7 b8 b9 b10 b11 b12 b13 m0 k2) [.slice l,.int s.yb.length,.int s.yb.length,.slice out,.int (0:Nat),.int (0:Nat),s.least,s.ya,.int s.yc.length,.int s.yb.length,.int s.evs.length,.int n,.int n,s.kept,s.has,s.yd,.agg s.yc,.agg s.yb,.agg s.evs,.int x1,.int x2,.int x3,.int x4,.int x5,.int x1,.int x2,.int x3,.int x4,.int x5,.int x1,.int x2,.int x3,.int x4,.int x5,.agg []] [s.book]=
   k2 [.slice out,.int (DY l 0 s.yb).length,s.least,s.ya,.int s.yc.length,.int s.yb.length,.int s.evs.length,.int n,.int n,s.kept,s.has,s.yd,.agg s.yc,.agg s.yb,.agg s.evs,.int x1,.int x2,.int x3,.int x4,.int x5,.int x1,.int x2,.int x3,.int x4,.int x5,.int x1,.int x2,.int x3,.int x4,.int x5,.agg (DY l 0 s.yb)] [s.book]:=by
 have key:=Ee (R:=R) (F:=Qv N a0 b0 b1 b2 b3 b4 b5 b6 b7 b8 b9 b10 b11 b12 b13 m0 k2) (fun i=>[.slice l,.int s.yb.length,.int s.yb.length,.slice out,.int (DY l 0 (s.yb.take i)).length,.int i,s.least,s.ya,.int s.yc.length,.int s.yb.length,.int s.evs.length,.int n,.int n,s.kept,s.has,s.yd,.agg s.yc,.agg s.yb,.agg s.evs,.int x1,.int x2,.int x3,.int x4,.int x5,.int x1,.int x2,.int x3,.int x4,.int x5,.int x1,.int x2,.int x3,.int x4,.int x5,.agg (DY l 0 (s.yb.take i))]) (fun _=>[s.book]) s.yb.length (k2 [.slice out,.int (DY l 0 s.yb).length,s.least,s.ya,.int s.yc.length,.int s.yb.length,.int s.evs.length,.int n,.int n,s.kept,s.has,s.yd,.agg s.yc,.agg s.yb,.agg s.evs,.int x1,.int x2,.int x3,.int x4,.int x5,.int x1,.int x2,.int x3,.int x4,.int x5,.int x1,.int x2,.int x3,.int x4,.int x5,.agg (DY l 0 s.yb)] [s.book]) ?_ ?_ (N:=N) (by omega);{exact key}
 ·intro i hi rec;have h1:(i:Int)<(s.yb.length:Int):=by omega
  have hle:=qR l (s.yb.take i) 0;have hti:(s.yb.take i).length<=64:=by rw[List.length_take];omega
  have h3:((DY l 0 (s.yb.take i)).length+1)*2368<=140737488355328/\(DY l 0 (s.yb.take i)).length+1<=9223372036854775807:=by omega
  have hg:(C.agg s.yb).get i=s.yb.getD i .nil:=rfl;have e0:0+i=i:=bf i;unfold Qv;cases hh:Fu l (.int (i:Nat))
  ·have ht:DY l 0 (s.yb.take (i+1))=DY l 0 (s.yb.take i)++[s.yb.getD i .nil]:=by rw[Zt l s.yb 0 i hi,e0,hh];rfl
   simp only[AR,AG,AX,BG,bb,Ab,AO,eq_self,AE,Ae,Af,and_self,bf,bh,Ay,AF,AH,AJ,AL,AQ,Aa,Ac,Ah,Ai,Aj,Ak,Al,Ao,Ap,Aq,Ar,Au,Av,Aw,Ax,Az,BA,BB,BC,BD,BF,CA,CB,CC,CD,CE,CF,CG,CH,CI,CJ,CK,CL,CM,DV,h1,h3,hg,hh,ht,bz,contains_eq l (.int (i:Nat)) (by omega) (show l.length<N by omega),dh,br,cg,cr,Bp (show i<4611686018427387904 by omega),AB]
  ·have ht:DY l 0 (s.yb.take (i+1))=DY l 0 (s.yb.take i):=by rw[Zt l s.yb 0 i hi,e0,hh];exact List.append_nil _
   simp only[AR,AG,AX,BG,bb,Ab,AO,eq_self,AE,Ae,Af,and_self,bf,bh,Ay,AF,AH,AJ,AL,AQ,Aa,Ac,Ah,Ai,Aj,Ak,Al,Ao,Ap,Aq,Ar,Au,Av,Aw,Ax,Az,BA,BB,BC,BD,BF,CA,CB,CC,CD,CE,CF,CG,CH,CI,CJ,CK,CL,CM,DV,h1,h3,hg,hh,ht,bz,contains_eq l (.int (i:Nat)) (by omega) (show l.length<N by omega),dh,br,cg,cr,Bp (show i<4611686018427387904 by omega),AB]
 ·intro rec;unfold Qv;simp only[AR,AG,AX,BG,bb,Ab,AO,eq_self,AE,Ae,Af,and_self,bf,bh,Ay,AF,AH,AJ,AL,AQ,Aa,Ac,Ah,Ai,Aj,Ak,Al,Ao,Ap,Aq,Ar,Au,Av,Aw,Ax,Az,BA,BB,BC,BD,BF,CA,CB,CC,CD,CE,CF,CG,CH,CI,CJ,CK,CL,CM,DV,eg,dh,AB]
def Il (s:CS) (l:List C):Int:=if 1073741824<=s.ya.toInt then 8 else match Dg (JP l s.yb.length) 0 () l with| .inr _=>1| .inl _=>0
def CS.high (s:CS):CS:={s with ya:=.int (IntKind.u64.wrap (s.ya.toInt+1))}
theorem X4 (s:CS) (hs:GR s) (n:Nat) (hn:n<4611686018427387904) (l:List C) (hl:l.length<=1000) (hp:∀t∈s.yb,TxG t) (hpl:s.yb.length<=64) (hev:s.evs.length+l.length<=1024)
  (hN:2199023255552<N) (hN2:N<4611686018427387904):∃(out:List C) (s':CS) (j:Nat->C),((Il s l≠0/\out=[]/\s'=s)\/(Il s l=0/\∃s1,ML s.high n (Ef l s.yb) out s1/\s'={s1 with yb:=DY l 0 s.yb}))/\
  ∀k:KD R,OY N (.slice l) s.least s.ya (.int s.yc.length) (.int s.yb.length) (.int s.evs.length) (.int n) (.int n) s.kept s.has s.yd (.agg s.yc) (.agg s.yb) (.agg s.evs) .nil s.book k=k (s'.Gb n out (Il s l) j) [s'.book]:=by
 by_cases h1:1073741824<=s.ya.toInt
 ·have hb:Il s l=8:=by unfold Il;rw[if_pos h1]
  refine⟨[],s,J0 s,.inl ⟨by rw[hb];decide,rfl,rfl⟩,fun k=>?_⟩;rw[UO,hb];unfold Qx;simp only[AR,AG,AX,BG,bb,Ab,AO,eq_self,AE,Ae,Af,and_self,bf,bh,Ay,AF,AH,AJ,AL,AQ,Aa,Ac,Ah,Ai,Aj,Ak,Al,Ao,Ap,Aq,Ar,Au,Av,Aw,Ax,Az,BA,BB,BC,BD,BF,CA,CB,CC,CD,CE,CF,CG,CH,CI,CJ,CK,CL,CM,DV,h1,AB];rfl
 cases hr:Dg (JP l s.yb.length) 0 () l with
 |inr u=>
  have hb:Il s l=1:=by unfold Il;rw[if_neg h1,hr]
  refine⟨[],s,J0 s,.inl ⟨by rw[hb];decide,rfl,rfl⟩,fun k=>?_⟩;rw[UO,hb];unfold Qx;simp only[AR,AG,AX,BG,bb,Ab,AO,eq_self,AE,Ae,Af,and_self,bf,bh,Ay,AF,AH,AJ,AL,AQ,Aa,Ac,Ah,Ai,Aj,Ak,Al,Ao,Ap,Aq,Ar,Au,Av,Aw,Ax,Az,BA,BB,BC,BD,BF,CA,CB,CC,CD,CE,CF,CG,CH,CI,CJ,CK,CL,CM,DV,h1,AB];refine(uU s n l hl (by omega) k _).trans ?_;rw[hr];rfl
 |inl u=>
  have hb:Il s l=0:=by unfold Il;rw[if_neg h1,hr]
  have hg:=iW l s.yb.length l 0 hr;have hsh:GR s.high:=⟨hs.b,hs.n⟩;obtain⟨out,s1,hm,hq⟩:=q5V (R:=R) (N:=N) s.high hsh n hn l hl hp hev hg hN hN2 (.slice l) s.least s.ya (.int s.yc.length) (.int s.yb.length) (.int s.evs.length) (.int n) (.int n) s.kept s.has s.yd (.agg s.yc) (.agg s.yb) (.agg s.evs) .nil s.book s.has.elems.length s.yd.elems.length s.yc.length s.yb.length s.evs.length;refine⟨out,_,J0 s,.inr ⟨hb,s1,hm,rfl⟩,fun k=>?_⟩;rw[hb,UO];unfold Qx;simp only[AR,AG,AX,BG,bb,Ab,AO,eq_self,AE,Ae,Af,and_self,bf,bh,Ay,AF,AH,AJ,AL,AQ,Aa,Ac,Ah,Ai,Aj,Ak,Al,Ao,Ap,Aq,Ar,Au,Av,Aw,Ax,Az,BA,BB,BC,BD,BF,CA,CB,CC,CD,CE,CF,CG,CH,CI,CJ,CK,CL,CM,DV,h1,AB];refine(uU s n l hl (by omega) k _).trans ?_;rw[hr];simp only[LI,CS.mid,J0,jL,AR,AG,AX,BG,bb,Ab,AO,eq_self,AE,Ae,Af,and_self,bf,bh,Ay,AF,AH,AJ,AL,AQ,Aa,Ac,Ah,Ai,Aj,Ak,Al,Ao,Ap,Aq,Ar,Au,Av,Aw,Ax,Az,BA,BB,BC,BD,BF,CA,CB,CC,CD,CE,CF,CG,CH,CI,CJ,CK,CL,CM,DV,AB];refine(hq _).trans ?_;simp only[AR,AG,AX,BG,bb,Ab,AO,eq_self,AE,Ae,Af,and_self,bf,bh,Ay,AF,AH,AJ,AL,AQ,Aa,Ac,Ah,Ai,Aj,Ak,Al,Ao,Ap,Aq,Ar,Au,Av,Aw,Ax,Az,BA,BB,BC,BD,BF,CA,CB,CC,CD,CE,CF,CG,CH,CI,CJ,CK,CL,CM,DV,AB];have hps:s1.yb=s.yb:=hm.yb;refine(q3V s1 n l out hl (by rw[hps];exact hpl) (by omega) _ _ _ _ _ _ _ _ _ _ _ _ _ _ _ _ _ _ _ _ _ _).trans ?_;simp only[AR,AG,AX,BG,bb,Ab,AO,eq_self,AE,Ae,Af,and_self,bf,bh,Ay,AF,AH,AJ,AL,AQ,Aa,Ac,Ah,Ai,Aj,Ak,Al,Ao,Ap,Aq,Ar,Au,Av,Aw,Ax,Az,BA,BB,BC,BD,BF,CA,CB,CC,CD,CE,CF,CG,CH,CI,CJ,CK,CL,CM,DV,hps,AB];simp only[CS.Gb,J0,jL]
end
def dF (a0 a1 a2:C) (k1:KD R):Option R:=jn (fun J m1=>(bif dg (U J 2)then(k1 [bc 1,Dy] [])else(bif decide (aq (bj (U J 3) 6)=2)then(k1 [bc 31,Dy] [])else(if 0<=aq (U J 0)/\aq (U J 0)<2 then(Pu N (bj (bj (U J 3) 4) (av (aq (U J 0)))) (U J 1) (fun I m2=>(bif !decide (aq (U I 1)=0)then(k1 [U I 1,Dy] [])else(if 0<=aq (U J 0)/\aq (U J 0)<2 then(Pu N (bj (bj (cn (U J 3) 4 (cn (bj (U J 3) 4) (av (aq (U J 0))) (U I 0))) 4) (av 0)) (bj (bj (cn (U J 3) 4 (cn (bj (U J 3) 4) (av (aq (U J 0))) (U I 0))) 4) (av 1)) (fun d3 m3=>(bif !decide (aq (U d3 1)=0)then(k1 [U d3 1,Dy] [])else(k1 [bc 0,cn (U J 3) 4 (cn (bj (U J 3) 4) (av (aq (U J 0))) (U I 0))] []))))else none))))else none)))) (fun k2=>(bif !decide (aq a1=0)then(bif !decide (aq a1=1)then(k2 [a1,a2,de true,a0,Dy] [])else(k2 [a1,a2,de (decide (aq a2=0)),a0,Dy] []))else(k2 [a1,a2,de (decide (aq a2=0)),a0,Dy] [])))
def Py:=lid "" (@dF R N)
theorem wB {R N a0 a1 a2 k}:@Py R N a0 a1 a2 k=dF N a0 a1 a2 k:=by unfold Py;rw[BQ]
def q7r:OvG R:=Bq [AV,.int .i64,.int .u64] (Kx (Py N)) fun a K J m1=>K (V.tup [V.d AV (U J 1),V.d (bm ba) (U J 0)]) []
theorem q7s:okX 93 (@q7r R N):=CV (BJ (q6B N) <| BT) N [] [(93,[([0,0,1],(Cz [1,2,3,6] [(19,.d .bool)])),
  ([9],⟨[],[(6,.as (.ptr (.l 6) [] AV)),(7,.d (.int .i64))],[],[(.l 6,.box (.d AV))],[],[]⟩)])] (fun _ _=>wB)
section
variable {R:Type} {N:Nat}
theorem j4 {x:Int} (h:W64 x):Ci 0 x=(x,0):=by have:=h.1;have:=h.2;unfold Ci;rw[if_pos (by omega)];congr 1;omega
theorem q9n {x y:C} (hx:W64 x.toInt):(Nj [x,y]).2=(Ci x.toInt y.toInt).2:=by unfold Nj;simp only[Dg,Tu,j4 hx,if_true,AB];by_cases h:(Ci x.toInt y.toInt).2=0 <;> simp[XN,h]
section
variable {id who rts:C} {yk:List C} {put yy ph un yw:C}
theorem q8i (side yj:C) (h0:W64 (put.get 0).toInt) (h1:W64 (put.get 1).toInt) (ha:W64 yj.toInt) (hp:put= .agg [put.get 0,put.get 1]) (k:KD R):
  Py N (mkB id who rts yk put yy ph un yw) side yj k=k [.int (KO id who rts yk put yy ph un yw side.toInt yj.toInt).1,(KO id who rts yk put yy ph un yw side.toInt yj.toInt).2] []:=by
 have h6:(mkB id who rts yk put yy ph un yw).get 6=ph:=rfl;have h4:(mkB id who rts yk put yy ph un yw).get 4=put:=rfl;rw[wB];unfold dF KO;rw[XX];refine(q2X [side,yj,.bool (decide ((side.toInt≠0/\side.toInt≠1)\/yj.toInt=0)),mkB id who rts yk put yy ph un yw,zB] [] fun K=>?_).trans ?_;{by_cases z0:side.toInt=0;{simp[z0]};{by_cases z1:side.toInt=1 <;> simp[z0,z1]}};simp only[AF,AH,AJ,AL,AX,h6,h4];by_cases a1:(side.toInt≠0/\side.toInt≠1)\/yj.toInt=0;{simp only[a1,AE,AB]};have hs:0<=side.toInt/\side.toInt<2:=by omega
 by_cases a2:ph.toInt=2;{simp only[a1,a2,AE,AB]};have hg:W64 (put.get side.toInt.toNat).toInt:=by rcases(by omega:side.toInt.toNat=0\/side.toInt.toNat=1)with e|e <;> rw[e];{exact h0};{exact h1}
 simp only[a1,a2,AE,hs,and_self,vI _ _ hg ha,AF,AH,AG,AB];by_cases b1:(Ci (put.get side.toInt.toNat).toInt yj.toInt).2=0
 case neg=>simp only[b1,AE,ne_eq,not_false_iff,AB]
 have hw:W64 (Ci (put.get side.toInt.toNat).toInt yj.toInt).1:=j7;have es:cn (mkB id who rts yk put yy ph un yw) 4 (put.set side.toInt.toNat (.int (Ci (put.get side.toInt.toNat).toInt yj.toInt).1))=mkB id who rts yk (put.set side.toInt.toNat (.int (Ci (put.get side.toInt.toNat).toInt yj.toInt).1)) yy ph un yw:=rfl;have e4:∀x:C,(mkB id who rts yk x yy ph un yw).get 4=x:=fun x=>rfl;simp only[b1,AE,ne_eq,not_true,es,e4,Int.toNat_zero,Int.toNat_one];generalize (Ci (put.get side.toInt.toNat).toInt yj.toInt).1=v at hw;have g:W64 ((put.set side.toInt.toNat (.int v)).get 0).toInt/\W64 ((put.set side.toInt.toNat (.int v)).get 1).toInt:=by rw[hp];rcases(by omega:side.toInt.toNat=0\/side.toInt.toNat=1)with e|e <;> rw[e];{exact⟨hw,h1⟩};{exact⟨h0,hw⟩}
 rw[vI _ _ g.1 g.2];simp only[AF,AH,AG,q9n g.1,AB];by_cases b2:(Ci ((put.set side.toInt.toNat (bc v)).get 0).toInt ((put.set side.toInt.toNat (bc v)).get 1).toInt).2=0;{simp only[b2,AE,not_true]};{simp only[b2,AE,not_false_iff,AB]}
end
end
def q63:List Sh:=[.as (.ptr (.g (.l 1)) [] BN),.d (.int .i64)]
def q7b:List (Key × OSh):=[(.l 1,.box (.agg BN [.vec (.g (.l 2)) 8 (.int .u64),.vec (.g (.l 3)) 8 (.int .u64),.d (.int .u64)])),(.l 2,.box (.arr (.int .u64))),(.l 3,.box (.arr (.int .u64)))]
def dA {R:Type} (N:Nat) (a0 b0 b1 b2 b3 b4:C) (k1:KD R):Option R:=jn (fun J m1=>(k1 [de (dg (U J 0))] [])) (fun k2=>(bif decide (0<=aq a0)then(k2 [de (decide (aq a0<(↑(av (aq b0)):Int)))] [])else(k2 [de false] [])))
def Ls:=lid "" (@dA R N)
theorem vU {R N a0 b0 b1 b2 b3 b4 k}:@Ls R N a0 b0 b1 b2 b3 b4 k=dA N a0 b0 b1 b2 b3 b4 k:=by unfold Ls;rw[BQ]
def q7a:OvG R:=Cu q63 q7b (fun ds ms=>Ls N (U ds 0) (U ds 1) (U ds 2) (U ds 3) (U ds 4) (U ds 5)) fun ds ms K J m1=>K (V.d Ty.bool (de (dg (U J 0)))) []
theorem cZ:okX 90 (@q7a R N):=Cv BT N [] [(90,[([0,1],⟨[0],[(4,.d .bool)],[],[],[.g (.l 1),.g (.l 2),.g (.l 3)],[(.int .u64)]⟩),
  ([9],⟨[],[(4,.d .bool)],[],[],[.g (.l 1),.g (.l 2),.g (.l 3)],[(.int .u64)]⟩)])] (fun _ _ _=>vU)
def q6Z:List Sh:=[.as (.ptr (.g (.l 1)) [] BN),.d (.int .i64),.d (.int .u64)]
def q62:List (Key × OSh):=[(.l 1,.box (.agg BN [.vec (.g (.l 2)) 8 (.int .u64),.vec (.g (.l 3)) 8 (.int .u64),.d (.int .u64)])),(.l 2,.box (.arr (.int .u64))),(.l 3,.box (.arr (.int .u64)))]
def cY (a0 a1 b0 b1 b2 b3 b4:C) (k1:KD R):Option R:=if au (ax b3)=au (ax b3)then(gA b4 (Ls N a0 (nI b0) (nI b1) b2 b3 b4 (fun J m1=>(bif !dg (U J 0)then(gA b3 (gA b4 (k1 [bc 1,nI b0,nI b1,b2,bc (↑(au (ax b3)):Int),b3,bc (↑(au (ax b4)):Int),b4] [])))else(if 0<=aq a0/\aq a0<(↑(av (aq b1)):Int)then(bif !decide (aq (bj b4 (0+av (aq a0)))=aq a1)then(gA b3 (gA b4 (k1 [bc 22,nI b0,nI b1,b2,bc (↑(au (ax b3)):Int),b3,bc (↑(au (ax b4)):Int),b4] [])))else(if 0<=aq a0/\aq a0<(↑(av (aq b1)):Int)then(gA b3 (if au (ax b4)=au (ax (cn b4 (0+av (aq a0)) (bc (ar ay (aq a1+1)))))then(k1 [bc 0,nI b0,nI b1,b2,bc (↑(au (ax b3)):Int),b3,bc (↑(au (ax b4)):Int),cn b4 (0+av (aq a0)) (bc (ar ay (aq a1+1)))] [])else none))else none))else none)))))else none
def Sm:=lid "" (@cY R N)
theorem vT {R N a0 a1 b0 b1 b2 b3 b4 k}:@Sm R N a0 a1 b0 b1 b2 b3 b4 k=cY N a0 a1 b0 b1 b2 b3 b4 k:=by unfold Sm;rw[BQ]
def q60:OvG R:=Cu q6Z q62 (fun ds ms=>Sm N (U ds 0) (U ds 1) (U ds 2) (U ds 3) (U ds 4) (U ds 5) (U ds 6)) fun ds ms K J m1=>K (V.d (bm ba) (U J 0)) [(dp (ch 1),
  dy
   (mf BN
    [oq (ch 1000000000074) [] 0 (av (aq (U J 1))) none 8 (bm ay),
     oq (ch 1000000000106) [] 0 (av (aq (U J 2))) none 8 (bm ay),
     V.d (bm ay) (U J 3)])),
 (dp (ch 2),fk (ca (av (aq (U J 4))) (bm ay))),
 (ch 1000000000074,dy (V.d (ca (au (ax (U J 5))) (bm ay)) (U J 5))),
 (dp (ch 3),fk (ca (av (aq (U J 6))) (bm ay))),
 (ch 1000000000106,dy (V.d (ca (au (ax (U J 7))) (bm ay)) (U J 7)))]
theorem q61:okX 72 (@q60 R N):=Cv (BJ (cZ N) <| BT) N [] [(72,[([9],⟨[],[(6,.d (.int .i64))],[.g (.l 1),.g (.l 2),.g (.l 3)],[],[],[(.int .u64)]⟩)])] (fun _ _ _=>vT)
def q6U:List Sh:=[.as (.ptr (.g (.l 1)) [] BN),.d (.int .i64),.d (.int .i64),.d (.int .u64)]
def q6X:List (Key × OSh):=[(.l 1,.box (.agg BN [.vec (.g (.l 2)) 8 (.int .u64),.vec (.g (.l 3)) 8 (.int .u64),.d (.int .u64)])),(.l 2,.box (.arr (.int .u64))),(.l 3,.box (.arr (.int .u64)))]
def vS (a0 a1 a2 b0 b1 b2 b3 b4:C) (k1:KD R):Option R:=jn (fun J m1=>(bif dg (U J 3)then(gA (U J 8) (gA (U J 10) (k1 [bc 1,nI (U J 4),nI (U J 5),U J 6,nI (U J 7),U J 8,nI (U J 9),U J 10] [])))else(if 0<=aq (U J 0)/\aq (U J 0)<(↑(av (aq (U J 4))):Int)then(bif decide (aq (bj (U J 8) (0+av (aq (U J 0))))<aq (U J 2))then(gA (U J 8) (gA (U J 10) (k1 [bc 12,nI (U J 4),nI (U J 5),U J 6,nI (U J 7),U J 8,nI (U J 9),U J 10] [])))else(if 0<=aq (U J 0)/\aq (U J 0)<(↑(av (aq (U J 4))):Int)then(if 0<=aq (U J 0)/\aq (U J 0)<(↑(av (aq (U J 4))):Int)then(if 0<=aq (U J 1)/\aq (U J 1)<(↑(av (aq (U J 4))):Int)then(if 0<=aq (U J 1)/\aq (U J 1)<(↑(av (aq (U J 4))):Int)then(if au (ax (U J 8))=au (ax (cn (cn (U J 8) (0+av (aq (U J 0))) (bc (ar ay (aq (bj (U J 8) (0+av (aq (U J 0))))-aq (U J 2))))) (0+av (aq (U J 1))) (bc (ar ay (aq (bj (cn (U J 8) (0+av (aq (U J 0))) (bc (ar ay (aq (bj (U J 8) (0+av (aq (U J 0))))-aq (U J 2))))) (0+av (aq (U J 1))))+aq (U J 2))))))then(gA (U J 10) (k1 [bc 0,nI (U J 4),nI (U J 5),U J 6,nI (U J 7),cn (cn (U J 8) (0+av (aq (U J 0))) (bc (ar ay (aq (bj (U J 8) (0+av (aq (U J 0))))-aq (U J 2))))) (0+av (aq (U J 1))) (bc (ar ay (aq (bj (cn (U J 8) (0+av (aq (U J 0))) (bc (ar ay (aq (bj (U J 8) (0+av (aq (U J 0))))-aq (U J 2))))) (0+av (aq (U J 1))))+aq (U J 2)))),nI (U J 9),U J 10] []))else none)else none)else none)else none)else none))else none))) (fun k2=>(gA b3 (gA b4 (Ls N a0 (nI b0) (nI b1) b2 b3 b4 (fun J m1=>(bif !dg (U J 0)then(gA b3 (gA b4 (k2 [a0,a1,a2,de true,nI b0,nI b1,b2,bc (↑(au (ax b3)):Int),b3,bc (↑(au (ax b4)):Int),b4] [])))else(gA b3 (gA b4 (Ls N a1 (nI b0) (nI b1) b2 b3 b4 (fun I m2=>(gA b3 (gA b4 (k2 [a0,a1,a2,de !dg (U I 0),nI b0,nI b1,b2,bc (↑(au (ax b3)):Int),b3,bc (↑(au (ax b4)):Int),b4] [])))))))))))))
def WX:=lid "" (@vS R N)
theorem q6Y {R N a0 a1 a2 b0 b1 b2 b3 b4 k}:@WX R N a0 a1 a2 b0 b1 b2 b3 b4 k=vS N a0 a1 a2 b0 b1 b2 b3 b4 k:=by unfold WX;rw[BQ]
def q6V:OvG R:=Cu q6U q6X (fun ds ms=>WX N (U ds 0) (U ds 1) (U ds 2) (U ds 3) (U ds 4) (U ds 5) (U ds 6) (U ds 7)) fun ds ms K J m1=>K (V.d (bm ba) (U J 0)) [(dp (ch 1),
  dy
   (mf BN
    [oq (ch 1000000000074) [] 0 (av (aq (U J 1))) none 8 (bm ay),
     oq (ch 1000000000106) [] 0 (av (aq (U J 2))) none 8 (bm ay),
     V.d (bm ay) (U J 3)])),
 (dp (ch 2),fk (ca (av (aq (U J 4))) (bm ay))),
 (ch 1000000000074,dy (V.d (ca (au (ax (U J 5))) (bm ay)) (U J 5))),
 (dp (ch 3),fk (ca (av (aq (U J 6))) (bm ay))),
 (ch 1000000000106,dy (V.d (ca (au (ax (U J 7))) (bm ay)) (U J 7)))]
theorem q6W:okX 73 (@q6V R N):=Cv (BJ (cZ N) <| BT) N [] [(73,[([0,0,1],⟨[0,1,2,3],[(18,.d .bool)],[.g (.l 1),.g (.l 2),.g (.l 3)],[],[],[(.int .u64)]⟩),
  ([9],⟨[],[(8,.d (.int .i64))],[.g (.l 1),.g (.l 2),.g (.l 3)],[],[],[(.int .u64)]⟩)])] (fun _ _ _=>q6Y)
def q7J:List Sh:=[.as (.ptr (.g (.l 1)) [] Ba),.d (.int .i64)]
def q7L:List (Key × OSh):=[(.l 1,.box (.agg Ba [.as (.ptr (.g (.l 2)) [] BN),.as (.ptr (.g (.l 5)) [] Bc),.d (.int .u64),.d (.int .u64),.vec (.g (.l 7)) 240 AV,.vec (.g (.l 8)) 2368 tTx,.vec (.g (.l 9)) 40 AW])),(.l 2,.box (.agg BN [.vec (.g (.l 3)) 8 (.int .u64),.vec (.g (.l 4)) 8 (.int .u64),.d (.int .u64)])),(.l 3,.box (.arr (.int .u64))),(.l 4,.box (.arr (.int .u64))),(.l 5,.box (.agg Bc [.d Bf,.ts 72 Bw])),(.l 7,.box (.arr AV)),(.l 8,.box (.arr tTx)),(.l 9,.box (.arr AW))]
def dJ {R:Type} (N:Nat) (a0 b0 b1 b2 b3 b4 b5 b6 b7 b8 b9 b10 b11 b12 b13 b14:C) (k1:KD R):Option R:=jn (fun J m1=>(k1 [de (dg (U J 0))] [])) (fun k2=>(bif decide (0<=aq a0)then(k2 [de (decide (aq a0<ar ba ((↑(av (aq b5)):Int)-1)))] [])else(k2 [de false] [])))
def QE:=lid "" (@dJ R N)
theorem wK {R N a0 b0 b1 b2 b3 b4 b5 b6 b7 b8 b9 b10 b11 b12 b13 b14 k}:@QE R N a0 b0 b1 b2 b3 b4 b5 b6 b7 b8 b9 b10 b11 b12 b13 b14 k=dJ N a0 b0 b1 b2 b3 b4 b5 b6 b7 b8 b9 b10 b11 b12 b13 b14 k:=by unfold QE;rw[BQ]
def q7K:OvG R:=Cu q7J q7L (fun ds ms=>QE N (U ds 0) (U ds 1) (U ds 2) (U ds 3) (U ds 4) (U ds 5) (U ds 6) (U ds 7) (U ds 8) (U ds 9) (U ds 10) (U ds 11) (U ds 12) (U ds 13) (U ds 14) (U ds 15)) fun ds ms K J m1=>K (V.d Ty.bool (de (dg (U J 0)))) []
theorem wJ:okX 45 (@q7K R N):=Cv BT N [] [(45,[([0,1],⟨[0],[(4,.d .bool)],[],[],[.g (.l 1),.g (.l 2),.g (.l 3),.g (.l 4),.g (.l 5),.g (.l 7),.g (.l 8),.g (.l 9)],[(.int .u64),AV,tTx,AW]⟩),
  ([9],⟨[],[(4,.d .bool)],[],[],[.g (.l 1),.g (.l 2),.g (.l 3),.g (.l 4),.g (.l 5),.g (.l 7),.g (.l 8),.g (.l 9)],[(.int .u64),AV,tTx,AW]⟩)])] (fun _ _ _=>wK)
def dG {R:Type} (N:Nat) (a0 a1 a2 a3:C) (k1:KD R):Option R:=jn (fun J m1=>(bif dg (U J 4)then(k1 [bc 1,Dy] [])else(bif !decide (Dj (ax (U J 1))=0)then(k1 [bc (Dj (ax (U J 1))),Dy] [])else(k1 [bc 0,C.agg [U J 0,U J 2,U J 3,U J 1,AI (ca 2 (bm ay)),AI (ca 2 (bm ay)),AI (bm ba),AI (bm ay),C.agg [U J 0,AI (bm ay),AI (ca 2 (bm ay)),AI (ca 2 (bm ay)),bw []]]] [])))) (fun k2=>(bif decide (aq (bj a1 (av 0))=aq (bj a1 (av 1)))then(k2 [a0,a3,a1,a2,de true,Dy] [])else(bif decide (aq (bj a2 1)<0)then(k2 [a0,a3,a1,a2,de true,Dy] [])else(k2 [a0,a3,a1,a2,de (decide (8<aq (bj a2 1))),Dy] []))))
def Pz:=lid "" (@dG R N)
theorem wC {R N a0 a1 a2 a3 k}:@Pz R N a0 a1 a2 a3 k=dG N a0 a1 a2 a3 k:=by unfold Pz;rw[BQ]
def q7t:OvG R:=Bq [.int .u32,.arr 2 (.int .i64),Di,.slice 1 (.int .u8)] (fun a=>Pz N (a 0) (a 1) (a 2) (a 3)) fun a K J m1=>K (V.tup [V.d AV (U J 1),V.d (bm ba) (U J 0)]) []
theorem q7u:okX 92 (@q7t R N):=CV (BJ (q7o N) <| BT) N [(92,[(0,[(5,5),(6,5)])])] [(92,[([0,0,1],(Cz [0,3,5,6,8] [(25,.d .bool)])),
  ([9],⟨[],[(8,.as (.ptr (.l 8) [] AV)),(9,.d (.int .i64))],[],[(.l 8,.box (.d AV))],[],[]⟩)])] (fun _ _=>wC)
def q6Q:List Sh:=[.as (.ptr (.g (.l 1)) [] BN),.d (.int .i64),.d (.int .u64)]
def q6T:List (Key × OSh):=[(.l 1,.box (.agg BN [.vec (.g (.l 2)) 8 (.int .u64),.vec (.g (.l 3)) 8 (.int .u64),.d (.int .u64)])),(.l 2,.box (.arr (.int .u64))),(.l 3,.box (.arr (.int .u64)))]
def cX (a0 a1 b0 b1 b2 b3 b4:C) (k1:KD R):Option R:=if au (ax b3)=au (ax b3)then(gA b4 (Ls N a0 (nI b0) (nI b1) b2 b3 b4 (fun J m1=>(bif !dg (U J 0)then(gA b3 (gA b4 (k1 [bc 1,nI b0,nI b1,b2,bc (↑(au (ax b3)):Int),b3,bc (↑(au (ax b4)):Int),b4] [])))else(if 0<=aq a0/\aq a0<(↑(av (aq b0)):Int)then(bif decide (aq (bj b3 (0+av (aq a0)))<aq a1)then(gA b3 (gA b4 (k1 [bc 12,nI b0,nI b1,b2,bc (↑(au (ax b3)):Int),b3,bc (↑(au (ax b4)):Int),b4] [])))else(if 0<=aq a0/\aq a0<(↑(av (aq b0)):Int)then(if 0<=aq a0/\aq a0<(↑(av (aq b0)):Int)then(if au (ax b3)=au (ax (cn b3 (0+av (aq a0)) (bc (ar ay (aq (bj b3 (0+av (aq a0)))-aq a1)))))then(gA b4 (k1 [bc 0,nI b0,nI b1,bc (ar ay (aq b2+aq a1)),bc (↑(au (ax b3)):Int),cn b3 (0+av (aq a0)) (bc (ar ay (aq (bj b3 (0+av (aq a0)))-aq a1))),bc (↑(au (ax b4)):Int),b4] []))else none)else none)else none))else none)))))else none
def Sl:=lid "" (@cX R N)
theorem vR {R N a0 a1 b0 b1 b2 b3 b4 k}:@Sl R N a0 a1 b0 b1 b2 b3 b4 k=cX N a0 a1 b0 b1 b2 b3 b4 k:=by unfold Sl;rw[BQ]
def q6R:OvG R:=Cu q6Q q6T (fun ds ms=>Sl N (U ds 0) (U ds 1) (U ds 2) (U ds 3) (U ds 4) (U ds 5) (U ds 6)) fun ds ms K J m1=>K (V.d (bm ba) (U J 0)) [(dp (ch 1),
  dy
   (mf BN
    [oq (ch 1000000000074) [] 0 (av (aq (U J 1))) none 8 (bm ay),
     oq (ch 1000000000106) [] 0 (av (aq (U J 2))) none 8 (bm ay),
     V.d (bm ay) (U J 3)])),
 (dp (ch 2),fk (ca (av (aq (U J 4))) (bm ay))),
 (ch 1000000000074,dy (V.d (ca (au (ax (U J 5))) (bm ay)) (U J 5))),
 (dp (ch 3),fk (ca (av (aq (U J 6))) (bm ay))),
 (ch 1000000000106,dy (V.d (ca (au (ax (U J 7))) (bm ay)) (U J 7)))]
theorem q6S:okX 94 (@q6R R N):=Cv (BJ (cZ N) <| BT) N [] [(94,[([9],⟨[],[(6,.d (.int .i64))],[.g (.l 1),.g (.l 2),.g (.l 3)],[],[],[(.int .u64)]⟩)])] (fun _ _ _=>vR)
def q7F:List Sh:=[.as (.ptr (.g (.l 1)) [] Ba),.d tTx]
def q7I:List (Key × OSh):=[(.l 1,.box (.agg Ba [.as (.ptr (.g (.l 2)) [] BN),.as (.ptr (.g (.l 5)) [] Bc),.d (.int .u64),.d (.int .u64),.vec (.g (.l 7)) 240 AV,.vec (.g (.l 8)) 2368 tTx,.vec (.g (.l 9)) 40 AW])),(.l 2,.box (.agg BN [.vec (.g (.l 3)) 8 (.int .u64),.vec (.g (.l 4)) 8 (.int .u64),.d (.int .u64)])),(.l 3,.box (.arr (.int .u64))),(.l 4,.box (.arr (.int .u64))),(.l 5,.box (.agg Bc [.d Bf,.ts 72 Bw])),(.l 7,.box (.arr AV)),(.l 8,.box (.arr tTx)),(.l 9,.box (.arr AW))]
def KZ (a0 b0 b1 b2 b3 b4 b5 b6 b7 b8 b9 b10 b11 b12 b13 b14:C) (k1:KD R):Option R:=bif decide (16<=(↑(av (aq b2)):Int))then(gA b8 (gA b9 (gA b12 (gA b13 (gA b14 (k1 [bc 4,b10,bw (ax b11),b0,b1,nI b2,nI b3,nI b4,nI b5,nI b6,b7,bc (↑(au (ax b8)):Int),b8,bc (↑(au (ax b9)):Int),b9,bc (↑(au (ax b12)):Int),b12,bc (↑(au (ax b13)):Int),b13,bc (↑(au (ax b14)):Int),b14] []))))))else(gA b8 (gA b9 (gA b12 (gA b13 (gA b14 (QE N (bj a0 4) b0 b1 (nI b2) (nI b3) (nI b4) (nI b5) (nI b6) b7 b8 b9 b10 (bw (ax b11)) b12 b13 b14 (fun J m1=>(bif !dg (U J 0)then(gA b8 (gA b9 (gA b12 (gA b13 (gA b14 (k1 [bc 1,b10,bw (ax b11),b0,b1,nI b2,nI b3,nI b4,nI b5,nI b6,b7,bc (↑(au (ax b8)):Int),b8,bc (↑(au (ax b9)):Int),b9,bc (↑(au (ax b12)):Int),b12,bc (↑(au (ax b13)):Int),b13,bc (↑(au (ax b14)):Int),b14] []))))))else(Pz N (bc (ar IntKind.u32 (↑(av (aq b2)):Int))) (cn (cn (AI (ca 2 (bm ba))) 0 (bj a0 1)) 1 (bj a0 4)) (bj a0 8) (bj a0 9) (fun I m2=>(bif !decide (aq (U I 0)=0)then(gA b8 (gA b9 (gA b12 (gA b13 (gA b14 (k1 [U I 0,b10,bw (ax b11),b0,b1,nI b2,nI b3,nI b4,nI b5,nI b6,b7,bc (↑(au (ax b8)):Int),b8,bc (↑(au (ax b9)):Int),b9,bc (↑(au (ax b12)):Int),b12,bc (↑(au (ax b13)):Int),b13,bc (↑(au (ax b14)):Int),b14] []))))))else(jn (fun d3 m3=>(gL (av (aq (U d3 2))) 240 (gA (U d3 9) (gA (U d3 11) (if av (aq (U d3 2))+1=au (eu (av (aq (U d3 2))) (ax (U d3 15))++[U d3 20])then(gA (U d3 17) (gA (U d3 19) (k1 [bc 0,U d3 12,bw (ax (U d3 13)),U d3 0,U d3 1,bc (↑(av (aq (U d3 2))+1):Int),nI (U d3 3),nI (U d3 4),nI (U d3 5),nI (U d3 6),U d3 7,nI (U d3 8),U d3 9,nI (U d3 10),U d3 11,nI (U d3 14),C.agg (eu (av (aq (U d3 2))) (ax (U d3 15))++[U d3 20]),nI (U d3 16),U d3 17,nI (U d3 18),U d3 19] [])))else none))))) (fun k2=>(bif decide (0<aq (bj a0 5))then(Py N (U I 1) (bc 0) (bj a0 5) (fun d3 m3=>(bif !decide (aq (U d3 0)=0)then(gA b8 (gA b9 (gA b12 (gA b13 (gA b14 (k1 [U d3 0,b10,bw (ax b11),b0,b1,nI b2,nI b3,nI b4,nI b5,nI b6,b7,bc (↑(au (ax b8)):Int),b8,bc (↑(au (ax b9)):Int),b9,bc (↑(au (ax b12)):Int),b12,bc (↑(au (ax b13)):Int),b13,bc (↑(au (ax b14)):Int),b14] []))))))else(gA b8 (gA b9 (Sl N (bj a0 1) (bj a0 5) (nI b5) (nI b6) b7 b8 b9 (fun d4 m4=>(bif !decide (aq (U d4 0)=0)then(gA (U d4 5) (gA (U d4 7) (gA b12 (gA b13 (gA b14 (k1 [U d4 0,b10,bw (ax b11),b0,b1,nI b2,nI b3,nI b4,nI (U d4 1),nI (U d4 2),U d4 3,nI (U d4 4),U d4 5,nI (U d4 6),U d4 7,bc (↑(au (ax b12)):Int),b12,bc (↑(au (ax b13)):Int),b13,bc (↑(au (ax b14)):Int),b14] []))))))else(gA (U d4 5) (gA (U d4 7) (gA b12 (gA b13 (gA b14 (k2 [b0,b1,nI b2,nI b3,nI b4,nI (U d4 1),nI (U d4 2),U d4 3,nI (U d4 4),U d4 5,nI (U d4 6),U d4 7,b10,bw (ax b11),bc (↑(au (ax b12)):Int),b12,bc (↑(au (ax b13)):Int),b13,bc (↑(au (ax b14)):Int),b14,U d3 1] []))))))))))))))else(gA b8 (gA b9 (gA b12 (gA b13 (gA b14 (k2 [b0,b1,nI b2,nI b3,nI b4,nI b5,nI b6,b7,bc (↑(au (ax b8)):Int),b8,bc (↑(au (ax b9)):Int),b9,b10,bw (ax b11),bc (↑(au (ax b12)):Int),b12,bc (↑(au (ax b13)):Int),b13,bc (↑(au (ax b14)):Int),b14,U I 1] []))))))))))))))))))))
def QD:=lid "" (@KZ R N)
theorem Lt {R N a0 b0 b1 b2 b3 b4 b5 b6 b7 b8 b9 b10 b11 b12 b13 b14 k}:@QD R N a0 b0 b1 b2 b3 b4 b5 b6 b7 b8 b9 b10 b11 b12 b13 b14 k=KZ N a0 b0 b1 b2 b3 b4 b5 b6 b7 b8 b9 b10 b11 b12 b13 b14 k:=by unfold QD;rw[BQ]
def q7G:OvG R:=Cu q7F q7I (fun ds ms=>QD N (U ds 0) (U ds 1) (U ds 2) (U ds 3) (U ds 4) (U ds 5) (U ds 6) (U ds 7) (U ds 8) (U ds 9) (U ds 10) (U ds 11) (U ds 12) (U ds 13) (U ds 14) (U ds 15)) fun ds ms K J m1=>K (V.d (bm ba) (U J 0)) [(dp (ch 5),dy (mf Bc [V.d Bf (U J 1),V.ts 72 Bw (ax (U J 2))])),
 (dp (ch 1),
  dy
   (mf Ba
    [V.ptr (dp (ch 2)) [] BN,V.ptr (dp (ch 5)) [] Bc,V.d (bm ay) (U J 3),
     V.d (bm ay) (U J 4),
     oq (ch 1000000000234) [] 0 (av (aq (U J 5))) none 240 AV,
     oq (ch 1000000000266) [] 0 (av (aq (U J 6))) none 2368 tTx,
     oq (ch 1000000000298) [] 0 (av (aq (U J 7))) none 40 AW])),
 (dp (ch 2),
  dy
   (mf BN
    [oq (ch 1000000000106) [] 0 (av (aq (U J 8))) none 8 (bm ay),
     oq (ch 1000000000138) [] 0 (av (aq (U J 9))) none 8 (bm ay),
     V.d (bm ay) (U J 10)])),
 (dp (ch 3),fk (ca (av (aq (U J 11))) (bm ay))),
 (ch 1000000000106,dy (V.d (ca (au (ax (U J 12))) (bm ay)) (U J 12))),
 (dp (ch 4),fk (ca (av (aq (U J 13))) (bm ay))),
 (ch 1000000000138,dy (V.d (ca (au (ax (U J 14))) (bm ay)) (U J 14))),
 (dp (ch 7),fk (ca (av (aq (U J 15))) AV)),
 (ch 1000000000234,dy (V.d (ca (au (ax (U J 16))) AV) (U J 16))),
 (dp (ch 8),fk (ca (av (aq (U J 17))) tTx)),
 (ch 1000000000266,dy (V.d (ca (au (ax (U J 18))) tTx) (U J 18))),
 (dp (ch 9),fk (ca (av (aq (U J 19))) AW)),
 (ch 1000000000298,dy (V.d (ca (au (ax (U J 20))) AW) (U J 20)))]
theorem q7H:okX 75 (@q7G R N):=Cv (BJ (wJ N) <| BJ (q7u N) <| BJ (q7s N) <| BJ (q6S N) <| BT) N [(75,[(0,[(3,5)]),(5,[(34,7)]),(15,[(5,6)])])] [(75,[([1,0,1,1,1,1,1],⟨[0,5],[],[.g (.l 1),.g (.l 2),.g (.l 3),.g (.l 4),.g (.l 5),.g (.l 7),.g (.l 8),.g (.l 9)],[],[],[(.int .u64),AV,tTx,AW]⟩),
  ([9],⟨[],[(4,.d (.int .i64))],[.g (.l 1),.g (.l 2),.g (.l 3),.g (.l 4),.g (.l 5),.g (.l 7),.g (.l 8),.g (.l 9)],[(.g (.l 5),.box (.agg Bc [.d Bf,.ts 72 Bw]))],[],[(.int .u64),AV,tTx,AW]⟩)])] (fun _ _ _=>Lt)
def q7y:List Sh:=[.as (.ptr (.g (.l 1)) [] Ba),.d tTx]
def q7B:List (Key × OSh):=[(.l 1,.box (.agg Ba [.as (.ptr (.g (.l 2)) [] BN),.as (.ptr (.g (.l 5)) [] Bc),.d (.int .u64),.d (.int .u64),.vec (.g (.l 7)) 240 AV,.vec (.g (.l 8)) 2368 tTx,.vec (.g (.l 9)) 40 AW])),(.l 2,.box (.agg BN [.vec (.g (.l 3)) 8 (.int .u64),.vec (.g (.l 4)) 8 (.int .u64),.d (.int .u64)])),(.l 3,.box (.arr (.int .u64))),(.l 4,.box (.arr (.int .u64))),(.l 5,.box (.agg Bc [.d Bf,.ts 72 Bw])),(.l 7,.box (.arr AV)),(.l 8,.box (.arr tTx)),(.l 9,.box (.arr AW))]
def QB (a0 b0 b1 b2 b3 b4 b5 b6 b7 b8 b9 b10 b11 b12 b13 b14:C) (k1:KD R):Option R:=if 0<=aq (bj a0 1)/\aq (bj a0 1)<(↑(av (aq b5)):Int)then(bif decide (aq (bj b8 (0+av (aq (bj a0 1))))<aq (bj a0 3))then(gA b8 (gA b9 (gA b12 (gA b13 (gA b14 (k1 [bc 23,b10,bw (ax b11),b0,b1,nI b2,nI b3,nI b4,nI b5,nI b6,b7,bc (↑(au (ax b8)):Int),b8,bc (↑(au (ax b9)):Int),b9,bc (↑(au (ax b12)):Int),b12,bc (↑(au (ax b13)):Int),b13,bc (↑(au (ax b14)):Int),b14] []))))))else(gA b8 (gA b9 (Sm N (bj a0 1) (bj a0 2) (nI b5) (nI b6) b7 b8 b9 (fun J m1=>(bif !decide (aq (U J 0)=0)then(gA (U J 5) (gA (U J 7) (gA b12 (gA b13 (gA b14 (k1 [U J 0,b10,bw (ax b11),b0,b1,nI b2,nI b3,nI b4,nI (U J 1),nI (U J 2),U J 3,nI (U J 4),U J 5,nI (U J 6),U J 7,bc (↑(au (ax b12)):Int),b12,bc (↑(au (ax b13)):Int),b13,bc (↑(au (ax b14)):Int),b14] []))))))else(gB (aq (bj a0 1)) ((↑(av (aq (U J 1))):Int)) (gB (aq (bj a0 1)) ((↑(av (aq (U J 1))):Int)) (gB (ar ba ((↑(av (aq (U J 1))):Int)-1)) ((↑(av (aq (U J 1))):Int)) (gB (ar ba ((↑(av (aq (U J 1))):Int)-1)) ((↑(av (aq (U J 1))):Int)) (bif decide (aq (bj a0 0)=0)then(if au (ax (U J 5))=au (ax (cn (cn (U J 5) (0+av (aq (bj a0 1))) (bc (ar ay (aq (bj (U J 5) (0+av (aq (bj a0 1))))-aq (bj a0 3))))) (0+av (ar ba ((↑(av (aq (U J 1))):Int)-1))) (bc (ar ay (aq (bj (cn (U J 5) (0+av (aq (bj a0 1))) (bc (ar ay (aq (bj (U J 5) (0+av (aq (bj a0 1))))-aq (bj a0 3))))) (0+av (ar ba ((↑(av (aq (U J 1))):Int)-1))))+aq (bj a0 3))))))then(gA (U J 7) (WX N (bj a0 1) (bj a0 4) (bj a0 5) (nI (U J 1)) (nI (U J 2)) (U J 3) (cn (cn (U J 5) (0+av (aq (bj a0 1))) (bc (ar ay (aq (bj (U J 5) (0+av (aq (bj a0 1))))-aq (bj a0 3))))) (0+av (ar ba ((↑(av (aq (U J 1))):Int)-1))) (bc (ar ay (aq (bj (cn (U J 5) (0+av (aq (bj a0 1))) (bc (ar ay (aq (bj (U J 5) (0+av (aq (bj a0 1))))-aq (bj a0 3))))) (0+av (ar ba ((↑(av (aq (U J 1))):Int)-1))))+aq (bj a0 3))))) (U J 7) (fun I m2=>(gA (U I 5) (gA (U I 7) (gA b12 (gA b13 (gA b14 (k1 [U I 0,b10,bw (ax b11),b0,b1,nI b2,nI b3,nI b4,nI (U I 1),nI (U I 2),U I 3,nI (U J 4),U I 5,nI (U J 6),U I 7,bc (↑(au (ax b12)):Int),b12,bc (↑(au (ax b13)):Int),b13,bc (↑(au (ax b14)):Int),b14] [])))))))))else none)else(bif decide (aq (bj a0 0)=1)then(NZ N (bj a0 7) b1 b10 (bw (ax b11)) C.nil (fun I m2=>(if au (ax (U J 5))=au (ax (cn (cn (U J 5) (0+av (aq (bj a0 1))) (bc (ar ay (aq (bj (U J 5) (0+av (aq (bj a0 1))))-aq (bj a0 3))))) (0+av (ar ba ((↑(av (aq (U J 1))):Int)-1))) (bc (ar ay (aq (bj (cn (U J 5) (0+av (aq (bj a0 1))) (bc (ar ay (aq (bj (U J 5) (0+av (aq (bj a0 1))))-aq (bj a0 3))))) (0+av (ar ba ((↑(av (aq (U J 1))):Int)-1))))+aq (bj a0 3))))))then(gA (U J 7) (gA b12 (gA b13 (gA b14 (k1 [U I 0,U I 1,bw (ax (U I 2)),b0,b1,nI b2,nI b3,nI b4,nI (U J 1),nI (U J 2),U J 3,nI (U J 4),cn (cn (U J 5) (0+av (aq (bj a0 1))) (bc (ar ay (aq (bj (U J 5) (0+av (aq (bj a0 1))))-aq (bj a0 3))))) (0+av (ar ba ((↑(av (aq (U J 1))):Int)-1))) (bc (ar ay (aq (bj (cn (U J 5) (0+av (aq (bj a0 1))) (bc (ar ay (aq (bj (U J 5) (0+av (aq (bj a0 1))))-aq (bj a0 3))))) (0+av (ar ba ((↑(av (aq (U J 1))):Int)-1))))+aq (bj a0 3)))),nI (U J 6),U J 7,bc (↑(au (ax b12)):Int),b12,bc (↑(au (ax b13)):Int),b13,bc (↑(au (ax b14)):Int),b14] [])))))else none)))else(bif decide (aq (bj a0 0)=2)then(if au (ax (U J 5))=au (ax (cn (cn (U J 5) (0+av (aq (bj a0 1))) (bc (ar ay (aq (bj (U J 5) (0+av (aq (bj a0 1))))-aq (bj a0 3))))) (0+av (ar ba ((↑(av (aq (U J 1))):Int)-1))) (bc (ar ay (aq (bj (cn (U J 5) (0+av (aq (bj a0 1))) (bc (ar ay (aq (bj (U J 5) (0+av (aq (bj a0 1))))-aq (bj a0 3))))) (0+av (ar ba ((↑(av (aq (U J 1))):Int)-1))))+aq (bj a0 3))))))then(gA (U J 7) (gA b12 (gA b13 (gA b14 (QD N a0 b0 b1 (nI b2) (nI b3) (nI b4) (nI (U J 1)) (nI (U J 2)) (U J 3) (cn (cn (U J 5) (0+av (aq (bj a0 1))) (bc (ar ay (aq (bj (U J 5) (0+av (aq (bj a0 1))))-aq (bj a0 3))))) (0+av (ar ba ((↑(av (aq (U J 1))):Int)-1))) (bc (ar ay (aq (bj (cn (U J 5) (0+av (aq (bj a0 1))) (bc (ar ay (aq (bj (U J 5) (0+av (aq (bj a0 1))))-aq (bj a0 3))))) (0+av (ar ba ((↑(av (aq (U J 1))):Int)-1))))+aq (bj a0 3))))) (U J 7) b10 (bw (ax b11)) b12 b13 b14 (fun I m2=>(gA (U I 12) (gA (U I 14) (gA (U I 16) (gA (U I 18) (gA (U I 20) (k1 [U I 0,U I 1,bw (ax (U I 2)),U I 3,U I 4,nI (U I 5),nI (U I 6),nI (U I 7),nI (U I 8),nI (U I 9),U I 10,nI (U J 4),U I 12,nI (U J 6),U I 14,nI (U I 15),U I 16,nI (U I 17),U I 18,nI (U I 19),U I 20] []))))))))))))else none)else(jn (fun I m2=>(bif dg (U I 1)then(gA (U I 10) (gA (U I 11) (gA (U I 15) (gA (U I 17) (gA (U I 19) (k1 [bc 33,U I 12,bw (ax (U I 13)),U I 2,U I 3,nI (U I 4),nI (U I 5),nI (U I 6),nI (U I 7),nI (U I 8),U I 9,nI (U I 20),U I 10,nI (U I 21),U I 11,nI (U I 14),U I 15,nI (U I 16),U I 17,nI (U I 18),U I 19] []))))))else(bif decide (ar ay (↑(av (aq (U I 4))):Int)<=ar ay (aq (bj (U I 0) 6)))then(gA (U I 10) (gA (U I 11) (gA (U I 15) (gA (U I 17) (gA (U I 19) (k1 [bc 6,U I 12,bw (ax (U I 13)),U I 2,U I 3,nI (U I 4),nI (U I 5),nI (U I 6),nI (U I 7),nI (U I 8),U I 9,nI (U I 20),U I 10,nI (U I 21),U I 11,nI (U I 14),U I 15,nI (U I 16),U I 17,nI (U I 18),U I 19] []))))))else none))) (fun k2=>(bif decide (aq (bj a0 0)<0)then(if au (ax (U J 5))=au (ax (cn (cn (U J 5) (0+av (aq (bj a0 1))) (bc (ar ay (aq (bj (U J 5) (0+av (aq (bj a0 1))))-aq (bj a0 3))))) (0+av (ar ba ((↑(av (aq (U J 1))):Int)-1))) (bc (ar ay (aq (bj (cn (U J 5) (0+av (aq (bj a0 1))) (bc (ar ay (aq (bj (U J 5) (0+av (aq (bj a0 1))))-aq (bj a0 3))))) (0+av (ar ba ((↑(av (aq (U J 1))):Int)-1))))+aq (bj a0 3))))))then(gA (U J 7) (gA b12 (gA b13 (gA b14 (k2 [a0,de true,b0,b1,nI b2,nI b3,nI b4,nI (U J 1),nI (U J 2),U J 3,cn (cn (U J 5) (0+av (aq (bj a0 1))) (bc (ar ay (aq (bj (U J 5) (0+av (aq (bj a0 1))))-aq (bj a0 3))))) (0+av (ar ba ((↑(av (aq (U J 1))):Int)-1))) (bc (ar ay (aq (bj (cn (U J 5) (0+av (aq (bj a0 1))) (bc (ar ay (aq (bj (U J 5) (0+av (aq (bj a0 1))))-aq (bj a0 3))))) (0+av (ar ba ((↑(av (aq (U J 1))):Int)-1))))+aq (bj a0 3)))),U J 7,b10,bw (ax b11),bc (↑(au (ax b12)):Int),b12,bc (↑(au (ax b13)):Int),b13,bc (↑(au (ax b14)):Int),b14,nI (U J 4),nI (U J 6),nI (U J 4),nI (U J 6)] [])))))else none)else(if au (ax (U J 5))=au (ax (cn (cn (U J 5) (0+av (aq (bj a0 1))) (bc (ar ay (aq (bj (U J 5) (0+av (aq (bj a0 1))))-aq (bj a0 3))))) (0+av (ar ba ((↑(av (aq (U J 1))):Int)-1))) (bc (ar ay (aq (bj (cn (U J 5) (0+av (aq (bj a0 1))) (bc (ar ay (aq (bj (U J 5) (0+av (aq (bj a0 1))))-aq (bj a0 3))))) (0+av (ar ba ((↑(av (aq (U J 1))):Int)-1))))+aq (bj a0 3))))))then(gA (U J 7) (gA b12 (gA b13 (gA b14 (k2 [a0,de (decide (7<aq (bj a0 0))),b0,b1,nI b2,nI b3,nI b4,nI (U J 1),nI (U J 2),U J 3,cn (cn (U J 5) (0+av (aq (bj a0 1))) (bc (ar ay (aq (bj (U J 5) (0+av (aq (bj a0 1))))-aq (bj a0 3))))) (0+av (ar ba ((↑(av (aq (U J 1))):Int)-1))) (bc (ar ay (aq (bj (cn (U J 5) (0+av (aq (bj a0 1))) (bc (ar ay (aq (bj (U J 5) (0+av (aq (bj a0 1))))-aq (bj a0 3))))) (0+av (ar ba ((↑(av (aq (U J 1))):Int)-1))))+aq (bj a0 3)))),U J 7,b10,bw (ax b11),bc (↑(au (ax b12)):Int),b12,bc (↑(au (ax b13)):Int),b13,bc (↑(au (ax b14)):Int),b14,nI (U J 4),nI (U J 6),nI (U J 4),nI (U J 6)] [])))))else none)))))))))))))))))else none
def St:=lid "" (@QB R N)
theorem Su {R N a0 b0 b1 b2 b3 b4 b5 b6 b7 b8 b9 b10 b11 b12 b13 b14 k}:@St R N a0 b0 b1 b2 b3 b4 b5 b6 b7 b8 b9 b10 b11 b12 b13 b14 k=QB N a0 b0 b1 b2 b3 b4 b5 b6 b7 b8 b9 b10 b11 b12 b13 b14 k:=by unfold St;rw[BQ]
def q7z:OvG R:=Cu q7y q7B (fun ds ms=>St N (U ds 0) (U ds 1) (U ds 2) (U ds 3) (U ds 4) (U ds 5) (U ds 6) (U ds 7) (U ds 8) (U ds 9) (U ds 10) (U ds 11) (U ds 12) (U ds 13) (U ds 14) (U ds 15)) fun ds ms K J m1=>K (V.d (bm ba) (U J 0)) [(dp (ch 5),dy (mf Bc [V.d Bf (U J 1),V.ts 72 Bw (ax (U J 2))])),
 (dp (ch 1),
  dy
   (mf Ba
    [V.ptr (dp (ch 2)) [] BN,V.ptr (dp (ch 5)) [] Bc,V.d (bm ay) (U J 3),
     V.d (bm ay) (U J 4),
     oq (ch 1000000000234) [] 0 (av (aq (U J 5))) none 240 AV,
     oq (ch 1000000000266) [] 0 (av (aq (U J 6))) none 2368 tTx,
     oq (ch 1000000000298) [] 0 (av (aq (U J 7))) none 40 AW])),
 (dp (ch 2),
  dy
   (mf BN
    [oq (ch 1000000000106) [] 0 (av (aq (U J 8))) none 8 (bm ay),
     oq (ch 1000000000138) [] 0 (av (aq (U J 9))) none 8 (bm ay),
     V.d (bm ay) (U J 10)])),
 (dp (ch 3),fk (ca (av (aq (U J 11))) (bm ay))),
 (ch 1000000000106,dy (V.d (ca (au (ax (U J 12))) (bm ay)) (U J 12))),
 (dp (ch 4),fk (ca (av (aq (U J 13))) (bm ay))),
 (ch 1000000000138,dy (V.d (ca (au (ax (U J 14))) (bm ay)) (U J 14))),
 (dp (ch 7),fk (ca (av (aq (U J 15))) AV)),
 (ch 1000000000234,dy (V.d (ca (au (ax (U J 16))) AV) (U J 16))),
 (dp (ch 8),fk (ca (av (aq (U J 17))) tTx)),
 (ch 1000000000266,dy (V.d (ca (au (ax (U J 18))) tTx) (U J 18))),
 (dp (ch 9),fk (ca (av (aq (U J 19))) AW)),
 (ch 1000000000298,dy (V.d (ca (au (ax (U J 20))) AW) (U J 20)))]
theorem q7A:okX 48 (@q7z R N):=Cv (BJ (q61 N) <| BJ (q6W N) <| BJ (q7l N) <| BJ (q7H N) <| BJ (sZ (f:=76) N) <| BT) N [(48,[(0,[(3,5)])])] [(48,[([0,0,1,1,1,1,1,1,1,1],⟨[0,3],[(128,.d .bool)],[.g (.l 1),.g (.l 2),.g (.l 3),.g (.l 4),.g (.l 5),.g (.l 7),.g (.l 8),.g (.l 9)],[],[],[(.int .u64),AV,tTx,AW]⟩),
  ([9],⟨[],[(4,.d (.int .i64))],[.g (.l 1),.g (.l 2),.g (.l 3),.g (.l 4),.g (.l 5),.g (.l 7),.g (.l 8),.g (.l 9)],[(.g (.l 5),.box (.agg Bc [.d Bf,.ts 72 Bw]))],[],[(.int .u64),AV,tTx,AW]⟩)])] (fun _ _ _=>Su)
def q7C:List Sh:=[.as (.ptr (.g (.l 1)) [] Ba),.d tTx]
def q7E:List (Key × OSh):=[(.l 1,.box (.agg Ba [.as (.ptr (.g (.l 2)) [] BN),.as (.ptr (.g (.l 5)) [] Bc),.d (.int .u64),.d (.int .u64),.vec (.g (.l 7)) 240 AV,.vec (.g (.l 8)) 2368 tTx,.vec (.g (.l 9)) 40 AW])),(.l 2,.box (.agg BN [.vec (.g (.l 3)) 8 (.int .u64),.vec (.g (.l 4)) 8 (.int .u64),.d (.int .u64)])),(.l 3,.box (.arr (.int .u64))),(.l 4,.box (.arr (.int .u64))),(.l 5,.box (.agg Bc [.d Bf,.ts 72 Bw])),(.l 7,.box (.arr AV)),(.l 8,.box (.arr tTx)),(.l 9,.box (.arr AW))]
def dI (a0 b0 b1 b2 b3 b4 b5 b6 b7 b8 b9 b10 b11 b12 b13 b14:C) (k1:KD R):Option R:=bif decide (64<=(↑(av (aq b3)):Int))then(gA b8 (gA b9 (gA b12 (gA b13 (gA b14 (k1 [bc 4,b10,bw (ax b11),b0,b1,nI b2,nI b3,nI b4,nI b5,nI b6,b7,bc (↑(au (ax b8)):Int),b8,bc (↑(au (ax b9)):Int),b9,bc (↑(au (ax b12)):Int),b12,bc (↑(au (ax b13)):Int),b13,bc (↑(au (ax b14)):Int),b14] []))))))else(gA b8 (gA b9 (gA b12 (gA b13 (gA b14 (QE N (bj a0 1) b0 b1 (nI b2) (nI b3) (nI b4) (nI b5) (nI b6) b7 b8 b9 b10 (bw (ax b11)) b12 b13 b14 (fun J m1=>(bif !dg (U J 0)then(gA b8 (gA b9 (gA b12 (gA b13 (gA b14 (k1 [bc 1,b10,bw (ax b11),b0,b1,nI b2,nI b3,nI b4,nI b5,nI b6,b7,bc (↑(au (ax b8)):Int),b8,bc (↑(au (ax b9)):Int),b9,bc (↑(au (ax b12)):Int),b12,bc (↑(au (ax b13)):Int),b13,bc (↑(au (ax b14)):Int),b14] []))))))else(bif decide (aq (bj a0 3)<aq b0)then(gA b8 (gA b9 (gA b12 (gA b13 (gA b14 (k1 [bc 23,b10,bw (ax b11),b0,b1,nI b2,nI b3,nI b4,nI b5,nI b6,b7,bc (↑(au (ax b8)):Int),b8,bc (↑(au (ax b9)):Int),b9,bc (↑(au (ax b12)):Int),b12,bc (↑(au (ax b13)):Int),b13,bc (↑(au (ax b14)):Int),b14] []))))))else(gL (av (aq b3)) 2368 (gA b8 (gA b9 (gA b12 (if av (aq b3)+1=au (eu (av (aq b3)) (ax b13)++[a0])then(gA b14 (k1 [bc 0,b10,bw (ax b11),b0,b1,nI b2,bc (↑(av (aq b3)+1):Int),nI b4,nI b5,nI b6,b7,bc (↑(au (ax b8)):Int),b8,bc (↑(au (ax b9)):Int),b9,bc (↑(au (ax b12)):Int),b12,bc (↑(au (ax b13)):Int),C.agg (eu (av (aq b3)) (ax b13)++[a0]),bc (↑(au (ax b14)):Int),b14] []))else none))))))))))))))
def KY:=lid "" (@dI R N)
theorem wH {R N a0 b0 b1 b2 b3 b4 b5 b6 b7 b8 b9 b10 b11 b12 b13 b14 k}:@KY R N a0 b0 b1 b2 b3 b4 b5 b6 b7 b8 b9 b10 b11 b12 b13 b14 k=dI N a0 b0 b1 b2 b3 b4 b5 b6 b7 b8 b9 b10 b11 b12 b13 b14 k:=by unfold KY;rw[BQ]
def wG:OvG R:=Cu q7C q7E (fun ds ms=>KY N (U ds 0) (U ds 1) (U ds 2) (U ds 3) (U ds 4) (U ds 5) (U ds 6) (U ds 7) (U ds 8) (U ds 9) (U ds 10) (U ds 11) (U ds 12) (U ds 13) (U ds 14) (U ds 15)) fun ds ms K J m1=>K (V.d (bm ba) (U J 0)) [(dp (ch 5),dy (mf Bc [V.d Bf (U J 1),V.ts 72 Bw (ax (U J 2))])),
 (dp (ch 1),
  dy
   (mf Ba
    [V.ptr (dp (ch 2)) [] BN,V.ptr (dp (ch 5)) [] Bc,V.d (bm ay) (U J 3),
     V.d (bm ay) (U J 4),
     oq (ch 1000000000234) [] 0 (av (aq (U J 5))) none 240 AV,
     oq (ch 1000000000266) [] 0 (av (aq (U J 6))) none 2368 tTx,
     oq (ch 1000000000298) [] 0 (av (aq (U J 7))) none 40 AW])),
 (dp (ch 2),
  dy
   (mf BN
    [oq (ch 1000000000106) [] 0 (av (aq (U J 8))) none 8 (bm ay),
     oq (ch 1000000000138) [] 0 (av (aq (U J 9))) none 8 (bm ay),
     V.d (bm ay) (U J 10)])),
 (dp (ch 3),fk (ca (av (aq (U J 11))) (bm ay))),
 (ch 1000000000106,dy (V.d (ca (au (ax (U J 12))) (bm ay)) (U J 12))),
 (dp (ch 4),fk (ca (av (aq (U J 13))) (bm ay))),
 (ch 1000000000138,dy (V.d (ca (au (ax (U J 14))) (bm ay)) (U J 14))),
 (dp (ch 7),fk (ca (av (aq (U J 15))) AV)),
 (ch 1000000000234,dy (V.d (ca (au (ax (U J 16))) AV) (U J 16))),
 (dp (ch 8),fk (ca (av (aq (U J 17))) tTx)),
 (ch 1000000000266,dy (V.d (ca (au (ax (U J 18))) tTx) (U J 18))),
 (dp (ch 9),fk (ca (av (aq (U J 19))) AW)),
 (ch 1000000000298,dy (V.d (ca (au (ax (U J 20))) AW) (U J 20)))]
theorem q7D:okX 26 (@wG R N):=Cv (BJ (wJ N) <| BT) N [(26,[(0,[(3,5)])])] [(26,[([9],⟨[],[(4,.d (.int .i64))],[.g (.l 1),.g (.l 2),.g (.l 3),.g (.l 4),.g (.l 5),.g (.l 7),.g (.l 8),.g (.l 9)],[(.g (.l 5),.box (.agg Bc [.d Bf,.ts 72 Bw]))],[],[(.int .u64),AV,tTx,AW]⟩)])] (fun _ _ _=>wH)
section
variable {R:Type} {N:Nat}
section
variable (n:Nat) (a x b1 b2 b3 b4:C) (k:KD R)
theorem xM:Ls N a (.int n) b1 b2 b3 b4 k=k [.bool (decide (inR n a))] []:=by rw[vU];unfold dA inR;simp only[AR,AG,bb,AB];by_cases h1:0<=a.toInt;{by_cases h2:a.toInt<(n:Int) <;> simp[h1,h2,AF,AX]};{simp[h1,AF,AX]}
theorem eB:Sm N a x (.int n) (.int n) b2 b3 b4 k=k [.int (Ew n a x b4).1,.int n,.int n,b2,.int b3.elems.length,b3,.int b4.elems.length,(Ew n a x b4).2] []:=by rw[vT];unfold cY Ew;simp only[AG,AX,bb,xM,AF,eq_self,if_true,bf,Gg,AB];by_cases h:inR n a;{have h2:0<=a.toInt/\a.toInt<(n:Int):=h;by_cases h3:(b4.get a.toInt.toNat).toInt=x.toInt;{simp only[h,h2,h3,and_self,AE,eq_self,AB]};{have h4:¬x.toInt=(b4.get a.toInt.toNat).toInt:=fun h=>h3 h.symm;simp only[h,h2,h3,h4,and_self,AE,AB]}};{simp only[h,AE]}
theorem xJ:Sl N a x (.int n) (.int n) b2 b3 b4 k=k [.int (DN n a x b2 b3).1,.int n,.int n,(DN n a x b2 b3).2.1,.int b3.elems.length,(DN n a x b2 b3).2.2,.int b4.elems.length,b4] []:=by rw[vR];unfold cX DN FP;simp only[AG,AX,bb,xM,AF,eq_self,if_true,bf,Gg,AB];by_cases h:inR n a;{have h2:0<=a.toInt/\a.toInt<(n:Int):=h;by_cases h3:(b3.get a.toInt.toNat).toInt<x.toInt;{simp only[h,h2,h3,and_self,AE,show ¬(12:Int)=0 by decide,AB]};{simp only[h,h2,h3,and_self,AE,AB]}};{simp only[h,AE]}
end
structure MS where
 tab:C
 lst:List C
 least:C
 ya:C
 kept:C
 has:C
 yd:C
 yc:List C
 yb:List C
 evs:List C
def MS.out (s:MS) (n:Nat) (e:Int) (j:Nat->C):List C:=[.int e,s.tab,.slice s.lst,s.least,s.ya,.int s.yc.length,.int s.yb.length,.int s.evs.length,.int n,.int n,s.kept,j 0,s.has,j 1,s.yd,j 2,.agg s.yc,j 3,.agg s.yb,j 4,.agg s.evs]
def MS.JI (s:MS) (kept has yd:C):MS:={s with kept:=kept,has:=has,yd:=yd}
def MS.JJ (s:MS):Nat->C:=jL (.int s.has.elems.length) (.int s.yd.elems.length) (.int s.yc.length) (.int s.yb.length) (.int s.evs.length)
structure MFr (s s':MS):Prop where
 tab:s'.tab=s.tab
 least:s'.least=s.least
 ya:s'.ya=s.ya
 yb:s'.yb=s.yb
 evs:s'.evs=s.evs
 n:s.yc.length<=16->s'.yc.length<=16
 l:s'.lst.length<=s.lst.length+1
theorem MFr.refl (s:MS):MFr s s:=⟨rfl,rfl,rfl,rfl,rfl,id,nh _⟩
theorem Kl (n:Nat) (hn:n<4611686018427387904) (a b0 b1 b2 b3 b4 b6 b7 b8 b9 b10 b11 b12 b13 b14:C) (k:KD R):QE N a b0 b1 b2 b3 b4 (.int n) b6 b7 b8 b9 b10 b11 b12 b13 b14 k=k [.bool (decide (0<=a.toInt/\a.toInt<(n:Int)-1))] []:=by rw[wK];unfold dJ;simp only[AR,AG,bb,Hz hn,AB];by_cases h1:0<=a.toInt;{by_cases h2:a.toInt<(n:Int)-1 <;> simp[h1,h2,AF,AX]};{simp[h1,AF,AX]}
theorem q8j (id:Int) (who rts:C) (yk:List C):∃(e:Int) (b:C),(∀k:KD R,Pz N (.int id) who rts (.slice yk) k=k [.int e,b] [])/\(e=0->b=mkB (.int id) who rts yk zz zz (.int 0) (.int 0) (stZ id)):=by
 have main:∀k:KD R,Pz N (.int id) who rts (.slice yk) k=if(who.get 0).toInt=(who.get 1).toInt then k [.int 1,zB] []else if(rts.get 1).toInt<0 then k [.int 1,zB] []else if 8<(rts.get 1).toInt then k [.int 1,zB] []else
   if Dj yk=0 then k [.int 0,mkB (.int id) who rts yk zz zz (.int 0) (.int 0) (stZ id)] []else k [.int (Dj yk),zB] []:=fun k=>by
  have t0:av 0=0:=rfl;have t1:av 1=1:=rfl;rw[wC];unfold dG;rw[XX];simp only[AR,t0,t1,AB];by_cases h1:(who.get 0).toInt=(who.get 1).toInt;{simp only[h1,AE,AQ,AX,AB]};by_cases h2:(rts.get 1).toInt<0;{simp only[h1,h2,AE,AQ,AX,AB]};by_cases h3:8<(rts.get 1).toInt;{simp only[h1,h2,h3,AE,AQ,AX,AB]};by_cases h4:Dj yk=0;{simp only[h1,h2,h3,h4,AE,AF,AH,AJ,AL,AQ,AX,AO,bh,Bool.true_and,AB];rfl};{simp only[h1,h2,h3,h4,AE,AF,AH,AJ,AL,AQ,AX,AO,AB]}
 by_cases h1:(who.get 0).toInt=(who.get 1).toInt;{exact⟨1,zB,fun k=>by rw[main,if_pos h1],fun h=>by omega⟩};by_cases h2:(rts.get 1).toInt<0;{exact⟨1,zB,fun k=>by rw[main,if_neg h1,if_pos h2],fun h=>by omega⟩};by_cases h3:8<(rts.get 1).toInt;{exact⟨1,zB,fun k=>by rw[main,if_neg h1,if_neg h2,if_pos h3],fun h=>by omega⟩};by_cases h4:Dj yk=0;{exact⟨0,_,fun k=>by rw[main,if_neg h1,if_neg h2,if_neg h3,if_pos h4],fun _=>rfl⟩};{exact⟨_,zB,fun k=>by rw[main,if_neg h1,if_neg h2,if_neg h3,if_neg h4],fun h=>absurd h h4⟩}
structure MOp (s s':MS):Prop where
 non:s'.yd=s.yd
 l:s'.lst=s.lst
 pos:Pos s.has->Pos s'.has
theorem MOp.refl (s:MS):MOp s s:=⟨rfl,rfl,id⟩
structure TxM (n:Nat) (t:C):Prop where
 FK:TxG t
 am:W64 (t.get 5).toInt
 z8G:0<=(t.get 1).toInt
 z8H:(t.get 1).toInt<(n:Int)-1
section
variable {s:MS} {n:Nat} (hn:n<4611686018427387904) {t:C} (ht:TxG t) (ha:W64 (t.get 5).toInt)
include hn ht ha
theorem q41:∃(e:Int) (s':MS),MFr s s'/\MOp s s'/\∀k:KD R,QD N t s.least s.ya (.int s.yc.length) (.int s.yb.length) (.int s.evs.length) (.int n) (.int n) s.kept s.has s.yd s.tab (.slice s.lst) (.agg s.yc) (.agg s.yb) (.agg s.evs) k=
  k (s'.out n e s.JJ) []:=by
 by_cases h1:(16:Int)<=(s.yc.length:Int);{refine⟨4,s,.refl s,.refl s,fun k=>?_⟩;rw[Lt];unfold KZ;simp only[AR,AG,AX,BG,bb,Ab,AO,eq_self,AE,Ae,BM,Af,BO,BP,and_self,bf,bh,Ay,AF,AH,AJ,AL,AQ,Aa,Ac,Ah,Ai,Aj,Ak,Al,Ao,Ap,Aq,Ar,Au,Av,Aw,Ax,Az,BA,BB,BC,BD,BF,h1,AB];rfl};by_cases h2:0<=(t.get 4).toInt/\(t.get 4).toInt<(n:Int)-1
 case neg=>
  refine⟨1,s,.refl s,.refl s,fun k=>?_⟩;rw[Lt];unfold KZ;simp only[AR,AG,AX,BG,bb,Ab,AO,eq_self,AE,Ae,BM,Af,BO,BP,and_self,bf,bh,Ay,AF,AH,AJ,AL,AQ,Aa,Ac,Ah,Ai,Aj,Ak,Al,Ao,Ap,Aq,Ar,Au,Av,Aw,Ax,Az,BA,BB,BC,BD,BF,h1,Kl n hn,h2,AB];rfl
 obtain⟨rl,hrl⟩:∃rl,t.get 9= .slice rl:=⟨_,ht.yk.1⟩;obtain⟨e1,b1,yo,z84⟩:=q8j (R:=R) (N:=N) (IntKind.u32.wrap (s.yc.length:Int)) (cn (cn (AI (ca 2 (bm ba))) 0 (bj t 1)) 1 (bj t 4)) (t.get 8) rl;have hlen:(s.yc.length+1)*240<=140737488355328/\s.yc.length+1<=9223372036854775807:=by omega
 by_cases h5:e1=0
 case neg=>
  refine⟨e1,s,.refl s,.refl s,fun k=>?_⟩;rw[Lt];unfold KZ;simp only[AR,AG,AX,BG,bb,Ab,AO,eq_self,AE,Ae,BM,Af,BO,BP,and_self,bf,bh,Ay,AF,AH,AJ,AL,AQ,Aa,Ac,Ah,Ai,Aj,Ak,Al,Ao,Ap,Aq,Ar,Au,Av,Aw,Ax,Az,BA,BB,BC,BD,BF,h1,Kl n hn,h2,hrl,yo,h5,AB];rfl
 subst h5;have z9t:=z84 rfl;by_cases h6:0<(t.get 5).toInt
 case neg=>
  refine⟨0,{s with yc:=s.yc++[b1]},⟨rfl,rfl,rfl,rfl,rfl,fun _=>by simp;omega,nh _⟩,⟨rfl,rfl,id⟩,fun k=>?_⟩;rw[Lt];unfold KZ;simp only[AR,AG,AX,BG,bb,Ab,AO,eq_self,AE,Ae,BM,Af,BO,BP,and_self,bf,bh,Ay,AF,AH,AJ,AL,AQ,Aa,Ac,Ah,Ai,Aj,Ak,Al,Ao,Ap,Aq,Ar,Au,Av,Aw,Ax,Az,BA,BB,BC,BD,BF,h1,Kl n hn,h2,h6,hrl,yo,hlen,dh,br,cg,cr,AB];simp[MS.out,MS.JJ,jL]
 have hm:∀k:KD R,Py N b1 (.int 0) (t.get 5) k=k [.int (KO (.int (IntKind.u32.wrap (s.yc.length:Int))) (cn (cn (AI (ca 2 (bm ba))) 0 (bj t 1)) 1 (bj t 4)) (t.get 8) rl zz zz (.int 0) (.int 0) (stZ (IntKind.u32.wrap (s.yc.length:Int))) 0 (t.get 5).toInt).1,(KO (.int (IntKind.u32.wrap (s.yc.length:Int))) (cn (cn (AI (ca 2 (bm ba))) 0 (bj t 1)) 1 (bj t 4)) (t.get 8) rl zz zz (.int 0) (.int 0) (stZ (IntKind.u32.wrap (s.yc.length:Int))) 0 (t.get 5).toInt).2] []:=fun k=>by rw[z9t];exact q8i (.int 0) (t.get 5) ⟨by decide,by decide⟩ ⟨by decide,by decide⟩ ha rfl k
 generalize KO (.int (IntKind.u32.wrap (s.yc.length:Int))) (cn (cn (AI (ca 2 (bm ba))) 0 (bj t 1)) 1 (bj t 4)) (t.get 8) rl zz zz (.int 0) (.int 0) (stZ (IntKind.u32.wrap (s.yc.length:Int))) 0 (t.get 5).toInt=m at hm;by_cases h7:m.1=0
 case neg=>
  refine⟨m.1,s,.refl s,.refl s,fun k=>?_⟩;rw[Lt];unfold KZ;simp only[AR,AG,AX,BG,bb,Ab,AO,eq_self,AE,Ae,BM,Af,BO,BP,and_self,bf,bh,Ay,AF,AH,AJ,AL,AQ,Aa,Ac,Ah,Ai,Aj,Ak,Al,Ao,Ap,Aq,Ar,Au,Av,Aw,Ax,Az,BA,BB,BC,BD,BF,h1,Kl n hn,h2,h6,h7,hrl,yo,hm,AB];rfl
 by_cases h8:(DN n (t.get 1) (t.get 5) s.kept s.has).1=0
 case neg=>
  refine⟨(DN n (t.get 1) (t.get 5) s.kept s.has).1,s,.refl s,.refl s,fun k=>?_⟩;rw[Lt];unfold KZ;simp only[AR,AG,AX,BG,bb,Ab,AO,eq_self,AE,Ae,BM,Af,BO,BP,and_self,bf,bh,Ay,AF,AH,AJ,AL,AQ,Aa,Ac,Ah,Ai,Aj,Ak,Al,Ao,Ap,Aq,Ar,Au,Av,Aw,Ax,Az,BA,BB,BC,BD,BF,h1,Kl n hn,h2,h6,h7,h8,hrl,yo,hm,xJ,Zc n (t.get 1) (t.get 5) s.kept s.has h8,AB];rfl
 refine⟨0,{(s.JI (DN n (t.get 1) (t.get 5) s.kept s.has).2.1 (DN n (t.get 1) (t.get 5) s.kept s.has).2.2 s.yd)with yc:=s.yc++[m.2]},⟨rfl,rfl,rfl,rfl,rfl,fun _=>by simp;omega,nh _⟩,⟨rfl,rfl,fun h=>h.Cn n (t.get 1) (t.get 5)⟩,fun k=>?_⟩;rw[Lt];unfold KZ;simp only[AR,AG,AX,BG,bb,Ab,AO,eq_self,AE,Ae,BM,Af,BO,BP,and_self,bf,bh,Ay,AF,AH,AJ,AL,AQ,Aa,Ac,Ah,Ai,Aj,Ak,Al,Ao,Ap,Aq,Ar,Au,Av,Aw,Ax,Az,BA,BB,BC,BD,BF,h1,Kl n hn,h2,h6,h7,h8,hrl,yo,hm,xJ,hlen,dh,br,cg,cr,AB];simp[MS.out,MS.JI,MS.JJ,jL]
end
end
section
variable {R:Type} {N:Nat}
structure MM (n:Nat) (t:C):Prop where
 z8G:0<=(t.get 1).toInt
 z8H:(t.get 1).toInt<(n:Int)-1
 fee:(t.get 3).toInt=0
 sec:FT 32 (t.get 7)
def FM (n:Nat) (h:Int) (x:C × List Ent) (t:C):C × List Ent:=((Ew n (t.get 1) (t.get 2) x.1).2,if(Ew n (t.get 1) (t.get 2) x.1).1=0 then JH h t x.2 else x.2)
def Gz (n:Nat) (h:Int) (ts:List C) (x:C × List Ent):C × List Ent:=ts.foldl (FM n h) x
theorem q9B (h:Int) (t:C) (l:List Ent):(JH h t l).length<=l.length+1:=by unfold JH;split;{exact yZ l (t.get 7) h};{exact nh _}
theorem q5e (n:Nat) (h:Int) (x:C × List Ent) (t:C):(FM n h x t).2.length<=x.2.length+1:=by unfold FM;dsimp only;split;{exact q9B h t x.2};{exact nh _}
theorem sP (n:Nat) (h:Int):∀(ts:List C) (x:C × List Ent),(Gz n h ts x).2.length<=x.2.length+ts.length
 | [],x=>Nat.le_refl _|t::ts,x=>by have h1:=sP n h ts (FM n h x t);have h2:=q5e n h x t;unfold Gz at h1 ⊢;simp only[List.foldl_cons,cg]at h1 ⊢;omega
theorem q5c (n:Nat) (h:Int) (ts:List C) (t:C) (x:C × List Ent):Gz n h (ts++[t]) x=FM n h (Gz n h ts x) t:=by unfold Gz;rw[List.foldl_append];rfl
theorem q46 {n:Nat} {t b2 b3:C} (ho:MM n t) (hp:Pos b3):(IL n (t.get 1) (t.get 3) b2 b3 (.int ((n:Int)-1))).1=0/\Pos (IL n (t.get 1) (t.get 3) b2 b3 (.int ((n:Int)-1))).2.2:=by
 have f0:=ho.z8G;have f1:=ho.z8H;have r1:inR n (t.get 1):=⟨f0,by omega⟩;have r2:inR n (.int ((n:Int)-1)):=⟨by show 0<=(n:Int)-1;omega,by show(n:Int)-1<n;omega⟩;have k1:(DN n (t.get 1) (t.get 3) b2 b3).1=0:=by
  unfold DN;have:(FP (b3.get (t.get 1).toInt.toNat).toInt (t.get 3).toInt).2=0:=by have:=hp (t.get 1).toInt.toNat;unfold FP;rw[ho.fee,if_neg (by omega)]
  rw[if_pos r1,if_pos this]
 have k2:0<=(DN n (t.get 1) (t.get 3) b2 b3).2.1.toInt:=by
  unfold DN;have:(FP (b3.get (t.get 1).toInt.toNat).toInt (t.get 3).toInt).2=0:=by have:=hp (t.get 1).toInt.toNat;unfold FP;rw[ho.fee,if_neg (by omega)]
  rw[if_pos r1,if_pos this];exact Qb _
 unfold IL;rw[if_pos r1,if_pos r2,if_pos k1];refine⟨?_,(hp.Cn n (t.get 1) (t.get 3)).q2m n _ _⟩;unfold Jc;have:(FP (DN n (t.get 1) (t.get 3) b2 b3).2.1.toInt (t.get 3).toInt).2=0:=by unfold FP;rw[ho.fee,if_neg (by omega)]
 rw[if_pos r2,if_pos this]
theorem q01 {s s1:CS} {n:Nat} {t:C} {e:Int} (h:DoR s n t s1 e) (ho:MM n t) (hp:Pos s.has) {l:List Ent} (hl:s.book=l.map Cm) (hh:s.ya= .int s.ya.toInt):
  s1.yd=(FM n s.ya.toInt (s.yd,l) t).1/\s1.book=(FM n s.ya.toInt (s.yd,l) t).2.map Cm/\Pos s1.has:=by
 have f0:=ho.z8G;have f1:=ho.z8H;have r1:inR n (t.get 1):=⟨f0,by omega⟩;have hf:¬(PH n (t.get 1) s.has).toInt<(t.get 3).toInt:=by have:=hp (t.get 1).toInt.toNat;unfold PH;rw[if_pos r1,ho.fee];omega
 obtain⟨m1,m2⟩:=q46 (b2:=s.kept) ho hp;unfold DoR Gc at h;rw[if_neg hf]at h;unfold FM;dsimp only;by_cases g:(Ew n (t.get 1) (t.get 2) s.yd).1=0;{rw[if_neg (by simpa using g)]at h;rw[if_pos g];rcases h with⟨h1,_⟩|⟨_,h2⟩;{exact absurd m1 h1};{exact⟨h2.act.non,h2.book l hl ho.sec hh,h2.pos m2⟩}};{rw[if_pos (by simpa using g)]at h;rw[if_neg g];rcases h with⟨_,_,rfl⟩|⟨h1,_⟩;{exact⟨rfl,hl,hp⟩};{exact absurd h1 g}}
theorem lF {n:Nat}:∀{ts:List C} {s:CS} {outs:List C} {s1:CS} {l:List Ent},DoL n s ts outs s1->GR s->(∀t∈ts,MM n t)->Pos s.has->s.book=l.map Cm->s.ya= .int s.ya.toInt->
  s1.yd=(Gz n s.ya.toInt ts (s.yd,l)).1/\s1.book=(Gz n s.ya.toInt ts (s.yd,l)).2.map Cm/\Pos s1.has
 | [],s,outs,s1,l,h,_,_,hp,hl,_=>by obtain⟨_,rfl⟩:=h;exact⟨rfl,hl,hp⟩
 |t::ts,s,outs,s1,l,h,hs,ht,hp,hl,hh=>by obtain⟨e,s2,o',h1,_,h2⟩:=h;obtain⟨g1,g2⟩:=h1.FK hs;obtain⟨q1,q2,q3⟩:=q01 h1 (ht t (List.mem_cons_self ..)) hp hl hh;have e1:s2.ya=s.ya:=g2.ya;have:=lF (l:=(FM n s.ya.toInt (s.yd,l) t).2) h2 ⟨g1.b,g1.n⟩ (fun x hx=>ht x (List.mem_cons_of_mem _ hx)) q3 q2 (by show s2.ya= .int s2.ya.toInt;rw[e1];exact hh);have e2:(s2.ev t e).ya=s.ya:=e1;have e3:(s2.ev t e).yd=(FM n s.ya.toInt (s.yd,l) t).1:=q1;rw[e2,e3]at this;exact this
end
end Go.Proofs.YteealakhniofoaaGreatDoor
