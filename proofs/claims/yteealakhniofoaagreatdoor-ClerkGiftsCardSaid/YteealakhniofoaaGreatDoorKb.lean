/-
 What the functions on the way compute, part 2.
 Conditions: none.
-/
import Derived.Test.YteealakhniofoaaGreatDoorKa
set_option linter.all false
noncomputable section
set_option maxRecDepth 100000
set_option maxHeartbeats 4000000
open Go.BinOp renaming and->fg,or->va,xor->eg
open Go.E.C renaming agg->dv,bool->df,elems->az,get->bj,int->bf,set->cm,slice->cg,toBool->dg,toInt->ar
open Go.E.Key renaming g->di,l->bz
open Go.E.O renaming box->dj,dead->fh
open Go.E.Ty renaming arr->bu,int->bm
open Go.IntKind renaming i64->bb,u32->cz,u64->ay,u8->cq,wrap->au
open Int renaming fdiv->jy,lt_irrefl->fj,natCast_nonneg->cf,ofNat->iy,tmod->bn,toNat->av,toNat_natCast->bc
open List renaming drop->jb,getD->br,length->ax,mem_cons->gy,mem_singleton->fv,replicate->bw,take->ek
open Nat renaming beq_refl->bo,le_refl->bx,zero_add->bh
namespace Go.Proofs.YteealakhniofoaaGreatDoor
open Go Go.E
variable {R:Type} (N:Nat)
section
variable {R:Type} {N:Nat}
theorem fS {a b:Int}:W64 (Bh a b).1:=by unfold Bh;split;{exact⟨Int.emod_nonneg _ (by decide),Int.emod_lt_of_pos _ (by decide)⟩};{exact⟨by decide,by decide⟩}
theorem Vq (a b:C) (ha:W64 a.toInt) (hb:W64 b.toInt) (k:KD R):Lk N a b k=k [.int (Bh a.toInt b.toInt).1,.int (Bh a.toInt b.toInt).2] []:=by obtain⟨a1,a2⟩:=ha;obtain⟨b1,b2⟩:=hb;rw[tU];unfold bJ;rw[wrap_u64 (by omega) (by omega)];by_cases h:a.toInt+b.toInt<18446744073709551616;{rw[fR a1 b1 h,show decide (18446744073709551615-a.toInt<b.toInt)=false from by rw[decide_eq_false_iff_not];omega,wrap_u64 (by omega) h];rfl};{rw[ag (by omega),show decide (18446744073709551615-a.toInt<b.toInt)=true from by rw[decide_eq_true_iff];omega];rfl}
theorem q62 (a b:C) (k:KD R):SS N a b k=k [.int (Dp a.toInt b.toInt).1,.int (Dp a.toInt b.toInt).2] []:=by rw[tV];unfold bK Dp;by_cases h:a.toInt<b.toInt <;> simp[h]
theorem XL:∀(l:List C) (i:Nat) (n:Int),CQ Jp i n l=CQ Jp 0 n l
 | [],_,_=>rfl|c::l,i,n=>by simp only[CQ,Jp];by_cases h:(Bh n c.toInt).2=0;{simp only[h,if_true,AB];rw[XL l (i+1),XL l (0+1)]};{simp only[h,if_false]}
def onP (n:Int) (l:List C):Int × Int:=Nk (CQ Jp 0 n l)
theorem rW (n:Int) (c:C) (l:List C):onP n (c::l)=if(Bh n c.toInt).2=0 then onP (Bh n c.toInt).1 l else(0,(Bh n c.toInt).2):=by unfold onP;simp only[CQ,Jp];by_cases h:(Bh n c.toInt).2=0;{simp only[h,if_true,AB];rw[XL l (0+1)]};{simp only[h,if_false];rfl}
theorem ae {a b:Int} (h:¬(Bh a b).2=0):(Bh a b).1=0:=by unfold Bh at h ⊢;split;{rename_i h2;rw[if_pos h2]at h;exact absurd rfl h};{rfl}
theorem q1N (side:Int) (c:C) (l:List C):Mp side (c::l)=if(c.get 1).toInt=side then c.get 2::Mp side l else Mp side l:=by unfold Mp;by_cases h:(c.get 1).toInt=side <;> simp[h]
def onE (n e:Int) (l:List C):Int × Int:=if e=0 then onP n l else(n,e)
theorem q0f {l:List C} {i:Nat} (h:i<l.length):l.drop i=l.getD i .nil::l.drop (i+1):=by rw[List.drop_eq_getElem_cons h,List.getD_eq_getElem?_getD,List.getElem?_eq_getElem h];rfl
theorem rV (n:Int) (c:C) (l:List C):onP n (c::l)=onE (Bh n c.toInt).1 (Bh n c.toInt).2 l:=by rw[rW];unfold onE;by_cases h:(Bh n c.toInt).2=0;{rw[if_pos h,if_pos h]};{rw[if_neg h,if_neg h,ae h]}
theorem q6T (s side:C) (hl:(BZ s).length<1099511627776) (ha:∀c∈BZ s,W64 (c.get 2).toInt) (hN:2199023255552<N) (k:KD R):Sb N s side k=k [.int (KF s side.toInt).1,.int (KF s side.toInt).2] []:=by
 rw[uG];unfold cC;rw[AW]
 refine(LX (F:=cB N _) (ι:=Nat × Int × Int) (fun x=>[side,s,.int x.2.1,.int x.2.2,.int x.1]) (fun _=>[]) (fun x=>(BZ s).length-x.1+(if x.2.2=0 then 1 else 0)) (fun x=>x.1<=(BZ s).length/\W64 x.2.1)
  (fun x=>k [.int (onE x.2.1 x.2.2 (Mp side.toInt ((BZ s).drop x.1))).1,.int (onE x.2.1 x.2.2 (Mp side.toInt ((BZ s).drop x.1))).2] []) ?_ N (0,0,0) ⟨Nat.zero_le _,by decide,by decide⟩ (by simp;omega)).trans ?_
 ·rintro⟨i,n,e⟩ ⟨hi,hn⟩ rec zp;dsimp only at hi hn zp ⊢;have hs:(s.get 4).elems=BZ s:=rfl;unfold cB;rw[AW];by_cases h:i<(BZ s).length
  ·have h1:(i:Int)<((BZ s).length:Int):=by omega
   by_cases he:e=0;{subst he;have hw:=ha _ (Ez h);rw[q0f h,q1N];simp only[AW,AF,AJ,AL,AP,AV,Ab,AG,AZ,hs,h1,AE,cf,and_self,bc,CV (show i<4611686018427387904 by omega),AB];by_cases z8a:(((BZ s).getD i .nil).get 1).toInt=side.toInt;{simp only[z8a,AE,AB];rw[Vq (.int n) _ hn hw];simp only[AF,AJ,AG,AB];have:=zp (i+1,(Bh n (((BZ s).getD i .nil).get 2).toInt).1,(Bh n (((BZ s).getD i .nil).get 2).toInt).2) ⟨by omega,fS⟩ (by dsimp only;split <;> simp <;> omega);refine this.trans ?_;show _=k [.int (onE n 0 _).1,.int (onE n 0 _).2] [];rw[show ∀l,onE n 0 l=onP n l from fun l=>rfl,rV]};{simp only[z8a,AE];exact zp (i+1,n,0) ⟨by omega,hn⟩ (by simp;omega)}};{simp only[AW,AF,AJ,AL,AP,AV,Ab,AG,AZ,hs,h1,he,AE,AB];unfold onE;simp only[he,if_false]}
  ·have h1:¬(i:Int)<((BZ s).length:Int):=by omega
   have h2:(BZ s).drop i=[]:=List.drop_of_length_le (by omega);simp only[AW,AF,AJ,AL,AP,AV,Ab,AG,AZ,hs,h1,AE,h2,AB];unfold onE;by_cases he:e=0;{subst he;rfl};{rw[if_neg he]}
 ·rfl
theorem q79 {a:C} (ha:W64 a.toInt) (l:List C):Hy (a::l)=onP a.toInt l:=by show onP 0 (a::l)=_;rw[rW,fR (by omega) ha.1 (by have:=ha.2;omega)];simp
def StN (s put:C):Prop:=(∀i<2,W64 (put.get i).toInt/\W64 ((s.get 2).get i).toInt/\W64 ((s.get 3).get i).toInt)/\∀c∈BZ s,W64 (c.get 2).toInt
theorem q6S (s put side:C) (hs:StN s put) (hl:(BZ s).length<1099511627776) (hN:2199023255552<N) (k:KD R):Sa N s put side k=k [.int (Oy s put side.toInt).1,.int (Oy s put side.toInt).2] []:=by
 rw[uF];unfold cA Oy;by_cases hsd:side.toInt≠0/\side.toInt≠1;{simp[AW,hsd.1,hsd.2,go_sem,AG,AZ,AB]}
 ·have hs':side.toInt=0\/side.toInt=1:=by omega
  have h2:0<=side.toInt/\side.toInt<2:=by omega
  have h3:0<=(1-side.toInt)/\(1-side.toInt)<2:=by omega
  have w:IntKind.i64.wrap (1-side.toInt)=1-side.toInt:=IntWalk.i64_in _ (by omega);rw[if_neg hsd];obtain⟨hs1,hs2⟩:=hs;have n1:=(hs1 side.toInt.toNat (by omega)).1;have n2:=(hs1 (1-side.toInt).toNat (by omega)).2.1;refine(nS [side,s,put,.bool false] [] fun k=>?_).trans ?_;{rcases hs' with h|h <;> simp[h]};simp only[go_sem,AG,AZ,q6T s side hl hs2 hN,AE,h2,and_self,w,h3,AB];by_cases h4:(KF s side.toInt).2=0
  ·simp only[h4,AE,ne_eq,not_true];have e2:Hy [put.get side.toInt.toNat,(s.get 2).get (1-side.toInt).toNat]=onE (Bh (put.get side.toInt.toNat).toInt ((s.get 2).get (1-side.toInt).toNat).toInt).1 (Bh (put.get side.toInt.toNat).toInt ((s.get 2).get (1-side.toInt).toNat).toInt).2 []:=by rw[q79 n1,rV]
   rw[Vq _ _ n1 n2,e2];simp only[go_sem,AG,AQ,AB];by_cases h5:(Bh (put.get side.toInt.toNat).toInt ((s.get 2).get (1-side.toInt).toNat).toInt).2=0
   ·have e3:∀x:Int,onE x 0 []=(x,0):=fun x=>rfl;simp only[h5,e3,AE,ne_eq,not_true,h2,and_self,AB]
    refine(LY (F:=WG N k _) (fun i (x:Int)=>[.int x,.int i,.agg [(s.get 2).get side.toInt.toNat,(s.get 3).get side.toInt.toNat,.int (KF s side.toInt).1]]) (fun _ _=>[])
     [(s.get 2).get side.toInt.toNat,(s.get 3).get side.toInt.toNat,.int (KF s side.toInt).1] Wh (fun s=>k [.int s,.int 0] []) (fun e=>k [.int 0,.int e] []) ?_ ?_ (by simp;omega)).trans ?_
    ·intro i x c hx hi rec;have hi3:i<3:=hi;have h1:(i:Int)<3:=by omega
     unfold WG Wh;simp only[go_sem,AG,AQ,iA,h1,q62,CV (show i<4611686018427387904 by omega),cf,and_self,if_true,Fo hx,AB];by_cases h:(Dp x c.toInt).2=0 <;> simp[h]
    ·intro x rec;unfold WG;simp only[go_sem,AG,AQ,AB];simp
    ·unfold IB Nk;cases CQ Wh 0 (Bh (put.get side.toInt.toNat).toInt ((s.get 2).get (1-side.toInt).toNat).toInt).1 [(s.get 2).get side.toInt.toNat,(s.get 3).get side.toInt.toNat,.int (KF s side.toInt).1] <;> rfl
   ·unfold onE;simp[h5]
  ·simp[h4]
theorem q6Q (s id:C) (hl:(BZ s).length<1099511627776) (hN:2199023255552<N) (k:KD R):SZ N s id k=k [.int (Fj s id.toInt)] []:=by
 rw[uE];unfold bZ;rw[AW];refine(LY (F:=WD N k _) (fun i (_:Unit)=>[id,s,.int i]) (fun _ _=>[]) (BZ s) (findF id.toInt) (fun _=>k [.int (-1)] []) (fun i=>k [.int i] []) (s0:=()) ?_ ?_ (by omega)).trans ?_
 ·intro i _ c hx hi rec;have h1:(i:Int)<((BZ s).length:Int):=by omega
  have hd:(s.get 4).elems.getD i .nil=c:=Fo hx;have hs:(s.get 4).elems.length=(BZ s).length:=rfl;unfold WD findF;simp only[go_sem,AG,AZ,hs,h1,hd,CV (show i<4611686018427387904 by omega),cf,and_self,if_true,AB];by_cases h:(c.get 0).toInt=id.toInt <;> simp[h]
 ·intro _ rec;unfold WD;have hs:(s.get 4).elems.length=(BZ s).length:=rfl;simp only[go_sem,AG,hs,fj,if_false,AB]
 ·unfold Fj IB Vk;cases CQ (findF id.toInt) 0 () (BZ s) <;> rfl
theorem lY {id:Int}:∀{l:List C} {i m:Nat} {c:C},l[i]? =some c->(c.get 0).toInt=id->∃j,j<=m+i/\CQ (findF id) m () l= .inr j
 | [],_,_,_,h,_=>by simp at h
 |d::l,0,m,c,h,hc=>by simp at h;subst h;exact⟨m,by omega,by simp[CQ,findF,hc]⟩
 |d::l,i+1,m,c,h,hc=>by by_cases hd:(d.get 0).toInt=id;{exact⟨m,by omega,by simp[CQ,findF,hd]⟩};{obtain⟨j,h1,h2⟩:=lY (l:=l) (i:=i) (m:=m+1) (by simpa using h) hc;exact⟨j,by omega,by simp[CQ,findF,hd];exact h2⟩}
theorem q1b {s c:C} {i:Nat} (h:(BZ s)[i]? =some c):0<=Fj s (c.get 0).toInt/\Fj s (c.get 0).toInt<=i:=by obtain⟨j,h1,h2⟩:=lY (m:=0) h rfl;unfold Fj;rw[h2];unfold Vk;dsimp only;omega
theorem q61 (s put:C) (hst:StN s put) (hN:2199023255552<N) (k:KD R):Sd N s put k=k [.int (Nf s put)] []:=by
 rw[uH];unfold cD Nf;rw[AW];by_cases h1:200<(s.get 1).toInt;{simp[h1,go_sem,AG,AZ,AB]};have h8e:((8:Int)<(((s.get 4).elems.length:Nat):Int))=(8<(BZ s).length):=by show((8:Int)<(((BZ s).length:Nat):Int))=_;exact propext ⟨fun h=>by omega,fun h=>by omega⟩
 by_cases h2:8<(BZ s).length;{simp only[h1,h2,go_sem,AG,AZ,h8e,or_true,if_true,AB]};have hl:(BZ s).length<1099511627776:=by omega
 have key:∀k':KD R,BO N (Sc N k k') [s,put,.int 0] []=IB (fun _=>k' [] []) (fun e=>k [.int e] []) (CQ (Oz s put) 0 () [0,1]):=by
  intro k';refine LY (F:=Sc N k k') (fun i (_:Unit)=>[s,put,.int i]) (fun _ _=>[]) [0,1] (Oz s put) (fun _=>k' [] []) (fun e=>k [.int e] []) (s0:=()) ?_ ?_ (by simp;omega)
  ·intro i _ c hx hi rec;have hi2:i<2:=hi;have h1:(i:Int)<2:=by omega
   have hc:c=(i:Int):=by
    have:i=0\/i=1:=by omega
    rcases this with rfl|rfl <;> simp at hx <;> subst hx <;> rfl
   subst hc;unfold Sc Oz;simp only[go_sem,AG,h1,q6S s put _ hst hl hN,CV (show i<4611686018427387904 by omega),cf,and_self,if_true,AB];by_cases h:(Oy s put i).2=0 <;> simp[h]
  ·intro _ rec;unfold Sc;simp[go_sem,AG,AB]
 have hor:¬(200<(s.get 1).toInt\/8<(BZ s).length):=by omega
 rw[if_neg hor];simp only[AW,h1,h2,go_sem,AG,AZ,h8e,AE,AB];refine(LY (F:=WH N k _) (fun i (_:Unit)=>[s,put,.int i]) (fun _ _=>[]) (BZ s) (Hx s) (fun _=>k [.int (okE (CQ (Oz s put) 0 () [0,1]))] []) (fun e=>k [.int e] []) (s0:=()) ?_ ?_ (by omega)).trans ?_
 ·intro i _ c hx hi rec;have h1:(i:Int)<((BZ s).length:Int):=by omega
  have hd:(s.get 4).elems.getD i .nil=c:=Fo hx;have hs:(s.get 4).elems.length=(BZ s).length:=rfl;obtain⟨f1,f2⟩:=q1b hx;unfold WH Hx;rw[AW];simp only[go_sem,AG,AZ,hs,h1,hd,CV (show i<4611686018427387904 by omega),cf,and_self,if_true,q6Q s _ hl hN,AB];have hlt:(Fj s (c.get 0).toInt<(i:Int))=¬Fj s (c.get 0).toInt=i:=propext ⟨fun h=>by omega,fun h=>by omega⟩;by_cases h3:(c.get 1).toInt=0;{by_cases h4:(c.get 2).toInt=0;{simp[h3,h4]};{by_cases h5:Fj s (c.get 0).toInt=i <;> simp[h3,h4,h5,hlt]}};{by_cases h3':(c.get 1).toInt=1;{by_cases h4:(c.get 2).toInt=0;{simp[h3',h4]};{by_cases h5:Fj s (c.get 0).toInt=i <;> simp[h3',h4,h5,hlt]}};{simp[h3,h3']}}
 ·intro _ rec;unfold WH;have hs:(s.get 4).elems.length=(BZ s).length:=rfl;simp only[AW,go_sem,AG,hs,fj,AE,key,AB];unfold IB okE;cases CQ (Oz s put) 0 () [0,1] <;> rfl
 ·unfold IB;cases CQ (Hx s) 0 () (BZ s) <;> rfl
theorem q7Q {s:C} {l:List C}:∀{i:Nat},CQ (Hx s) i () l= .inl ()->∀c∈l,(c.get 1).toInt=0\/(c.get 1).toInt=1:=by
 induction l with
 |nil=>intro i _ c hc;cases hc
 |cons d l ih=>
  intro i h c hc;simp only[CQ,Hx]at h;by_cases h1:((d.get 1).toInt≠0/\(d.get 1).toInt≠1)\/(d.get 2).toInt=0;{rw[if_pos h1]at h;cases h};{rw[if_neg h1]at h;by_cases h2:Fj s (d.get 0).toInt=i;{rw[if_pos h2]at h;rcases gy.1 hc with rfl|hc;{omega};{exact ih h c hc}};{rw[if_neg h2]at h;cases h}}
theorem q7T {s put:C} (h:Nf s put=0):∀c∈BZ s,(c.get 1).toInt=0\/(c.get 1).toInt=1:=by
 unfold Nf at h;split at h;{cases h}
 ·cases h2:CQ (Hx s) 0 () (BZ s)with
  |inl u=>exact q7Q h2|inr e=>
   rw[h2]at h;dsimp only at h;subst h;exfalso
   revert h2
   generalize BZ s=l;generalize (0:Nat)=m
   induction l generalizing m with
   |nil=>intro h2;cases h2
   |cons d l ih=>
    intro h2;simp only[CQ,Hx]at h2;split at h2;{rename_i h3;split at h3;{cases h3};{split at h3;{exact ih _ h2};{cases h3}}};{rename_i h3;split at h3;{cases h3;cases h2};{split at h3;{cases h3};{cases h3;cases h2}}}
end
section
variable {R:Type} {N:Nat}
theorem q7S {s:C} {l:List C}:∀{m:Nat},CQ (Hx s) m () l= .inl ()->∀(i:Nat) (c:C),l[i]? =some c->Fj s (c.get 0).toInt=((m+i:Nat):Int):=by
 induction l with
 |nil=>intro m _ i c hc;simp at hc|cons d l ih=>
  intro m h i c hc;simp only[CQ,Hx]at h;by_cases h1:((d.get 1).toInt≠0/\(d.get 1).toInt≠1)\/(d.get 2).toInt=0;{rw[if_pos h1]at h;cases h}
  ·rw[if_neg h1]at h;by_cases h2:Fj s (d.get 0).toInt=m
   ·rw[if_pos h2]at h
    match i with
    |0=>
     simp at hc;subst hc;exact h2
    |i+1=>
     have:=ih h i c (by simpa using hc);rw[this];omega
   ·rw[if_neg h2]at h;cases h
theorem q7R {s:C} {l:List C} {e:Int}:∀{m:Nat},CQ (Hx s) m () l= .inr e->e≠0:=by
 induction l with
 |nil=>intro m h;cases h
 |cons d l ih=>
  intro m h;simp only[CQ,Hx]at h;by_cases h1:((d.get 1).toInt≠0/\(d.get 1).toInt≠1)\/(d.get 2).toInt=0;{rw[if_pos h1]at h;injection h with h;rw[<-h];decide};{rw[if_neg h1]at h;by_cases h2:Fj s (d.get 0).toInt=m;{rw[if_pos h2]at h;exact ih h};{rw[if_neg h2]at h;injection h with h;rw[<-h];decide}}
theorem q7U {s put:C} (h:Nf s put=0):(BZ s).length<=8/\∀(i:Nat) (c:C),(BZ s)[i]? =some c->Fj s (c.get 0).toInt=((i:Nat):Int):=by
 unfold Nf at h;split at h;{cases h}
 ·rename_i h0;refine⟨by omega,fun i c hc=>?_⟩;cases h2:CQ (Hx s) 0 () (BZ s)with
  |inl u=>
   have:=q7S h2 i c hc;rw[this];omega
  |inr e=>
   rw[h2]at h;exact absurd h (q7R h2)
end
def VM {R:Type} (N:Nat) (k1:KD R):Option R:=k1 [cm (dv [dv (bw 8 (bf 0)),dv (bw 64 (bf 0)),bf 0]) 0 (cm (cm (cm (cm (cm (cm (cm (cm (AH (bu 8 (bm cz))) 0 (bf 1779033703)) 1 (bf 3144134277)) 2 (bf 1013904242)) 3 (bf 2773480762)) 4 (bf 1359893119)) 5 (bf 2600822924)) 6 (bf 528734635)) 7 (bf 1541459225))] []
def PW:=lid "" (@VM R N)
theorem Zp {R N k}:@PW R N k=VM N k:=by unfold PW;rw[BQ]
def q3I:OvG R:=CA [] (fun a=>PW N) fun a K d1 m1=>K (V.ptr (bz 1) [] DM) [(bz 1,dj (V.d DM (dk d1 0)))]
theorem q3J:okX 133 (@q3I R N):=Cg BS N [] [(133,[([9],⟨[],[(0,.as (.ptr (.l 1) [] DM))],[],[(.l 1,.box (.d DM))],[],[]⟩)])] (fun _ _=>Zp)
def NK {R:Type} (N:Nat) (k2:KD R):KD R->KD R:=fun k3 d1 m1=>(bif decide (ar (dk d1 3)<ar (dk d1 1))then(if 0<=ar (dk d1 3)/\ar (dk d1 3)<(↑(ax (az (dk d1 0))):Int)then(k3 [dk d1 0,dk d1 1,bf (BR va cz (au cz (ar (dk d1 2)*2^min (av 8) 32)) (au cz (ar (br (az (dk d1 0)) (av (ar (dk d1 3))) C.nil)))),bf (au bb (ar (dk d1 3)+1))] [])else none)else(k2 [dk d1 2] []))
def VQ (a0:C) (k1:KD R):Option R:=if iy 0<=0/\iy 0<=4/\4<=(↑(ax (az a0)):Int)then(jn (fun d1 m1=>(k1 [dk d1 0] [])) (fun k2=>(BO N (NK N k2) [cg (cut (az a0) 0 4),bf (↑(ax (cut (az a0) 0 4)):Int),bf 0,bf 0] [])))else none
def NL:=lid "" (@VQ R N)
theorem Zs {R N a0 k}:@NL R N a0 k=VQ N a0 k:=by unfold NL;rw[BQ]
def q3P:OvG R:=CA [.slice 1 (.int .u8)] (GA (NL N)) (DS (bm cz))
theorem q3Q:okX 178 (@q3P R N):=Cg BS N [] [(178,[([1,0,1,1],(Ct [(3,.d (.int .u32))])),
  ([4,1,0,1,1],(Cr [7,8] [(3,.d (.int .u32)),(9,.d (.int .i64))])),
  ([9],(Ct [(2,.d (.int .u32))]))])] (fun _ _=>Zs)
def VO {R:Type} (N:Nat) (k1:KD R):Option R:=k1 [cm (cm (cm (cm (cm (cm (cm (cm (cm (cm (cm (cm (cm (cm (cm (cm (cm (cm (cm (cm (cm (cm (cm (cm (cm (cm (cm (cm (cm (cm (cm (cm (cm (cm (cm (cm (cm (cm (cm (cm (cm (cm (cm (cm (cm (cm (cm (cm (cm (cm (cm (cm (cm (cm (cm (cm (cm (cm (cm (cm (cm (cm (cm (cm (AH (bu 64 (bm cz))) 0 (bf 1116352408)) 1 (bf 1899447441)) 2 (bf 3049323471)) 3 (bf 3921009573)) 4 (bf 961987163)) 5 (bf 1508970993)) 6 (bf 2453635748)) 7 (bf 2870763221)) 8 (bf 3624381080)) 9 (bf 310598401)) 10 (bf 607225278)) 11 (bf 1426881987)) 12 (bf 1925078388)) 13 (bf 2162078206)) 14 (bf 2614888103)) 15 (bf 3248222580)) 16 (bf 3835390401)) 17 (bf 4022224774)) 18 (bf 264347078)) 19 (bf 604807628)) 20 (bf 770255983)) 21 (bf 1249150122)) 22 (bf 1555081692)) 23 (bf 1996064986)) 24 (bf 2554220882)) 25 (bf 2821834349)) 26 (bf 2952996808)) 27 (bf 3210313671)) 28 (bf 3336571891)) 29 (bf 3584528711)) 30 (bf 113926993)) 31 (bf 338241895)) 32 (bf 666307205)) 33 (bf 773529912)) 34 (bf 1294757372)) 35 (bf 1396182291)) 36 (bf 1695183700)) 37 (bf 1986661051)) 38 (bf 2177026350)) 39 (bf 2456956037)) 40 (bf 2730485921)) 41 (bf 2820302411)) 42 (bf 3259730800)) 43 (bf 3345764771)) 44 (bf 3516065817)) 45 (bf 3600352804)) 46 (bf 4094571909)) 47 (bf 275423344)) 48 (bf 430227734)) 49 (bf 506948616)) 50 (bf 659060556)) 51 (bf 883997877)) 52 (bf 958139571)) 53 (bf 1322822218)) 54 (bf 1537002063)) 55 (bf 1747873779)) 56 (bf 1955562222)) 57 (bf 2024104815)) 58 (bf 2227730452)) 59 (bf 2361852424)) 60 (bf 2428436474)) 61 (bf 2756734187)) 62 (bf 3204031479)) 63 (bf 3329325298)] []
def PX:=lid "" (@VO R N)
theorem Zr {R N k}:@PX R N k=VO N k:=by unfold PX;rw[BQ]
def q3L:OvG R:=CA [] (fun a=>PX N) (DS (bu 64 (bm cz)))
theorem q3M:okX 179 (@q3L R N):=Cg BS N [] [(179,[([9],⟨[],[(0,.as (.ptr (.l 0) [] (.arr 64 (.int .u32))))],[],[(.l 0,.box (.d (.arr 64 (.int .u32))))],[],[]⟩)])] (fun _ _=>Zr)
def VE {R:Type} (N:Nat) (a0 a1:C) (k1:KD R):Option R:=if 0<=au ay (32-BR fg ay (au ay (ar a1)) 31)then(k1 [bf (BR va cz (au cz (ar a0*2^min (av (BR fg ay (au ay (ar a1)) 31)) 32)) (jy (ar a0) (2^min (av (au ay (32-BR fg ay (au ay (ar a1)) 31))) 32)))] [])else none
def Lb:=lid "" (@VE R N)
theorem Zh {R N a0 a1 k}:@Lb R N a0 a1 k=VE N a0 a1 k:=by unfold Lb;rw[BQ]
def q3f:OvG R:=CA [.int .u32,.int .i64] (Ef (Lb N)) (DS (bm cz))
theorem q3g:okX 190 (@q3f R N):=Cg BS N [] [(190,[([9],(Ct [(4,.d (.int .u32))]))])] (fun _ _=>Zh)
def Rs (a0 a1 a2 a3 a4:C) (k1:KD R):Option R:=Lb N a0 (bf (au bb (0-ar a3))) (fun d1 m1=>(jn (fun d2 m2=>(Lb N (dk d2 0) (bf (au bb (0-ar (dk d2 1)))) (fun d3 m3=>(Lb N (dk d2 0) (bf (au bb (0-ar (dk d2 2)))) (fun d4 m4=>(k1 [bf (BR eg cz (BR eg cz (ar (dk d3 0)) (ar (dk d4 0))) (ar (dk d2 3)))] [])))))) (fun k2=>(bif dg a4 then(if 0<=ar a3 then(k2 [a0,a1,a2,bf (jy (ar a0) (2^min (av (ar a3)) 32))] [])else none)else(k2 [a0,a1,a2,dk d1 0] [])))))
def Hs:=lid "" (@Rs R N)
theorem VP {R N a0 a1 a2 a3 a4 k}:@Hs R N a0 a1 a2 a3 a4 k=Rs N a0 a1 a2 a3 a4 k:=by unfold Hs;rw[BQ]
def q3N:OvG R:=CA [.int .u32,.int .i64,.int .i64,.int .i64,.bool] (fun a=>Hs N (a 0) (a 1) (a 2) (a 3) (a 4)) (DS (bm cz))
theorem q3O:okX 180 (@q3N R N):=Cg (Ap (q3g N) <| BS) N [] [(180,[([1,0,1,1],(Cr [0,1,2] [(11,.d (.int .u32))])),
  ([9],(Ct [(10,.d (.int .u32))]))])] (fun _ _=>VP)
def q3B:List Sh:=[.as (.ptr (.g (.l 1)) [] DM)]
def q3E:List (Key × OSh):=[(.l 1,.box (.d DM))]
def Ld {R:Type} (N:Nat) (k2:KD R):KD R->KD R:=fun k3 d4 m4=>(bif decide (ar (dk d4 0)<8)then(if 0<=ar (dk d4 0)/\ar (dk d4 0)<8 then(if 0<=ar (dk d4 0)/\ar (dk d4 0)<8 then(if 0<=ar (dk d4 0)/\ar (dk d4 0)<8 then(k3 [bf (au bb (ar (dk d4 0)+1)),cm (dk d4 1) 0 (cm (bj (dk d4 1) 0) (av (ar (dk d4 0))) (bf (au cz (ar (bj (bj (dk d4 1) 0) (av (ar (dk d4 0))))+ar (bj (dk d4 2) (av (ar (dk d4 0)))))))),dk d4 2] [])else none)else none)else none)else(k2 [dk d4 1] []))
def Jf (k2:KD R):KD R->KD R:=fun k3 d3 m3=>(bif decide (ar (dk d3 1)<64)then(if 0<=ar (dk d3 1)/\ar (dk d3 1)<64 then(jn (fun d4 m4=>(Hs N (bj (dk d4 6) (av 4)) (bf 6) (bf 11) (bf 25) (df false) (fun d5 m5=>(if 0<=ar (dk d4 1)/\ar (dk d4 1)<16 then(Hs N (bj (dk d4 6) (av 0)) (bf 2) (bf 13) (bf 22) (df false) (fun d6 m6=>(k3 [dk d4 2,bf (au bb (ar (dk d4 3)+1)),dk d4 4,dk d4 5,cm (cm (cm (cm (cm (cm (cm (cm (AH (bu 8 (bm cz))) 0 (bf (au cz (au cz (au cz (au cz (au cz (au cz (ar (bj (dk d4 6) (av 7))+ar (dk d5 0))+BR eg cz (ar (bj (dk d4 6) (av 6))) (BR fg cz (ar (bj (dk d4 6) (av 4))) (BR eg cz (ar (bj (dk d4 6) (av 5))) (ar (bj (dk d4 6) (av 6))))))+ar (dk d4 0))+ar (bj (dk d4 5) (av (ar (dk d4 1)))))+ar (dk d6 0))+BR va cz (BR fg cz (ar (bj (dk d4 6) (av 0))) (ar (bj (dk d4 6) (av 1)))) (BR fg cz (ar (bj (dk d4 6) (av 2))) (BR va cz (ar (bj (dk d4 6) (av 0))) (ar (bj (dk d4 6) (av 1))))))))) 1 (bj (dk d4 6) (av 0))) 2 (bj (dk d4 6) (av 1))) 3 (bj (dk d4 6) (av 2))) 4 (bf (au cz (ar (bj (dk d4 6) (av 3))+au cz (au cz (au cz (au cz (ar (bj (dk d4 6) (av 7))+ar (dk d5 0))+BR eg cz (ar (bj (dk d4 6) (av 6))) (BR fg cz (ar (bj (dk d4 6) (av 4))) (BR eg cz (ar (bj (dk d4 6) (av 5))) (ar (bj (dk d4 6) (av 6))))))+ar (dk d4 0))+ar (bj (dk d4 5) (av (ar (dk d4 1))))))))) 5 (bj (dk d4 6) (av 4))) 6 (bj (dk d4 6) (av 5))) 7 (bj (dk d4 6) (av 6))] [])))else none)))) (fun k4=>(bif decide (16<=ar (dk d3 1))then(if 0<=bn (ar (dk d3 1)) 16/\bn (ar (dk d3 1)) 16<16 then(if 0<=bn (au bb (ar (dk d3 1)+1)) 16/\bn (au bb (ar (dk d3 1)+1)) 16<16 then(Hs N (bj (dk d3 3) (av (bn (au bb (ar (dk d3 1)+1)) 16))) (bf 7) (bf 18) (bf 3) (df true) (fun d4 m4=>(if 0<=bn (au bb (ar (dk d3 1)+9)) 16/\bn (au bb (ar (dk d3 1)+9)) 16<16 then(if 0<=bn (au bb (ar (dk d3 1)+14)) 16/\bn (au bb (ar (dk d3 1)+14)) 16<16 then(Hs N (bj (dk d3 3) (av (bn (au bb (ar (dk d3 1)+14)) 16))) (bf 17) (bf 19) (bf 10) (df true) (fun d5 m5=>(if 0<=bn (ar (dk d3 1)) 16/\bn (ar (dk d3 1)) 16<16 then(k4 [bj (dk d3 0) (av (ar (dk d3 1))),bf (bn (ar (dk d3 1)) 16),dk d3 0,dk d3 1,dk d3 2,cm (dk d3 3) (av (bn (ar (dk d3 1)) 16)) (bf (au cz (ar (bj (dk d3 3) (av (bn (ar (dk d3 1)) 16)))+au cz (au cz (ar (dk d4 0)+ar (bj (dk d3 3) (av (bn (au bb (ar (dk d3 1)+9)) 16))))+ar (dk d5 0))))),dk d3 4] [])else none)))else none)else none)))else none)else none)else(k4 [bj (dk d3 0) (av (ar (dk d3 1))),bf (bn (ar (dk d3 1)) 16),dk d3 0,dk d3 1,dk d3 2,dk d3 3,dk d3 4] []))))else none)else(k2 [dk d3 2,dk d3 4] []))
def Le (k2:KD R):KD R->KD R:=fun k3 d1 m1=>(bif decide (ar (dk d1 0)<16)then(if 0<=au bb (4*ar (dk d1 0))/\au bb (4*ar (dk d1 0))<=64/\iy 64<=64 then(NL N (cg (ek (av (64-au bb (4*ar (dk d1 0)))) (jb (av (au bb (4*ar (dk d1 0)))) (az (bj (dk d1 1) 1))))) (fun d2 m2=>(if 0<=ar (dk d1 0)/\ar (dk d1 0)<16 then(k3 [bf (au bb (ar (dk d1 0)+1)),dk d1 1,cm (dk d1 2) (av (ar (dk d1 0))) (dk d2 0)] [])else none)))else none)else(k2 [dk d1 1,dk d1 2] []))
def VK (b0:C) (k1:KD R):Option R:=jn (fun d1 m1=>(PX N (fun d2 m2=>(jn (fun d3 m3=>(jn (fun d4 m4=>(k1 [dk d4 0] [])) (fun k2=>(BO N (Ld N k2) [bf 0,dk d3 0,dk d3 1] [])))) (fun k2=>(BO N (Jf N k2) [dk d2 0,bf 0,dk d1 0,dk d1 1,bj (dk d1 0) 0] [])))))) (fun k2=>(BO N (Le N k2) [bf 0,b0,AH (bu 16 (bm cz))] []))
def PV:=lid "" (@VK R N)
theorem Zn {R N b0 k}:@PV R N b0 k=VK N b0 k:=by unfold PV;rw[BQ]
def q3C:OvG R:=DA q3B q3E (fun ds ms=>PV N (dk ds 0)) fun ds ms K d1 m1=>K (V.tup []) [(di (bz 1),dj (V.d DM (dk d1 0)))]
theorem q3D:okX 163 (@q3C R N):=DF (Ap (q3Q N) <| Ap (q3M N) <| Ap (q3O N) <| BS) N [(163,[(12,[(46,7),(58,7)]),(15,[(91,7)]),(16,[(104,7)]),(4,[(22,8)])])] [(163,[([1,0,1],⟨[0,2],[],[.g (.l 1)],[],[],[]⟩),
  ([4,1,0,1],⟨[0,2],[(12,.d (.int .i64))],[.g (.l 1)],[],[],[]⟩),
  ([1,0,1,1,1],⟨[0,4],[],[.g (.l 1)],[],[],[]⟩),
  ([4,1,0,1,1,1],⟨[0,2,4,29],[(30,.d (.int .i64))],[.g (.l 1)],[],[],[]⟩),
  ([1,0,1,1,4,0,1,1,5,4,1,0,1,1,1],⟨[0,2,4,6,7,29,30],[],[.g (.l 1)],[],[],[]⟩),
  ([1,1,1,1,1],⟨[0],[],[.g (.l 1)],[],[],[]⟩),
  ([4,1,1,1,1,1],⟨[0,4],[(126,.d (.int .i64))],[.g (.l 1)],[],[],[]⟩),
  ([9],⟨[],[],[.g (.l 1)],[],[],[]⟩)])] (fun _ _ _=>Zn)
def q3F:List Sh:=[.as (.ptr (.g (.l 1)) [] DM),.d (.slice 1 (.int .u8))]
def q3H:List (Key × OSh):=[(.l 1,.box (.d DM))]
def KN (k2:KD R):KD R->KD R:=fun k3 d1 m1=>(bif decide (0<(↑(ax (az (dk d1 0))):Int))then(if 0<=bn (ar (bj (dk d1 1) 2)) 64/\bn (ar (bj (dk d1 1) 2)) 64<=64/\iy 64<=64 then(if 0<av (64-bn (ar (bj (dk d1 1) 2)) 64)then(if 0<=(↑(min (ax (az (dk d1 0))) (av (64-bn (ar (bj (dk d1 1) 2)) 64))):Int)/\(↑(min (ax (az (dk d1 0))) (av (64-bn (ar (bj (dk d1 1) 2)) 64))):Int)<=(↑(ax (az (dk d1 0))):Int)/\(↑(ax (az (dk d1 0))):Int)<=(↑(ax (az (dk d1 0))):Int)then(jn (fun d2 m2=>(k3 [dk d2 0,dk d2 1] [])) (fun k4=>(bif decide (bn (ar (bj (cm (cm (dk d1 1) 1 (dv (Dg (az (bj (dk d1 1) 1)) (av (bn (ar (bj (dk d1 1) 2)) 64)) (av (64-bn (ar (bj (dk d1 1) 2)) 64)) (az (dk d1 0))))) 2 (bf (au ay (ar (bj (cm (dk d1 1) 1 (dv (Dg (az (bj (dk d1 1) 1)) (av (bn (ar (bj (dk d1 1) 2)) 64)) (av (64-bn (ar (bj (dk d1 1) 2)) 64)) (az (dk d1 0))))) 2)+au ay (↑(min (ax (az (dk d1 0))) (av (64-bn (ar (bj (dk d1 1) 2)) 64))):Int))))) 2)) 64=0)then(PV N (cm (cm (dk d1 1) 1 (dv (Dg (az (bj (dk d1 1) 1)) (av (bn (ar (bj (dk d1 1) 2)) 64)) (av (64-bn (ar (bj (dk d1 1) 2)) 64)) (az (dk d1 0))))) 2 (bf (au ay (ar (bj (cm (dk d1 1) 1 (dv (Dg (az (bj (dk d1 1) 1)) (av (bn (ar (bj (dk d1 1) 2)) 64)) (av (64-bn (ar (bj (dk d1 1) 2)) 64)) (az (dk d1 0))))) 2)+au ay (↑(min (ax (az (dk d1 0))) (av (64-bn (ar (bj (dk d1 1) 2)) 64))):Int))))) (fun d2 m2=>(k4 [cg (cut (az (dk d1 0)) (↑(min (ax (az (dk d1 0))) (av (64-bn (ar (bj (dk d1 1) 2)) 64))):Int) (↑(ax (az (dk d1 0))):Int)),dk d2 0] [])))else(k4 [cg (cut (az (dk d1 0)) (↑(min (ax (az (dk d1 0))) (av (64-bn (ar (bj (dk d1 1) 2)) 64))):Int) (↑(ax (az (dk d1 0))):Int)),cm (cm (dk d1 1) 1 (dv (Dg (az (bj (dk d1 1) 1)) (av (bn (ar (bj (dk d1 1) 2)) 64)) (av (64-bn (ar (bj (dk d1 1) 2)) 64)) (az (dk d1 0))))) 2 (bf (au ay (ar (bj (cm (dk d1 1) 1 (dv (Dg (az (bj (dk d1 1) 1)) (av (bn (ar (bj (dk d1 1) 2)) 64)) (av (64-bn (ar (bj (dk d1 1) 2)) 64)) (az (dk d1 0))))) 2)+au ay (↑(min (ax (az (dk d1 0))) (av (64-bn (ar (bj (dk d1 1) 2)) 64))):Int))))] []))))else none)else none)else none)else(k2 [dk d1 1] []))
def VL (a0 b0:C) (k1:KD R):Option R:=jn (fun d1 m1=>(k1 [dk d1 0] [])) (fun k2=>(BO N (KN N k2) [a0,b0] []))
def Lf:=lid "" (@VL R N)
theorem Zo {R N a0 b0 k}:@Lf R N a0 b0 k=VL N a0 b0 k:=by unfold Lf;rw[BQ]
def q3G:OvG R:=DA q3F q3H (fun ds ms=>Lf N (dk ds 0) (dk ds 1)) fun ds ms K d1 m1=>K (V.tup []) [(di (bz 1),dj (V.d DM (dk d1 0)))]
theorem qL:okX 150 (@q3G R N):=DF (Ap (q3D N) <| BS) N [] [(150,[([],⟨[0],[],[.g (.l 1)],[],[],[]⟩),
  ([4],⟨[0],[(1,.d (.slice 1 (.int .u8)))],[.g (.l 1)],[],[],[]⟩),
  ([1,1,1,1,4,1,5,4],⟨[0,1],[],[.g (.l 1)],[],[],[]⟩),
  ([9],⟨[],[],[.g (.l 1)],[],[],[]⟩)])] (fun _ _ _=>Zo)
def q3x:List Sh:=[.as (.ptr (.g (.l 1)) [] DM),.d (.slice 24 (.slice 1 (.int .u8)))]
def q3A:List (Key × OSh):=[(.l 1,.box (.d DM))]
def NI (k2:KD R):KD R->KD R:=fun k3 d1 m1=>(bif decide (ar (dk d1 2)<ar (dk d1 1))then(if 0<=ar (dk d1 2)/\ar (dk d1 2)<(↑(ax (az (dk d1 0))):Int)then(Lf N (br (az (dk d1 0)) (av (ar (dk d1 2))) C.nil) (dk d1 3) (fun d2 m2=>(k3 [dk d1 0,dk d1 1,bf (au bb (ar (dk d1 2)+1)),dk d2 0] [])))else none)else(k2 [dk d1 3] []))
def VJ (a0 b0:C) (k1:KD R):Option R:=jn (fun d1 m1=>(k1 [dk d1 0] [])) (fun k2=>(BO N (NI N k2) [a0,bf (↑(ax (az a0)):Int),bf 0,b0] []))
def NJ:=lid "" (@VJ R N)
theorem Zm {R N a0 b0 k}:@NJ R N a0 b0 k=VJ N a0 b0 k:=by unfold NJ;rw[BQ]
def q3y:OvG R:=DA q3x q3A (fun ds ms=>NJ N (dk ds 0) (dk ds 1)) fun ds ms K d1 m1=>K (V.tup []) [(di (bz 1),dj (V.d DM (dk d1 0)))]
theorem q3z:okX 134 (@q3y R N):=DF (Ap (qL N) <| BS) N [] [(134,[([1,1],⟨[0],[],[.g (.l 1)],[],[],[]⟩),
  ([4,1,1],⟨[0,8,9],[(10,.d (.int .i64))],[.g (.l 1)],[],[],[]⟩),
  ([9],⟨[],[],[.g (.l 1)],[],[],[]⟩)])] (fun _ _ _=>Zm)
def VN {R:Type} (N:Nat) (a0:C) (k1:KD R):Option R:=k1 [cg [bf (au cq (jy (ar a0) (2^min (av 24) 32))),bf (au cq (jy (ar a0) (2^min (av 16) 32))),bf (au cq (jy (ar a0) (2^min (av 8) 32))),bf (au cq (ar a0))]] []
def KO:=lid "" (@VN R N)
theorem Zq {R N a0 k}:@KO R N a0 k=VN N a0 k:=by unfold KO;rw[BQ]
def q3K:OvG R:=CA [.int .u32] (GA (KO N)) fun a K d1 m1=>K (V.ts 1 (bm cq) (az (dk d1 0))) []
theorem qM:okX 135 (@q3K R N):=Cg BS N [(135,[(1,[(14,4)])])] [(135,[([9],(Ct [(2,.sl 1 (.int .u8) 5002)]))])] (fun _ _=>Zq) fun a K=>(show _=jn (fun d1 m1=>(bif Nat.beq (ax (az (dk d1 0))) (ax (az (dk d1 0)))then
  (K (V.ts 1 (bm cq) (az (dk d1 0))) [])
 else
  none)) _ by kernel_rfl).trans (congrArg (fun k=>jn k _) (funext fun _=>funext fun _=>by simp only[bo,cond_true]))
def q3t:List Sh:=[.as (.ptr (.g (.l 1)) [] DM)]
def q3w:List (Key × OSh):=[(.l 1,.box (.d DM))]
def Lc (k2:KD R):KD R->KD R:=fun k3 d5 m5=>(bif decide (ar (dk d5 1)<8)then(if 0<=ar (dk d5 1)/\ar (dk d5 1)<8 then(if 0<=au bb (4*ar (dk d5 1))/\au bb (4*ar (dk d5 1))<=32/\iy 32<=32 then(KO N (bj (dk d5 0) (av (ar (dk d5 1)))) (fun d6 m6=>(if 0<av (32-au bb (4*ar (dk d5 1)))then(k3 [dk d5 0,bf (au bb (ar (dk d5 1)+1)),dk d5 2,dk d5 3,dv (Dg (az (dk d5 4)) (av (au bb (4*ar (dk d5 1)))) (av (32-au bb (4*ar (dk d5 1)))) (az (dk d6 0)))] [])else none)))else none)else none)else(k2 [dk d5 2,dk d5 3,dk d5 4] []))
def VI (b0:C) (k1:KD R):Option R:=if 0<=au ay (64-bn (au ay (ar (bj b0 2)+8)) 64)/\au ay (64-bn (au ay (ar (bj b0 2)+8)) 64)<=au ay (64-bn (au ay (ar (bj b0 2)+8)) 64)/\au ay (64-bn (au ay (ar (bj b0 2)+8)) 64)<=9223372036854775807/\av (au ay (64-bn (au ay (ar (bj b0 2)+8)) 64))*1<=140737488355328 then(if iy 0<=0/\0<(↑(av (au ay (64-bn (au ay (ar (bj b0 2)+8)) 64))):Int)then(Lf N (cg (ek (av (au ay (64-bn (au ay (ar (bj b0 2)+8)) 64))) (jb 0 (List.set (bw (av (au ay (64-bn (au ay (ar (bj b0 2)+8)) 64))) (AH (bm cq))) 0 (bf 128))))) b0 (fun d1 m1=>(KO N (bf (au cz (jy (au ay (ar (bj b0 2)*8)) (2^min (av 32) 64)))) (fun d2 m2=>(KO N (bf (au cz (au ay (ar (bj b0 2)*8)))) (fun d3 m3=>(bif Nat.beq (ax (az (dk d2 0))) (ax (az (dk d2 0)))then(if(ax (az (dk d2 0))+ax (az (dk d3 0)))*1<=140737488355328/\ax (az (dk d2 0))+ax (az (dk d3 0))<=9223372036854775807 then(Lf N (cg (az (dk d2 0)++az (dk d3 0))) (dk d1 0) (fun d4 m4=>(jn (fun d5 m5=>(k1 [dk d5 2,dk d5 0] [])) (fun k2=>(BO N (Lc N k2) [bj (dk d4 0) 0,bf 0,b0,AH (bu 32 (bm cq)),AH (bu 32 (bm cq))] [])))))else none)else none)))))))else none)else none
def PU:=lid "" (@VI R N)
theorem Zl {R N b0 k}:@PU R N b0 k=VI N b0 k:=by unfold PU;rw[BQ]
def q3u:OvG R:=DA q3t q3w (fun ds ms=>PU N (dk ds 0)) fun ds ms K d1 m1=>K (V.d (bu 32 (bm cq)) (dk d1 0)) [(di (bz 1),dj (V.d DM (dk d1 1)))]
theorem q3v:okX 136 (@q3u R N):=DF (Ap (qM N) <| Ap (qL N) <| BS) N [(136,[(7,[(27,100),(3,16)]),(8,[(3,16)])])] [(136,[([1,0,1,1,1,1,1,1,1,1,1],⟨[0,2,6],[],[.g (.l 1)],[],[],[]⟩),
  ([4,1,0,1,1,1,1,1,1,1,1,1],⟨[0,2,6,38],[(39,.d (.int .i64))],[.g (.l 1)],[],[],[]⟩),
  ([9],⟨[],[(2,.as (.ptr (.l 2) [] (.arr 32 (.int .u8))))],[.g (.l 1)],[(.l 2,.box (.d (.arr 32 (.int .u8))))],[],[]⟩)])] (fun _ _ _=>Zl)
def NH (k2:KD R):KD R->KD R:=fun k3 d3 m3=>(bif decide (ar (dk d3 2)<ar (dk d3 1))then(if 0<=ar (dk d3 2)/\ar (dk d3 2)<(↑(ax (az (dk d3 0))):Int)then(KO N (bf (au cz (↑(ax (az (br (az (dk d3 0)) (av (ar (dk d3 2))) C.nil))):Int))) (fun d4 m4=>(NJ N (cg [cg (az (dk d4 0)),br (az (dk d3 0)) (av (ar (dk d3 2))) C.nil]) (dk d3 4) (fun d5 m5=>(k3 [dk d3 0,dk d3 1,bf (au bb (ar (dk d3 2)+1)),dk d3 3,dk d5 0] [])))))else none)else(k2 [dk d3 3,dk d3 4] []))
def VG (a0 a1:C) (k1:KD R):Option R:=PW N (fun d1 m1=>(NJ N (cg [cg [a0,bf (au cq (↑(ax (az a1)):Int))]]) (dk d1 0) (fun d2 m2=>(jn (fun d3 m3=>(PU N (dk d3 1) (fun d4 m4=>(k1 [dk d4 0] [])))) (fun k2=>(BO N (NH N k2) [a1,bf (↑(ax (az a1)):Int),bf 0,AH (bu 32 (bm cq)),dk d2 0] []))))))
def PS:=lid "" (@VG R N)
theorem Zj {R N a0 a1 k}:@PS R N a0 a1 k=VG N a0 a1 k:=by unfold PS;rw[BQ]
def q3p:OvG R:=CA [.int .u8,.slice 24 (.slice 1 (.int .u8))] (Ef (PS N)) (DS (bu 32 (bm cq)))
theorem q3q:okX 119 (@q3p R N):=Cg (Ap (q3J N) <| Ap (q3z N) <| Ap (qM N) <| Ap (q3v N) <| BS) N [(119,[(2,[(5,16)]),(6,[(5,16)]),(8,[(5,16)])])] [(119,[([1,0,1,1,1],(Cr [4,5] [])),
  ([4,1,0,1,1,1],(Cr [4,5,17,18] [(19,.d (.int .i64))])),
  ([9],⟨[],[(4,.as (.ptr (.l 4) [] (.arr 32 (.int .u8))))],[],[(.l 4,.box (.d (.arr 32 (.int .u8))))],[],[]⟩)])] (fun _ _=>Zj)
section
variable {R:Type} {N:Nat}
theorem LZ {F:KD R->KD R->List C->List Es->Option R} (inv:Nat->List C->Prop) (P:List C->Prop)
  (step:∀n st,inv n st->(∃st' n',n'<n/\inv n' st'/\∀k rec:KD R,F k rec st []=rec st' [])\/(∃d,P d/\∀k rec:KD R,F k rec st []=k d [])):
  ∀(m n:Nat) (st:List C) (N:Nat),n<=m->inv n st->n<N->∃d,P d/\∀k:KD R,BO N (F k) st []=k d []
 |m,n,st,N,hm,hi,hN=>by
  obtain⟨N,rfl⟩:∃a,N=a+1:=⟨N-1,by omega⟩;rcases step n st hi with⟨st',n',h1,h2,h3⟩|⟨d,h1,h2⟩
  ·match m with
   |0=>omega|m+1=>
    obtain⟨d,h4,h5⟩:=LZ inv P step m n' st' N (by omega) h2 (by omega);exact⟨d,h4,fun k=>by rw[Dl,h3,h5]⟩
  ·exact⟨d,h1,fun k=>by rw[Dl,h2]⟩
theorem GZ {F:KD R->KD R->List C->List Es->Option R} (n:Nat) (inv:Nat->List C->Prop) (P:List C->Prop)
  (step:∀i st,i<n->inv i st->∃st',inv (i+1) st'/\∀k rec:KD R,F k rec st []=rec st' [])
  (stop:∀st,inv n st->∃d,P d/\∀k rec:KD R,F k rec st []=k d [])
  {N:Nat} (hN:n<N) {st:List C} (h0:inv 0 st):∃d,P d/\∀k:KD R,BO N (F k) st []=k d []:=by
 refine LZ (fun m st=>∃i,i+m=n/\inv i st) P (fun m st hi=>?_) n n st N (bx n) ⟨0,by omega,h0⟩ hN;obtain⟨i,h1,h2⟩:=hi;by_cases e:i=n;{subst e;exact .inr (stop st h2)};{obtain⟨st',h3,h4⟩:=step i st (by omega) h2;exact .inl ⟨st',m-1,by omega,⟨i+1,by omega,h3⟩,h4⟩}
theorem fF (x:Int):0<=IntKind.u64.wrap x/\IntKind.u64.wrap x<18446744073709551616:=by
 have:IntKind.u64.wrap x=x%18446744073709551616:=by simp[au,IntKind.bits,IntKind.signed]
 omega
theorem cX (x:C) (k:Int):∃n:Int,∀k':KD R,Lb N x (.int k) k'=k' [.int n] []:=
 ⟨_,fun k'=>by
  rw[Zh];unfold VE;rw[if_pos (fF _).1]⟩
theorem Wm (x:C) (a b c:Int) (f:Bool) (hc:0<=c):∃n:Int,∀k:KD R,Hs N x (.int a) (.int b) (.int c) (.bool f) k=k [.int n] []:=by
 obtain⟨n1,h1⟩:=cX (R:=R) (N:=N) x (au bb (0-c));obtain⟨n2,h2⟩:=cX (R:=R) (N:=N) x (au bb (0-a));obtain⟨n3,h3⟩:=cX (R:=R) (N:=N) x (au bb (0-b));cases f
 ·refine⟨?v1,fun k=>?eq1⟩
  case eq1=>
   rw[VP];unfold Rs;simp only[AW,AF,AJ,AL,AP,AG,AZ,h1,h2,h3,cond_false,AB];rfl
 ·refine⟨?v2,fun k=>?eq2⟩
  case eq2=>
   rw[VP];unfold Rs;simp only[AW,AF,AJ,AL,AP,AG,AZ,h1,h2,h3,cond_true,if_pos hc,AB];rfl
theorem q9j (l:List C) (hl:4<=l.length) (hN:10<N):∃n:Int,∀k:KD R,NL N (.slice l) k=k [.int n] []:=by
 have hc:(cut l 0 4).length=4:=by simp[cut];omega
 have key:=GZ (R:=R) (F:=fun k2=>NK N k2) 4 (fun i st=>∃x:Int,st=[.slice (cut l 0 4),.int 4,.int x,.int i]) (fun d=>∃n:Int,d=[.int n]) ?_ ?_ (N:=N) (by omega) (st:=[.slice (cut l 0 4),.int 4,.int 0,.int (0:Nat)]) ⟨0,rfl⟩
 ·obtain⟨d,⟨n,rfl⟩,h⟩:=key;refine⟨n,fun k=>?_⟩;rw[Zs];unfold VQ;have h4:(4:Int)<=(l.length:Int):=by omega
  simp only[AQ,hc,h4,AW,AB];rw[if_pos ⟨by decide,by decide,trivial⟩];exact h _
 ·rintro i st hi ⟨x,rfl⟩;refine⟨_,⟨?x3,rfl⟩,fun k rec=>?eq3⟩
  case eq3=>
   have h1:(i:Int)<4:=by omega
   have h2:(i:Int)<((4:Nat):Int):=by omega
   unfold NK;simp only[AF,AJ,AL,AP,AG,AQ,hc,h1,h2,AE,cf,and_self,CV (show i<4611686018427387904 by omega),AB];rfl
 ·rintro st ⟨x,rfl⟩;refine⟨_,⟨x,rfl⟩,fun k rec=>?_⟩;unfold NK;have h:¬((4:Nat):Int)<4:=by decide
  simp only[AF,AJ,AL,AP,AG,h,AE,AB]
theorem JH (x m:Int) (hx:0<=x) (hm:0<m):0<=bn x m/\bn x m<m:=⟨Int.tmod_nonneg _ hx,Int.tmod_lt_of_pos _ hm⟩
theorem q1D (s n:C) (w:List C) (hw:w.length=64) (hN:100<N):∃s',∀k:KD R,PV N (.agg [s,.agg w,n]) k=k [.agg [s',.agg w,n]] []:=by
 obtain⟨d1,⟨x1,rfl⟩,h1⟩:=GZ (R:=R) (F:=fun k2=>Le N k2) 16 (fun i st=>∃x:C,st=[.int i,.agg [s,.agg w,n],x]) (fun d=>∃x:C,d=[.agg [s,.agg w,n],x])
  (fun i st hi hst=>by
   obtain⟨x,rfl⟩:=hst;have e1:(i:Int)<16:=by omega
   have e2:IntKind.i64.wrap (4*(i:Int))=4*i:=wrap_i64 (by omega) (by omega);have c1:0<=4*(i:Int)/\4*(i:Int)<=64/\iy 64<=64:=⟨by omega,by omega,by decide⟩;obtain⟨v,hv⟩:=q9j (R:=R) (N:=N) (ek (64-4*(i:Int)).toNat (jb (4*(i:Int)).toNat w)) (by simp;omega) (by omega);refine⟨_,⟨?x4,rfl⟩,fun k rec=>?eq4⟩
   case eq4=>
    unfold Le;simp only[AF,AJ,AL,AG,e1,e2,AE,cf,and_self,Mn,Ac,hv,c1,CV (show i<4611686018427387904 by omega),AB];rfl)
  (fun st hst=>by
   obtain⟨x,rfl⟩:=hst;refine⟨_,⟨x,rfl⟩,fun k rec=>?_⟩;unfold Le;have h:¬((16:Nat):Int)<16:=by decide
   simp only[AF,AJ,AL,AG,h,AE,AB])
  (N:=N) (by omega) (st:=[.int (0:Nat),.agg [s,.agg w,n],AH (.arr 16 (.int .u32))]) ⟨_,rfl⟩
 obtain⟨st0,z9e⟩:∃x:C,∀k:KD R,PX N k=k [x] []:=⟨_,fun k=>by rw[Zr];unfold VO;rfl⟩
 obtain⟨d2,⟨x2,rfl⟩,h2⟩:=GZ (R:=R) (F:=fun k2=>Jf N k2) 64 (fun i st=>∃x y:C,st=[st0,.int i,.agg [s,.agg w,n],x,y]) (fun d=>∃y:C,d=[.agg [s,.agg w,n],y])
  (fun i st hi hst=>by
   obtain⟨x,y,rfl⟩:=hst;have e1:(i:Int)<64:=by omega
   have r0:=JH (i:Int) 16 (by omega) (by omega);have q1:IntKind.i64.wrap ((i:Int)+1)=i+1:=wrap_i64 (by omega) (by omega);have q9:IntKind.i64.wrap ((i:Int)+9)=i+9:=wrap_i64 (by omega) (by omega);have q14:IntKind.i64.wrap ((i:Int)+14)=i+14:=wrap_i64 (by omega) (by omega);have r1:=JH ((i:Int)+1) 16 (by omega) (by omega);have r9:=JH ((i:Int)+9) 16 (by omega) (by omega);have r14:=JH ((i:Int)+14) 16 (by omega) (by omega);obtain⟨a1,ha1⟩:=Wm (R:=R) (N:=N) (bj y (av 4)) 6 11 25 false (by omega);obtain⟨a2,ha2⟩:=Wm (R:=R) (N:=N) (bj y (av 0)) 2 13 22 false (by omega);obtain⟨a3,ha3⟩:=Wm (R:=R) (N:=N) (bj x (av (bn ((i:Int)+1) 16))) 7 18 3 true (by omega);obtain⟨a4,ha4⟩:=Wm (R:=R) (N:=N) (bj x (av (bn ((i:Int)+14) 16))) 17 19 10 true (by omega);have e5:((i+1:Nat):Int)=(i:Int)+1:=by omega
   by_cases e2:16<=(i:Int)
   ·refine⟨_,⟨?x5,?y5,rfl⟩,fun k rec=>?eq5⟩
    case eq5=>
     unfold Jf;simp only[AW,AF,AJ,AL,AP,AV,Ab,Af,AG,e1,e2,q1,q9,q14,r0,r1,r9,r14,AE,cf,and_self,ha1,ha2,ha3,ha4,e5,AB];rfl
   ·refine⟨_,⟨?x6,?y6,rfl⟩,fun k rec=>?eq6⟩
    case eq6=>
     unfold Jf;simp only[AW,AF,AJ,AL,AP,AV,Ab,Af,AG,e1,e2,q1,r0,AE,cf,and_self,ha1,ha2,e5,AB];rfl)
  (fun st hst=>by
   obtain⟨x,y,rfl⟩:=hst;refine⟨_,⟨y,rfl⟩,fun k rec=>?_⟩;unfold Jf;have h:¬((64:Nat):Int)<64:=by decide
   simp only[AF,AJ,AL,AP,AV,AG,h,AE,AB])
  (N:=N) (by omega) (st:=[st0,.int (0:Nat),.agg [s,.agg w,n],x1,s]) ⟨_,_,rfl⟩
 obtain⟨d3,⟨x3,rfl⟩,h3⟩:=GZ (R:=R) (F:=fun k2=>Ld N k2) 8 (fun i st=>∃x:C,st=[.int i,.agg [x,.agg w,n],x2]) (fun d=>∃x:C,d=[.agg [x,.agg w,n]])
  (fun i st hi hst=>by
   obtain⟨x,rfl⟩:=hst;have e1:(i:Int)<8:=by omega
   refine⟨_,⟨?x7,rfl⟩,fun k rec=>?eq7⟩
   case eq7=>
    unfold Ld;simp only[AF,AJ,AL,AG,e1,AE,cf,and_self,Kg,CV (show i<4611686018427387904 by omega),AB];rfl)
  (fun st hst=>by
   obtain⟨x,rfl⟩:=hst;refine⟨_,⟨x,rfl⟩,fun k rec=>?_⟩;unfold Ld;have h:¬((8:Nat):Int)<8:=by decide
   simp only[AF,AJ,AL,AG,h,AE,AB])
  (N:=N) (by omega) (st:=[.int (0:Nat),.agg [s,.agg w,n],x2]) ⟨_,rfl⟩
 refine⟨x3,fun k=>?_⟩;rw[Zn];unfold VK;simp only[AW,AB];refine(h1 _).trans ?_;simp only[z9e,AF,AJ,JZ];refine(h2 _).trans ?_;simp only[AF,AJ];exact(h3 _).trans rfl
def IA (m:C):Prop:=∃(s:C) (w:List C) (n:Int),m= .agg [s,.agg w,.int n]/\w.length=64/\W64 n
theorem bD (l:List C) (m:C) (hm:IA m) (hN:l.length+100<N):∃m',IA m'/\∀k:KD R,Lf N (.slice l) m k=k [m'] []:=by
 obtain⟨d,⟨m',h1,rfl⟩,h⟩:=LZ (R:=R) (F:=fun k2=>KN N k2) (fun n st=>∃(l:List C) (m:C),st=[.slice l,m]/\IA m/\l.length<=n) (fun d=>∃m',IA m'/\d=[m'])
  (fun n st hst=>by
   obtain⟨l,m,rfl,⟨s,w,a,rfl,hw,ha⟩,hl⟩:=hst;by_cases e:0<(l.length:Int)
   ·left;have r:=JH a 64 ha.1 (by omega);generalize hq:bn a 64=q at*;have cw:(Dg w q.toNat (64-q).toNat l).length=64:=by rw[Tt (by omega)];exact hw
    have c1:0<(64-q).toNat:=by omega
    generalize hp:min l.length (64-q).toNat=p at*;have c2:0<=(p:Int)/\(p:Int)<=(l.length:Int)/\(l.length:Int)<=(l.length:Int):=by omega
    have c3:0<=q/\q<=64/\iy 64<=64:=⟨r.1,by omega,by decide⟩;obtain⟨s',hs'⟩:=q1D (R:=R) (N:=N) s (.int (IntKind.u64.wrap (a+IntKind.u64.wrap (p:Int)))) _ cw (by omega);have wn:=fF (a+IntKind.u64.wrap (p:Int));have cl:(cut l (p:Int) (l.length:Int)).length<l.length:=by simp[cut];omega
    by_cases z:bn (IntKind.u64.wrap (a+IntKind.u64.wrap (p:Int))) 64=0
    ·refine⟨_,(cut l (p:Int) (l.length:Int)).length,by omega,⟨cut l (p:Int) (l.length:Int),_,rfl,⟨?s8,_,_,rfl,cw,wn⟩,bx _⟩,fun k rec=>?eq8⟩
     case eq8=>
      unfold KN;simp only[AW,AF,AJ,AG,AQ,Ac,JZ,Mn,PB,Kg,QM,QN,e,hq,hp,c1,c2,c3,z,AE,and_self,hs',AB];rfl
    ·refine⟨_,(cut l (p:Int) (l.length:Int)).length,by omega,⟨cut l (p:Int) (l.length:Int),_,rfl,⟨?s9,_,_,rfl,cw,wn⟩,bx _⟩,fun k rec=>?eq9⟩
     case eq9=>
      unfold KN;simp only[AW,AF,AJ,AG,AQ,Ac,JZ,Mn,PB,Kg,QM,QN,e,hq,hp,c1,c2,c3,z,AE,and_self,AB];rfl
   ·right;refine⟨_,⟨_,⟨s,w,a,rfl,hw,ha⟩,rfl⟩,fun k rec=>?_⟩;unfold KN;simp only[AF,AJ,AQ,e,AE])
  l.length l.length [.slice l,m] N (bx _) ⟨l,m,rfl,hm,bx _⟩ (by omega)
 refine⟨m',h1,fun k=>?_⟩;rw[Zo];unfold VL;simp only[AW,AB];exact(h _).trans rfl
theorem zC (l:List C) (m:C) (hm:IA m) (B:Nat) (hb:∀x∈l,∃y:List C,x= .slice y/\y.length<=B) (hl:l.length<N) (hN:B+100<N) (hN2:N<4611686018427387904):∃m',IA m'/\∀k:KD R,NJ N (.slice l) m k=k [m'] []:=by
 obtain⟨d,⟨m',h1,rfl⟩,h⟩:=GZ (R:=R) (F:=fun k2=>NI N k2) l.length (fun i st=>∃m:C,IA m/\st=[.slice l,.int l.length,.int i,m]) (fun d=>∃m',IA m'/\d=[m'])
  (fun i st hi hst=>by
   obtain⟨m,hm,rfl⟩:=hst;have e1:(i:Int)<(l.length:Int):=by omega
   obtain⟨y,hy,hyl⟩:=hb _ (Ez hi);obtain⟨m2,h2,h3⟩:=bD (R:=R) (N:=N) y m hm (by omega);refine⟨_,⟨m2,h2,rfl⟩,fun k rec=>?_⟩;unfold NI;simp only[AF,AJ,AL,AP,AG,AQ,e1,AE,cf,and_self,bc,hy,h3,CV (show i<4611686018427387904 by omega),AB])
  (fun st hst=>by
   obtain⟨m,hm,rfl⟩:=hst;refine⟨_,⟨m,hm,rfl⟩,fun k rec=>?_⟩;unfold NI;simp only[AF,AJ,AL,AP,AG,fj,AE,AB])
  (N:=N) (by omega) (st:=[.slice l,.int l.length,.int (0:Nat),m]) ⟨m,hm,rfl⟩
 refine⟨m',h1,fun k=>?_⟩;rw[Zm];unfold VJ;simp only[AW,AQ,AB];exact(h _).trans rfl
def Dig (c:C):Prop:=∃l:List C,c= .agg l/\l.length=32
theorem UY (n:C):∃x:List C,x.length=4/\∀k:KD R,KO N n k=k [.slice x] []:=
 ⟨[bf (au cq (jy (ar n) (2^min (av 24) 32))),bf (au cq (jy (ar n) (2^min (av 16) 32))),bf (au cq (jy (ar n) (2^min (av 8) 32))),bf (au cq (ar n))],rfl,fun k=>by rw[Zq];unfold VN;rfl⟩
theorem q8b (m:C) (hm:IA m) (hN:1000<N):∃c,Dig c/\∀k:KD R,PU N m k=k [c,m] []:=by
 obtain⟨s,w,a,rfl,hw,ha⟩:=hm;have r:=JH (IntKind.u64.wrap (a+8)) 64 (fF _).1 (by omega);generalize hq:bn (IntKind.u64.wrap (a+8)) 64=q at r;have e1:IntKind.u64.wrap (64-q)=64-q:=wrap_u64 (by omega) (by omega);obtain⟨m1,hm1,h1⟩:=bD (R:=R) (N:=N) (ek (64-q).toNat (jb 0 (List.set (bw (64-q).toNat (AH (bm cq))) 0 (bf 128)))) (.agg [s,.agg w,.int a]) ⟨s,w,a,rfl,hw,ha⟩ (by simp;omega);obtain⟨f1,hf1,g1⟩:=UY (R:=R) (N:=N) (bf (au cz (jy (au ay (a*8)) (2^min (av 32) 64))));obtain⟨f2,hf2,g2⟩:=UY (R:=R) (N:=N) (bf (au cz (au ay (a*8))));obtain⟨m2,hm2,h2⟩:=bD (R:=R) (N:=N) (f1++f2) m1 hm1 (by simp;omega)
 obtain⟨d,⟨z,hz,rfl⟩,h3⟩:=GZ (R:=R) (F:=fun k2=>Lc N k2) 8 (fun i st=>∃z:C,Dig z/\st=[m2.get 0,.int i,.agg [s,.agg w,.int a],AH (.arr 32 (.int .u8)),z]) (fun d=>∃z,Dig z/\d=[.agg [s,.agg w,.int a],AH (.arr 32 (.int .u8)),z])
  (fun i st hi hst=>by
   obtain⟨z,⟨zl,rfl,hzl⟩,rfl⟩:=hst;have e1:(i:Int)<8:=by omega
   have e2:IntKind.i64.wrap (4*(i:Int))=4*i:=wrap_i64 (by omega) (by omega);obtain⟨f,hf,g⟩:=UY (R:=R) (N:=N) (bj (m2.get 0) i);have c1:0<(32-4*(i:Int)).toNat:=by omega
   refine⟨_,⟨_,⟨_,rfl,by rw[Tt (cs:=zl) (lo:=(4*(i:Int)).toNat) (n:=(32-4*(i:Int)).toNat) (ys:=f) (by omega)];exact hzl⟩,rfl⟩,fun k rec=>?_⟩;unfold Lc;have c2:0<=4*(i:Int)/\4*(i:Int)<=32/\iy 32<=32:=⟨by omega,by omega,by decide⟩;simp only[AF,AJ,AL,AP,AV,AG,AQ,Ac,e1,e2,c1,c2,AE,cf,and_self,bc,g,CV (show i<4611686018427387904 by omega),AB])
  (fun st hst=>by
   obtain⟨z,hz,rfl⟩:=hst;refine⟨_,⟨z,hz,rfl⟩,fun k rec=>?_⟩;unfold Lc;have h:¬((8:Nat):Int)<8:=by decide
   simp only[AF,AJ,AL,AP,AV,AG,h,AE,AB])
  (N:=N) (by omega) (st:=[m2.get 0,.int (0:Nat),.agg [s,.agg w,.int a],AH (.arr 32 (.int .u8)),AH (.arr 32 (.int .u8))]) ⟨_,⟨_,rfl,by decide⟩,rfl⟩
 refine⟨z,hz,fun k=>?_⟩;rw[Zl];unfold VI;simp only[PB,AG,hq,e1,AB];rw[if_pos (by omega),if_pos (by constructor <;> simp <;> omega),h1];simp only[AF,g1,g2,AQ,bo,cond_true,hf1,hf2];rw[if_pos (by omega),h2];simp only[AW,AF,AB];exact(h3 _).trans rfl
theorem zR (a0:C) (l:List C) (B:Nat) (hb:∀x∈l,∃y:List C,x= .slice y/\y.length<=B) (hl:l.length+1000<N) (hN:B+1000<N) (hN2:N<4611686018427387904):∃c,Dig c/\∀k:KD R,PS N a0 (.slice l) k=k [c] []:=by
 obtain⟨m0,hm0,h0⟩:∃m,IA m/\∀k:KD R,PW N k=k [m] []:=⟨_,⟨_,bw 64 (.int 0),0,by rfl,by simp,by unfold W64;omega⟩,fun k=>by rw[Zp];unfold VM;rfl⟩;obtain⟨m1,hm1,h1⟩:=zC (R:=R) (N:=N) [cg [a0,bf (au cq (l.length:Int))]] m0 hm0 10 (fun x hx=>⟨_,fv.1 hx,by simp⟩) (by simp;omega) (by omega) hN2
 obtain⟨d,⟨m2,hm2,rfl⟩,h2⟩:=GZ (R:=R) (F:=fun k2=>NH N k2) l.length (fun i st=>∃m:C,IA m/\st=[.slice l,.int l.length,.int i,AH (.arr 32 (.int .u8)),m]) (fun d=>∃m',IA m'/\d=[AH (.arr 32 (.int .u8)),m'])
  (fun i st hi hst=>by
   obtain⟨m,hm,rfl⟩:=hst;have e1:(i:Int)<(l.length:Int):=by omega
   obtain⟨y,hy,hyl⟩:=hb _ (Ez hi);obtain⟨f,hf,g⟩:=UY (R:=R) (N:=N) (bf (au cz (y.length:Int)))
   obtain⟨m2,h2,h3⟩:=zC (R:=R) (N:=N) [cg f,cg y] m hm (B+4) (fun x hx=>by
    simp only[gy,List.not_mem_nil,or_false]at hx;rcases hx with rfl|rfl;{exact⟨_,rfl,by omega⟩}
    ·exact⟨_,rfl,by omega⟩) (by simp;omega) (by omega) hN2
   refine⟨_,⟨m2,h2,rfl⟩,fun k rec=>?_⟩;unfold NH;simp only[AF,AJ,AL,AP,AV,AG,AQ,e1,AE,cf,and_self,bc,hy,g,h3,CV (show i<4611686018427387904 by omega),AB])
  (fun st hst=>by
   obtain⟨m,hm,rfl⟩:=hst;refine⟨_,⟨m,hm,rfl⟩,fun k rec=>?_⟩;unfold NH;simp only[AF,AJ,AL,AP,AV,AG,fj,AE,AB])
  (N:=N) (by omega) (st:=[.slice l,.int l.length,.int (0:Nat),AH (.arr 32 (.int .u8)),m1]) ⟨m1,hm1,rfl⟩
 obtain⟨c,hc,h3⟩:=q8b (R:=R) (N:=N) m2 hm2 (by omega);refine⟨c,hc,fun k=>?_⟩;rw[Zj];unfold VG;simp only[h0,AF,AQ,h1,AW,AB];refine(h2 _).trans ?_;simp only[AJ,h3,AF]
end
def sT {R:Type} (N:Nat) (a0:C) (k1:KD R):Option R:=k1 [dv [a0,AH (bm ay),AH (bu 2 (bm ay)),AH (bu 2 (bm ay)),cg []]] []
def SG:=lid "" (@sT R N)
theorem sU {R N a0 k}:@SG R N a0 k=sT N a0 k:=by unfold SG;rw[BQ]
def q4W:OvG R:=CA [.int .u32] (GA (SG N)) (DS Bp)
theorem q4X:okX 121 (@q4W R N):=Cg BS N [] [(121,[([9],⟨[],[(2,.as (.ptr (.l 2) [] Bp))],[],[(.l 2,.box (.d Bp))],[],[]⟩)])] (fun _ _=>sU)
def XX (a0 a1 a2 a3:C) (k1:KD R):Option R:=jn (fun d1 m1=>(bif dg (dk d1 4)then(k1 [bf 1,Du] [])else(bif !decide (Df (az (dk d1 1))=0)then(k1 [bf (Df (az (dk d1 1))),Du] [])else(SG N (dk d1 0) (fun d2 m2=>(bif Nat.beq (ax (az (dk d1 1))) (ax (az (dk d1 1)))&&true then(k1 [bf 0,dv [dk d1 0,dk d1 2,dk d1 3,cg (az (dk d1 1)),AH (bu 2 (bm ay)),AH (bu 2 (bm ay)),AH (bm bb),AH (bm ay),dk d2 0]] [])else none)))))) (fun k2=>(bif decide (ar (bj a1 (av 0))=ar (bj a1 (av 1)))then(k2 [a0,a3,a1,a2,df true,Du] [])else(bif decide (ar (bj a2 1)<0)then(k2 [a0,a3,a1,a2,df true,Du] [])else(k2 [a0,a3,a1,a2,df (decide (8<ar (bj a2 1))),Du] []))))
def OJ:=lid "" (@XX R N)
theorem gX {R N a0 a1 a2 a3 k}:@OJ R N a0 a1 a2 a3 k=XX N a0 a1 a2 a3 k:=by unfold OJ;rw[BQ]
def u7:OvG R:=CA [.int .u32,.arr 2 (.int .i64),Dd,.slice 1 (.int .u8)] (fun a=>OJ N (a 0) (a 1) (a 2) (a 3)) fun a K d1 m1=>K (V.tup [V.d AR (dk d1 1),V.d (bm bb) (dk d1 0)]) []
theorem u9:okX 105 (@u7 R N):=Cg (Ap (Xh N) <| Ap (Y1 N) <| Ap (q4X N) <| BS) N [(105,[(0,[(5,5),(6,5)]),(6,[(39,7)])])] [(105,[([0,0,1],(Cr [0,3,5,6,8] [(25,.d .bool)])),
  ([9],⟨[],[(8,.as (.ptr (.l 8) [] AR)),(9,.d (.int .i64))],[],[(.l 8,.box (.d AR))],[],[]⟩)])] (fun _ _=>gX)
def VH (a0:C) (k1:KD R):Option R:=PS N (bf 6) (cg [cg (cut (az a0) 0 32)]) (fun d1 m1=>(k1 [dk d1 0] []))
def PT:=lid "" (@VH R N)
theorem Zk {R N a0 k}:@PT R N a0 k=VH N a0 k:=by unfold PT;rw[BQ]
def q3r:OvG R:=CA [.arr 32 (.int .u8)] (GA (PT N)) (DS (bu 32 (bm cq)))
theorem q3s:okX 104 (@q3r R N):=Cg (Ap (q3q N) <| BS) N [(104,[(0,[(1,5)])])] [(104,[([9],⟨[],[(2,.as (.ptr (.l 2) [] (.arr 32 (.int .u8))))],[],[(.l 2,.box (.d (.arr 32 (.int .u8))))],[],[]⟩)])] (fun _ _=>Zk)
def Wd {R:Type} (N:Nat) (k1:KD R) (k2:KD R):KD R->KD R:=fun k3 d1 m1=>(bif decide (ar (dk d1 3)<ar (dk d1 2))then(if 0<=ar (dk d1 3)/\ar (dk d1 3)<(↑(ax (az (dk d1 0))):Int)then(bif decide (ar (dk d1 1)=ar (br (az (dk d1 0)) (av (ar (dk d1 3))) C.nil))then(k1 [dk d1 3] [])else(k3 [dk d1 0,dk d1 1,dk d1 2,bf (au bb (ar (dk d1 3)+1))] []))else none)else(k2 [] []))
def dQ (a0 a1:C) (k1:KD R):Option R:=jn (fun d1 m1=>(k1 [bf (-1)] [])) (fun k2=>(BO N (Wd N k1 k2) [a0,a1,bf (↑(ax (az a0)):Int),bf 0] []))
def TA:=lid "" (@dQ R N)
theorem wU {R N a0 a1 k}:@TA R N a0 a1 k=dQ N a0 a1 k:=by unfold TA;rw[BQ]
def q7I:OvG R:=CA [.slice 8 (.int .i64),.int .i64] (Ef (TA N)) (DS (bm bb))
theorem q7J:okX 68 (@q7I R N):=Cg BS N [] [(68,[([1,0,1],(Ct [])),
  ([4,1,0,1],(Cr [0,1,7] [(8,.d (.int .i64))])),
  ([9],(Ct [(4,.d (.int .i64))]))])] (fun _ _=>wU)
def q4s:List Sh:=[.as (.ptr (.g (.l 1)) [] Bx),.d (.arr 32 (.int .u8)),.d (.int .u64)]
def q4v:List (Key × OSh):=[(.l 1,.box (.agg Bx [.as (.mp (.g (.l 2)))])),(.l 2,.map (.arr 32 (.int .u8)) AK)]
def SA (a0 a1 a2 b0:C) (m0:Es) (k1:KD R):Option R:=PT N a0 (fun d1 m1=>(bif EF AK (dE AK m0)then(bif Ir (dE AK m0) (dk d1 0)then(gM AK m0 (k1 [bf 7] [unE (dE AK m0)]))else(if HK AK (Ge (dE AK (dm [m0] 0)) (dk d1 0) (V.d AK (cm (cm (dv [dv (bw 32 (bf 0)),bf 0]) 0 a0) 1 a1)))=true then(k1 [bf 0] [unE (Ge (dE AK (dm [m0] 0)) (dk d1 0) (V.d AK (cm (cm (dv [dv (bw 32 (bf 0)),bf 0]) 0 a0) 1 a1)))])else none))else none))
def NQ:=lid "" (@SA R N)
theorem VY {R N a0 a1 a2 b0 m0 k}:@NQ R N a0 a1 a2 b0 m0 k=SA N a0 a1 a2 b0 m0 k:=by unfold NQ;rw[BQ]
def q4t:OvG R:=DA q4s q4v (fun ds ms=>NQ N (dk ds 0) (dk ds 1) (dk ds 2) (dk ds 3) (dm ms 0)) fun ds ms K d1 m1=>K (V.d (bm bb) (dk d1 0)) [(di (bz 1),dj (V.agg Bx [V.mp (di (bz 2))])),
 (di (bz 2),O.map (bu 32 (bm cq)) AK (dE AK (dm m1 0)))]
theorem q4u:okX 87 (@q4t R N):=DF (Ap (q3s N) <| BS) N [(87,[(0,[(4,5)]),(4,[(7,6)]),(7,[(7,6)])])] [(87,[([9],⟨[],[(6,.d (.int .i64))],[.g (.l 1),.g (.l 2)],[],[],[]⟩)])] (fun _ _ _=>VY)
section
variable {R:Type} {N:Nat}
structure StE (s:C):Prop where
 eta:SOk s
structure StG (s:C):Prop where
 e:StE s
def TU (_:C):Prop:=True
def Nt (d:C):Prop:=∃s x y:C,d= .agg [s,.agg [x,y]]/\StG s
def stZ (id:Int):C:=.agg [.int id,.int 0,zz,zz,.slice []]
theorem q7W (id:Int):SOk (stZ id):=rfl
theorem q4V (a:Int) (k:KD R):SG N (.int a) k=k [stZ a] []:=by rw[sU];rfl
theorem q4d (id:Int) (hid:W64 id) (who rts:C) (ym:List C) (hr:C.wf (.slice 1 (.int .u8)) (.slice ym)):
  ∃(e:Int) (b:C),(∀k:KD R,OJ N (.int id) who rts (.slice ym) k=k [.int e,b] [])/\(e=0->b=mkB (.int id) who rts ym zz zz (.int 0) (.int 0) (stZ id)/\TU b/\(rts.get 1).toInt<=8)/\
   ((who.get 0).toInt≠(who.get 1).toInt->0<=(rts.get 1).toInt->(rts.get 1).toInt<=8->Df ym=0->e=0):=by
 have main:∀k:KD R,OJ N (.int id) who rts (.slice ym) k=if(who.get 0).toInt=(who.get 1).toInt then k [.int 1,zB] []else if(rts.get 1).toInt<0 then k [.int 1,zB] []else if 8<(rts.get 1).toInt then k [.int 1,zB] []else
   if Df ym=0 then k [.int 0,mkB (.int id) who rts ym zz zz (.int 0) (.int 0) (stZ id)] []else k [.int (Df ym),zB] []:=fun k=>by
  have t0:av 0=0:=rfl;have t1:av 1=1:=rfl;rw[gX];unfold XX;rw[XA];simp only[AW,t0,t1,AB];by_cases h1:(who.get 0).toInt=(who.get 1).toInt;{simp only[h1,AE,AV,AZ,AB]};by_cases h2:(rts.get 1).toInt<0;{simp only[h1,h2,AE,AV,AZ,AB]};by_cases h3:8<(rts.get 1).toInt;{simp only[h1,h2,h3,AE,AV,AZ,AB]};by_cases h4:Df ym=0;{simp only[h1,h2,h3,h4,AE,AF,AJ,AL,AP,AV,AZ,AQ,q4V,bo,Bool.true_and,AB];rfl};{simp only[h1,h2,h3,h4,AE,AF,AJ,AL,AP,AV,AZ,AQ,AB]}
 by_cases h1:(who.get 0).toInt=(who.get 1).toInt;{exact⟨1,zB,fun k=>by rw[main,if_pos h1],fun h=>by omega,fun h _ _ _=>absurd h1 h⟩};by_cases h2:(rts.get 1).toInt<0;{exact⟨1,zB,fun k=>by rw[main,if_neg h1,if_pos h2],fun h=>by omega,fun _ h _ _=>by omega⟩};by_cases h3:8<(rts.get 1).toInt;{exact⟨1,zB,fun k=>by rw[main,if_neg h1,if_neg h2,if_pos h3],fun h=>by omega,fun _ _ h _=>by omega⟩};by_cases h4:Df ym=0;{exact⟨0,_,fun k=>by rw[main,if_neg h1,if_neg h2,if_neg h3,if_pos h4],fun _=>⟨rfl,trivial,by omega⟩,fun _ _ _ _=>rfl⟩};{exact⟨_,zB,fun k=>by rw[main,if_neg h1,if_neg h2,if_neg h3,if_neg h4],fun h=>absurd h h4,fun _ _ _ h=>h⟩}
def Ms (v:C) (i:Nat) (_:Unit) (c:C):Unit ⊕ Nat:=if v.toInt=c.toInt then .inr i else .inl ()
def Ui (l:List C) (v:C):Int:=match CQ (Ms v) 0 () l with| .inl _=>-1| .inr i=>(i:Int)
def Fp (l:List C) (v:C):Bool:=l.any fun c=>decide (v.toInt=c.toInt)
theorem nF (v:C):∀(l:List C) (i:Nat),(Fp l v=true->∃j,CQ (Ms v) i () l= .inr j/\j<i+l.length)/\(Fp l v=false->CQ (Ms v) i () l= .inl ())
 | [],i=>⟨fun h=>by simp[Fp]at h,fun _=>rfl⟩|c::l,i=>by have ih:=nF v l (i+1);simp only[CQ,Ms,Fp,List.any_cons,List.length_cons]at ih ⊢;by_cases h:v.toInt=c.toInt;{simp only[h,AE,Bool.true_or,AB];exact⟨fun _=>⟨i,rfl,by omega⟩,fun h=>by simp at h⟩};{simp only[h,AE,Bool.false_or];refine⟨fun h1=>?_,ih.2⟩;obtain⟨j,h2,h3⟩:=ih.1 h1;exact⟨j,h2,by omega⟩}
theorem q1Q (l:List C) (v:C):decide (0<=Ui l v)=Fp l v:=by have:=nF v l 0;unfold Ui;cases h:Fp l v;{rw[this.2 h];rfl};{obtain⟨j,h1,_⟩:=this.1 h;rw[h1];exact decide_eq_true (by dsimp only;omega)}
theorem q1S (l:List C) (v:C) (hl:l.length<4611686018427387904) (hN:l.length<N) (k:KD R):TA N (.slice l) v k=k [.int (Ui l v)] []:=by
 rw[wU];unfold dQ;rw[AW];refine(LY (F:=Wd N k fun _ _=>k [.int (-1)] []) (fun i (_:Unit)=>[.slice l,v,.int l.length,.int i]) (fun _ _=>[]) l (Ms v) (fun _=>k [.int (-1)] []) (fun i=>k [.int (i:Nat)] []) (s0:=()) ?_ ?_ hN).trans ?_
 ·intro i _ c hx hi rec;have h1:(i:Int)<(l.length:Int):=by omega
  unfold Wd Ms;simp only[AF,AJ,AL,AP,AG,AQ,h1,Fo hx,cf,and_self,AE,bc,CV (show i<4611686018427387904 by omega),AB];by_cases h2:v.toInt=c.toInt;{simp only[h2,AE,AB]};{simp only[h2,AE]}
 ·intro _ rec;unfold Wd;simp only[AF,AJ,AL,AP,AG,fj,AE,AB]
 ·unfold Ui IB;cases CQ (Ms v) 0 () l <;> rfl
def Vo:Es->C->C->Es
 | [],c,v=>[(c,v)]|(k,u)::l,c,v=>if C.beq c k=true then(k,v)::l else(k,u)::Vo l c v
theorem tL (τ:Ty) (c v:C):∀m:Es,Ge (dE τ m) c (V.d τ v)=dE τ (Vo m c v)
 | []=>rfl|(k,u)::m=>by have ih:=tL τ c v m;simp only[dE,List.map_cons,Ge,Vo]at ih ⊢;by_cases h:C.beq c k=true;{simp[h]};{simp[h,ih]}
theorem q24 (s:C) (hN:5000<N) (hN2:N<4611686018427387904):∃c:C,∀k:KD R,PT N s k=k [c] []:=by obtain⟨c,_,h⟩:=zR (R:=R) (N:=N) (.int 6) [cg (cut (az s) 0 32)] 100 (fun x hx=>⟨_,fv.1 hx,by simp[cut];omega⟩) (by simp;omega) (by omega) hN2;refine⟨c,fun k=>?_⟩;rw[Zk];unfold VH;simp only[h,AF]
theorem q8o (s h x y:C) (m:Es) (hN:5000<N) (hN2:N<4611686018427387904):∃(e:Int) (m':Es),(∀k:KD R,NQ N s h x y m k=k [.int e] [m'])/\(e≠0->m'=m):=by
 obtain⟨c,hc⟩:=q24 (R:=R) (N:=N) s hN hN2;cases hm:FY m c with
 |true=>
  refine⟨7,m,fun k=>?_,fun _=>rfl⟩;rw[VY];unfold SA;simp only[hc,AF,BU,PE,Ag,Ah,hm,AE,AB]
 |false=>
  refine⟨0,Vo m c (cm (cm (dv [dv (bw 32 (bf 0)),bf 0]) 0 s) 1 h),fun k=>?_,fun h=>absurd rfl h⟩;rw[VY];unfold SA;have e:dm [m] 0=m:=rfl;simp only[hc,AF,e,BU,PE,tL,Ag,Ah,hm,AE,AB]
end
def q8N:List Sh:=[.as (.ptr (.g (.l 1)) [] BF),.d (.int .i64)]
def q8P:List (Key × OSh):=[(.l 1,.box (.agg BF [.vec (.g (.l 2)) 8 (.int .u64),.vec (.g (.l 3)) 8 (.int .u64),.d (.int .u64)])),(.l 2,.box (.arr (.int .u64))),(.l 3,.box (.arr (.int .u64)))]
def eH {R:Type} (N:Nat) (a0 b0 b1 b2 b3 b4:C) (k1:KD R):Option R:=jn (fun d1 m1=>(bif dg (dk d1 0)then(k1 [bf 1] [])else(k1 [bf 0] []))) (fun k2=>(bif decide (ar a0<0)then(k2 [df true] [])else(k2 [df (decide ((↑(av (ar b0)):Int)<=ar a0))] [])))
def Jm:=lid "" (@eH R N)
theorem xP {R N a0 b0 b1 b2 b3 b4 k}:@Jm R N a0 b0 b1 b2 b3 b4 k=eH N a0 b0 b1 b2 b3 b4 k:=by unfold Jm;rw[BQ]
def q8O:OvG R:=DA q8N q8P (fun ds ms=>Jm N (dk ds 0) (dk ds 1) (dk ds 2) (dk ds 3) (dk ds 4) (dk ds 5)) fun ds ms K d1 m1=>K (V.d (bm bb) (dk d1 0)) []
theorem TL:okX 101 (@q8O R N):=DF BS N [] [(101,[([0,3,1,4,0,1],⟨[0],[(8,.d .bool)],[],[],[.g (.l 1),.g (.l 2),.g (.l 3)],[(.int .u64)]⟩),
  ([9],⟨[],[(4,.d (.int .i64))],[],[],[.g (.l 1),.g (.l 2),.g (.l 3)],[(.int .u64)]⟩)])] (fun _ _ _=>xP)
def q8A:List Sh:=[.as (.ptr (.g (.l 1)) [] BF),.d (.int .i64),.d (.int .u64)]
def q8C:List (Key × OSh):=[(.l 1,.box (.agg BF [.vec (.g (.l 2)) 8 (.int .u64),.vec (.g (.l 3)) 8 (.int .u64),.d (.int .u64)])),(.l 2,.box (.arr (.int .u64))),(.l 3,.box (.arr (.int .u64)))]
def eC (a0 a1 b0 b1 b2 b3 b4:C) (k1:KD R):Option R:=if ax (az b3)=ax (az b3)then(gA b4 (Jm N a0 (nI b0) (nI b1) b2 b3 b4 (fun d1 m1=>(bif !decide (ar (dk d1 0)=0)then(gA b3 (gA b4 (k1 [dk d1 0,nI b0,nI b1,b2,bf (↑(ax (az b3)):Int),b3,bf (↑(ax (az b4)):Int),b4] [])))else(if 0<=ar a0/\ar a0<(↑(av (ar b0)):Int)then(PZ N (bj b3 (0+av (ar a0))) a1 (fun d2 m2=>(bif !decide (ar (dk d2 1)=0)then(gA b3 (gA b4 (k1 [dk d2 1,nI b0,nI b1,b2,bf (↑(ax (az b3)):Int),b3,bf (↑(ax (az b4)):Int),b4] [])))else(if 0<=ar a0/\ar a0<(↑(av (ar b0)):Int)then(if ax (az b3)=ax (az (cm b3 (0+av (ar a0)) (dk d2 0)))then(gA b4 (k1 [bf 0,nI b0,nI b1,bf (au ay (ar b2+ar a1)),bf (↑(ax (az b3)):Int),cm b3 (0+av (ar a0)) (dk d2 0),bf (↑(ax (az b4)):Int),b4] []))else none)else none))))else none)))))else none
def QS:=lid "" (@eC R N)
theorem xK {R N a0 a1 b0 b1 b2 b3 b4 k}:@QS R N a0 a1 b0 b1 b2 b3 b4 k=eC N a0 a1 b0 b1 b2 b3 b4 k:=by unfold QS;rw[BQ]
def q8B:OvG R:=DA q8A q8C (fun ds ms=>QS N (dk ds 0) (dk ds 1) (dk ds 2) (dk ds 3) (dk ds 4) (dk ds 5) (dk ds 6)) fun ds ms K d1 m1=>K (V.d (bm bb) (dk d1 0)) [(di (bz 1),
  dj
   (V.agg BF
    [V.sr (bz 1000000000074) [] 0 (av (ar (dk d1 1))) none 8 (bm ay),
     V.sr (bz 1000000000106) [] 0 (av (ar (dk d1 2))) none 8 (bm ay),
     V.d (bm ay) (dk d1 3)])),
 (di (bz 2),fh (bu (av (ar (dk d1 4))) (bm ay))),
 (bz 1000000000074,dj (V.d (bu (ax (az (dk d1 5))) (bm ay)) (dk d1 5))),
 (di (bz 3),fh (bu (av (ar (dk d1 6))) (bm ay))),
 (bz 1000000000106,dj (V.d (bu (ax (az (dk d1 7))) (bm ay)) (dk d1 7)))]
theorem xJ:okX 102 (@q8B R N):=DF (Ap (TL N) <| Ap (qO N) <| BS) N [] [(102,[([9],⟨[],[(6,.d (.int .i64))],[.g (.l 1),.g (.l 2),.g (.l 3)],[],[],[(.int .u64)]⟩)])] (fun _ _ _=>xK)
def q8s:List Sh:=[.as (.ptr (.g (.l 1)) [] BF),.d (.int .i64),.d (.int .u64)]
def q8v:List (Key × OSh):=[(.l 1,.box (.agg BF [.vec (.g (.l 2)) 8 (.int .u64),.vec (.g (.l 3)) 8 (.int .u64),.d (.int .u64)])),(.l 2,.box (.arr (.int .u64))),(.l 3,.box (.arr (.int .u64)))]
def eA (a0 a1 b0 b1 b2 b3 b4:C) (k1:KD R):Option R:=if ax (az b3)=ax (az b3)then(gA b4 (Jm N a0 (nI b0) (nI b1) b2 b3 b4 (fun d1 m1=>(bif !decide (ar (dk d1 0)=0)then(gA b3 (gA b4 (k1 [dk d1 0,nI b0,nI b1,b2,bf (↑(ax (az b3)):Int),b3,bf (↑(ax (az b4)):Int),b4] [])))else(PZ N b2 a1 (fun d2 m2=>(bif !decide (ar (dk d2 1)=0)then(gA b3 (gA b4 (k1 [dk d2 1,nI b0,nI b1,b2,bf (↑(ax (az b3)):Int),b3,bf (↑(ax (az b4)):Int),b4] [])))else(if 0<=ar a0/\ar a0<(↑(av (ar b0)):Int)then(if 0<=ar a0/\ar a0<(↑(av (ar b0)):Int)then(if ax (az b3)=ax (az (cm b3 (0+av (ar a0)) (bf (au ay (ar (bj b3 (0+av (ar a0)))+ar a1)))))then(gA b4 (k1 [bf 0,nI b0,nI b1,dk d2 0,bf (↑(ax (az b3)):Int),cm b3 (0+av (ar a0)) (bf (au ay (ar (bj b3 (0+av (ar a0)))+ar a1))),bf (↑(ax (az b4)):Int),b4] []))else none)else none)else none))))))))else none
def TI:=lid "" (@eA R N)
theorem xH {R N a0 a1 b0 b1 b2 b3 b4 k}:@TI R N a0 a1 b0 b1 b2 b3 b4 k=eA N a0 a1 b0 b1 b2 b3 b4 k:=by unfold TI;rw[BQ]
def q8t:OvG R:=DA q8s q8v (fun ds ms=>TI N (dk ds 0) (dk ds 1) (dk ds 2) (dk ds 3) (dk ds 4) (dk ds 5) (dk ds 6)) fun ds ms K d1 m1=>K (V.d (bm bb) (dk d1 0)) [(di (bz 1),
  dj
   (V.agg BF
    [V.sr (bz 1000000000074) [] 0 (av (ar (dk d1 1))) none 8 (bm ay),
     V.sr (bz 1000000000106) [] 0 (av (ar (dk d1 2))) none 8 (bm ay),
     V.d (bm ay) (dk d1 3)])),
 (di (bz 2),fh (bu (av (ar (dk d1 4))) (bm ay))),
 (bz 1000000000074,dj (V.d (bu (ax (az (dk d1 5))) (bm ay)) (dk d1 5))),
 (di (bz 3),fh (bu (av (ar (dk d1 6))) (bm ay))),
 (bz 1000000000106,dj (V.d (bu (ax (az (dk d1 7))) (bm ay)) (dk d1 7)))]
theorem q8u:okX 103 (@q8t R N):=DF (Ap (TL N) <| Ap (qO N) <| BS) N [] [(103,[([9],⟨[],[(6,.d (.int .i64))],[.g (.l 1),.g (.l 2),.g (.l 3)],[],[],[(.int .u64)]⟩)])] (fun _ _ _=>xH)
def q8G:List Sh:=[.as (.ptr (.g (.l 1)) [] BF),.d (.int .i64),.d (.int .i64),.d (.int .u64)]
def q8I:List (Key × OSh):=[(.l 1,.box (.agg BF [.vec (.g (.l 2)) 8 (.int .u64),.vec (.g (.l 3)) 8 (.int .u64),.d (.int .u64)])),(.l 2,.box (.arr (.int .u64))),(.l 3,.box (.arr (.int .u64)))]
def eF (a0 a1 a2 b0 b1 b2 b3 b4:C) (k1:KD R):Option R:=if ax (az b3)=ax (az b3)then(gA b4 (Jm N a0 (nI b0) (nI b1) b2 b3 b4 (fun d1 m1=>(bif !decide (ar (dk d1 0)=0)then(gA b3 (gA b4 (k1 [dk d1 0,nI b0,nI b1,b2,bf (↑(ax (az b3)):Int),b3,bf (↑(ax (az b4)):Int),b4] [])))else(gA b3 (gA b4 (Jm N a1 (nI b0) (nI b1) b2 b3 b4 (fun d2 m2=>(bif !decide (ar (dk d2 0)=0)then(gA b3 (gA b4 (k1 [dk d2 0,nI b0,nI b1,b2,bf (↑(ax (az b3)):Int),b3,bf (↑(ax (az b4)):Int),b4] [])))else(gA b3 (gA b4 (QS N a0 a2 (nI b0) (nI b1) b2 b3 b4 (fun d3 m3=>(bif !decide (ar (dk d3 0)=0)then(gA (dk d3 5) (gA (dk d3 7) (k1 [dk d3 0,nI (dk d3 1),nI (dk d3 2),dk d3 3,nI (dk d3 4),dk d3 5,nI (dk d3 6),dk d3 7] [])))else(gA (dk d3 5) (gA (dk d3 7) (TI N a1 a2 (nI (dk d3 1)) (nI (dk d3 2)) (dk d3 3) (dk d3 5) (dk d3 7) (fun d4 m4=>(gA (dk d4 5) (gA (dk d4 7) (k1 [dk d4 0,nI (dk d4 1),nI (dk d4 2),dk d4 3,nI (dk d3 4),dk d4 5,nI (dk d3 6),dk d4 7] [])))))))))))))))))))))else none
def QT:=lid "" (@eF R N)
theorem xN {R N a0 a1 a2 b0 b1 b2 b3 b4 k}:@QT R N a0 a1 a2 b0 b1 b2 b3 b4 k=eF N a0 a1 a2 b0 b1 b2 b3 b4 k:=by unfold QT;rw[BQ]
def q8H:OvG R:=DA q8G q8I (fun ds ms=>QT N (dk ds 0) (dk ds 1) (dk ds 2) (dk ds 3) (dk ds 4) (dk ds 5) (dk ds 6) (dk ds 7)) fun ds ms K d1 m1=>K (V.d (bm bb) (dk d1 0)) [(di (bz 1),
  dj
   (V.agg BF
    [V.sr (bz 1000000000074) [] 0 (av (ar (dk d1 1))) none 8 (bm ay),
     V.sr (bz 1000000000106) [] 0 (av (ar (dk d1 2))) none 8 (bm ay),
     V.d (bm ay) (dk d1 3)])),
 (di (bz 2),fh (bu (av (ar (dk d1 4))) (bm ay))),
 (bz 1000000000074,dj (V.d (bu (ax (az (dk d1 5))) (bm ay)) (dk d1 5))),
 (di (bz 3),fh (bu (av (ar (dk d1 6))) (bm ay))),
 (bz 1000000000106,dj (V.d (bu (ax (az (dk d1 7))) (bm ay)) (dk d1 7)))]
theorem xM:okX 86 (@q8H R N):=DF (Ap (TL N) <| Ap (xJ N) <| Ap (q8u N) <| BS) N [] [(86,[([9],⟨[],[(8,.d (.int .i64))],[.g (.l 1),.g (.l 2),.g (.l 3)],[],[],[(.int .u64)]⟩)])] (fun _ _ _=>xN)
def q8J:List Sh:=[.as (.ptr (.g (.l 1)) [] BF),.d (.int .i64),.d (.int .u64)]
def q8M:List (Key × OSh):=[(.l 1,.box (.agg BF [.vec (.g (.l 2)) 8 (.int .u64),.vec (.g (.l 3)) 8 (.int .u64),.d (.int .u64)])),(.l 2,.box (.arr (.int .u64))),(.l 3,.box (.arr (.int .u64)))]
def eG (a0 a1 b0 b1 b2 b3 b4:C) (k1:KD R):Option R:=if ax (az b3)=ax (az b3)then(gA b4 (Jm N a0 (nI b0) (nI b1) b2 b3 b4 (fun d1 m1=>(bif !decide (ar (dk d1 0)=0)then(gA b3 (gA b4 (k1 [dk d1 0,nI b0,nI b1,b2,bf (↑(ax (az b3)):Int),b3,bf (↑(ax (az b4)):Int),b4] [])))else(if 0<=ar a0/\ar a0<(↑(av (ar b1)):Int)then(bif !decide (ar a1=ar (bj b4 (0+av (ar a0))))then(gA b3 (gA b4 (k1 [bf 22,nI b0,nI b1,b2,bf (↑(ax (az b3)):Int),b3,bf (↑(ax (az b4)):Int),b4] [])))else(if 0<=ar a0/\ar a0<(↑(av (ar b1)):Int)then(if 0<=ar a0/\ar a0<(↑(av (ar b1)):Int)then(gA b3 (if ax (az b4)=ax (az (cm b4 (0+av (ar a0)) (bf (au ay (ar (bj b4 (0+av (ar a0)))+1)))))then(k1 [bf 0,nI b0,nI b1,b2,bf (↑(ax (az b3)):Int),b3,bf (↑(ax (az b4)):Int),cm b4 (0+av (ar a0)) (bf (au ay (ar (bj b4 (0+av (ar a0)))+1)))] [])else none))else none)else none))else none)))))else none
def TK:=lid "" (@eG R N)
theorem xO {R N a0 a1 b0 b1 b2 b3 b4 k}:@TK R N a0 a1 b0 b1 b2 b3 b4 k=eG N a0 a1 b0 b1 b2 b3 b4 k:=by unfold TK;rw[BQ]
def q8K:OvG R:=DA q8J q8M (fun ds ms=>TK N (dk ds 0) (dk ds 1) (dk ds 2) (dk ds 3) (dk ds 4) (dk ds 5) (dk ds 6)) fun ds ms K d1 m1=>K (V.d (bm bb) (dk d1 0)) [(di (bz 1),
  dj
   (V.agg BF
    [V.sr (bz 1000000000074) [] 0 (av (ar (dk d1 1))) none 8 (bm ay),
     V.sr (bz 1000000000106) [] 0 (av (ar (dk d1 2))) none 8 (bm ay),
     V.d (bm ay) (dk d1 3)])),
 (di (bz 2),fh (bu (av (ar (dk d1 4))) (bm ay))),
 (bz 1000000000074,dj (V.d (bu (ax (az (dk d1 5))) (bm ay)) (dk d1 5))),
 (di (bz 3),fh (bu (av (ar (dk d1 6))) (bm ay))),
 (bz 1000000000106,dj (V.d (bu (ax (az (dk d1 7))) (bm ay)) (dk d1 7)))]
theorem q8L:okX 85 (@q8K R N):=DF (Ap (TL N) <| BS) N [] [(85,[([9],⟨[],[(6,.d (.int .i64))],[.g (.l 1),.g (.l 2),.g (.l 3)],[],[],[(.int .u64)]⟩)])] (fun _ _ _=>xO)
def q8w:List Sh:=[.as (.ptr (.g (.l 1)) [] BF),.d (.int .i64)]
def q8z:List (Key × OSh):=[(.l 1,.box (.agg BF [.vec (.g (.l 2)) 8 (.int .u64),.vec (.g (.l 3)) 8 (.int .u64),.d (.int .u64)])),(.l 2,.box (.arr (.int .u64))),(.l 3,.box (.arr (.int .u64)))]
def eB (a0 b0 b1 b2 b3 b4:C) (k1:KD R):Option R:=if ax (az b3)=ax (az b3)then(gA b4 (Jm N a0 (nI b0) (nI b1) b2 b3 b4 (fun d1 m1=>(bif !decide (ar (dk d1 0)=0)then(k1 [bf 0] [])else(if 0<=ar a0/\ar a0<(↑(av (ar b0)):Int)then(k1 [bj b3 (0+av (ar a0))] [])else none)))))else none
def TJ:=lid "" (@eB R N)
theorem xI {R N a0 b0 b1 b2 b3 b4 k}:@TJ R N a0 b0 b1 b2 b3 b4 k=eB N a0 b0 b1 b2 b3 b4 k:=by unfold TJ;rw[BQ]
def q8x:OvG R:=DA q8w q8z (fun ds ms=>TJ N (dk ds 0) (dk ds 1) (dk ds 2) (dk ds 3) (dk ds 4) (dk ds 5)) fun ds ms K d1 m1=>K (V.d (bm ay) (dk d1 0)) []
theorem q8y:okX 84 (@q8x R N):=DF (Ap (TL N) <| BS) N [] [(84,[([9],⟨[],[(4,.d (.int .u64))],[],[],[.g (.l 1),.g (.l 2),.g (.l 3)],[(.int .u64)]⟩)])] (fun _ _ _=>xI)
def q8D:List Sh:=[.as (.ptr (.g (.l 1)) [] BF)]
def q8F:List (Key × OSh):=[(.l 1,.box (.agg BF [.vec (.g (.l 2)) 8 (.int .u64),.vec (.g (.l 3)) 8 (.int .u64),.d (.int .u64)])),(.l 2,.box (.arr (.int .u64))),(.l 3,.box (.arr (.int .u64)))]
def eE {R:Type} (N:Nat) (b0 b1 b2 b3 b4:C) (k1:KD R):Option R:=k1 [nI b0] []
def Nh:=lid "" (@eE R N)
theorem xL {R N b0 b1 b2 b3 b4 k}:@Nh R N b0 b1 b2 b3 b4 k=eE N b0 b1 b2 b3 b4 k:=by unfold Nh;rw[BQ]
def q8E:OvG R:=DA q8D q8F (fun ds ms=>Nh N (dk ds 0) (dk ds 1) (dk ds 2) (dk ds 3) (dk ds 4)) fun ds ms K d1 m1=>K (V.d (bm bb) (dk d1 0)) []
theorem eD:okX 42 (@q8E R N):=DF BS N [] [(42,[([9],⟨[],[(2,.d (.int .i64))],[],[],[.g (.l 1),.g (.l 2),.g (.l 3)],[(.int .u64)]⟩)])] (fun _ _ _=>xL)
section
variable {R:Type} {N:Nat}
theorem BD {m:Es} {l:List Es}:dm (m::l) 0=m:=rfl
theorem Gf (c v:C) (i:Nat):(cm c i v).elems.length=c.elems.length:=by cases c <;> simp[cm,az]
def inR (n:Nat) (a:C):Prop:=0<=a.toInt/\a.toInt<(n:Int)
instance (n:Nat) (a:C):Decidable (inR n a):=inferInstanceAs (Decidable (_/\_))
def inE (n:Nat) (a:C):Int:=if inR n a then 0 else 1
theorem IJ {n:Nat} {a:C} (h:inR n a):inE n a=0:=if_pos h
theorem PF {n:Nat} {a:C} (h:¬inR n a):inE n a=1:=if_neg h
section
variable (n:Nat) (a x b1 b2 b3 b4:C) (k:KD R)
theorem TM:Jm N a (.int n) b1 b2 b3 b4 k=k [.int (inE n a)] []:=by
 rw[xP];unfold eH inE inR;simp only[AW,AG,bc,AB];by_cases h1:a.toInt<0
 ·have:¬(0<=a.toInt/\a.toInt<(n:Int)):=by omega
  simp only[h1,AE,AF,AZ,this]
 by_cases h2:(n:Int)<=a.toInt
 ·have:¬(0<=a.toInt/\a.toInt<(n:Int)):=by omega
  simp only[h1,h2,AE,AF,AZ,this]
 ·have:0<=a.toInt/\a.toInt<(n:Int):=by omega
  simp only[h1,h2,AE,AF,AZ,this,and_self,AB]
theorem Je:Nh N (.int n) b1 b2 b3 b4 k=k [.int n] []:=by rw[xL];unfold eE;simp only[AG,bc,AB]
def PD:C:=if inR n a then b3.get a.toInt.toNat else .int 0
theorem has_eq:TJ N a (.int n) b1 b2 b3 b4 k=k [PD n a b3] []:=by rw[xI];unfold eB PD;simp only[AG,bc,TM,AF,eq_self,if_true,bh,AB];by_cases h:inR n a;{have h2:0<=a.toInt/\a.toInt<(n:Int):=h;simp only[IJ h,h,h2,and_self,AE,AB]};{simp only[PF h,h,show ¬(1:Int)=0 by decide,AE]}
def Ep:Int × C:=if inR n a then if x.toInt=(b4.get a.toInt.toNat).toInt then(0,b4.set a.toInt.toNat (.int (IntKind.u64.wrap ((b4.get a.toInt.toNat).toInt+1))))else(22,b4)else(1,b4)
theorem q4Q:TK N a x (.int n) (.int n) b2 b3 b4 k=k [.int (Ep n a x b4).1,.int n,.int n,b2,.int b3.elems.length,b3,.int b4.elems.length,(Ep n a x b4).2] []:=by rw[xO];unfold eG Ep;simp only[AG,bc,TM,AF,eq_self,if_true,bh,Gf,AB];by_cases h:inR n a;{have h2:0<=a.toInt/\a.toInt<(n:Int):=h;by_cases h3:x.toInt=(b4.get a.toInt.toNat).toInt;{simp only[IJ h,h,h2,h3,and_self,AE,AB]};{simp only[IJ h,h,h2,h3,and_self,AE,AB]}};{simp only[PF h,h,show ¬(1:Int)=0 by decide,AE]}
def DH:Int × C × C:=if inR n a then if(Dp (b3.get a.toInt.toNat).toInt x.toInt).2=0 then(0,.int (IntKind.u64.wrap (b2.toInt+x.toInt)),b3.set a.toInt.toNat (.int (Dp (b3.get a.toInt.toNat).toInt x.toInt).1))else((Dp (b3.get a.toInt.toNat).toInt x.toInt).2,b2,b3)else(1,b2,b3)
theorem ZE:QS N a x (.int n) (.int n) b2 b3 b4 k=k [.int (DH n a x b2 b3).1,.int n,.int n,(DH n a x b2 b3).2.1,.int b3.elems.length,(DH n a x b2 b3).2.2,.int b4.elems.length,b4] []:=by rw[xK];unfold eC DH;simp only[AG,bc,TM,sub_eq,AF,AJ,eq_self,if_true,bh,Gf,AB];by_cases h:inR n a;{have h2:0<=a.toInt/\a.toInt<(n:Int):=h;by_cases h3:(Dp (b3.get a.toInt.toNat).toInt x.toInt).2=0;{simp only[IJ h,h,h2,h3,and_self,AE,AB]};{simp only[IJ h,h,h2,h3,and_self,AE,AB]}};{simp only[PF h,h,show ¬(1:Int)=0 by decide,AE]}
def Ja:Int × C × C:=if inR n a then if(Dp b2.toInt x.toInt).2=0 then(0,.int (Dp b2.toInt x.toInt).1,b3.set a.toInt.toNat (.int (IntKind.u64.wrap ((b3.get a.toInt.toNat).toInt+x.toInt))))else((Dp b2.toInt x.toInt).2,b2,b3)else(1,b2,b3)
theorem q1x:TI N a x (.int n) (.int n) b2 b3 b4 k=k [.int (Ja n a x b2 b3).1,.int n,.int n,(Ja n a x b2 b3).2.1,.int b3.elems.length,(Ja n a x b2 b3).2.2,.int b4.elems.length,b4] []:=by rw[xH];unfold eA Ja;simp only[AG,bc,TM,sub_eq,AF,AJ,eq_self,if_true,bh,Gf,AB];by_cases h:inR n a;{have h2:0<=a.toInt/\a.toInt<(n:Int):=h;by_cases h3:(Dp b2.toInt x.toInt).2=0;{simp only[IJ h,h,h2,h3,and_self,AE,AB]};{simp only[IJ h,h,h2,h3,and_self,AE,AB]}};{simp only[PF h,h,show ¬(1:Int)=0 by decide,AE]}
def IM (y:C):Int × C × C:=if inR n a then if inR n y then if(DH n a x b2 b3).1=0 then Ja n y x (DH n a x b2 b3).2.1 (DH n a x b2 b3).2.2 else((DH n a x b2 b3).1,b2,b3)else(1,b2,b3)else(1,b2,b3)
theorem nT:(DH n a x b2 b3).2.2.elems.length=b3.elems.length:=by unfold DH;split;{split;{exact Gf _ _ _};{rfl}};{rfl}
theorem q1y:(Ja n a x b2 b3).2.2.elems.length=b3.elems.length:=by unfold Ja;split;{split;{exact Gf _ _ _};{rfl}};{rfl}
theorem sH:(Ep n a x b4).2.elems.length=b4.elems.length:=by unfold Ep;split;{split;{exact Gf _ _ _};{rfl}};{rfl}
theorem ZD (h:(DH n a x b2 b3).1≠0):(DH n a x b2 b3).2=(b2,b3):=by unfold DH at h ⊢;split;{split;{rename_i h1 h2;rw[if_pos h1,if_pos h2]at h;exact absurd rfl h};{rfl}};{rfl}
theorem q34 (y:C):QT N a y x (.int n) (.int n) b2 b3 b4 k=k [.int (IM n a x b2 b3 y).1,.int n,.int n,(IM n a x b2 b3 y).2.1,.int b3.elems.length,(IM n a x b2 b3 y).2.2,.int b4.elems.length,b4] []:=by rw[xN];unfold eF IM;simp only[AG,bc,TM,ZE,q1x,AF,AJ,AL,AP,AV,Ab,Af,Ak,eq_self,if_true,bh,AB];by_cases h:inR n a;{by_cases h2:inR n y;{by_cases h3:(DH n a x b2 b3).1=0;{simp only[IJ h,IJ h2,h,h2,h3,AE,AB]};{have:=ZD n a x b2 b3 h3;simp only[IJ h,IJ h2,h,h2,h3,this,AE,AB]}};{simp only[IJ h,PF h2,h,h2,show ¬(1:Int)=0 by decide,AE,AB]}};{simp only[PF h,h,show ¬(1:Int)=0 by decide,AE]}
theorem q35 (y:C):(IM n a x b2 b3 y).2.2.elems.length=b3.elems.length:=by unfold IM;split;{split;{split;{rw[q1y,nT]};{rfl}};{rfl}};{rfl}
end
end
def q4w:List Sh:=[.as (.ptr (.g (.l 1)) [] Bx),.d (.arr 32 (.int .u8))]
def q4z:List (Key × OSh):=[(.l 1,.box (.agg Bx [.as (.mp (.g (.l 2)))])),(.l 2,.map (.arr 32 (.int .u8)) AK)]
def aH {R:Type} (N:Nat) (a0 a1 b0:C) (m0:Es) (k1:KD R):Option R:=bif EF AK (dE AK m0)then(bif Ir (dE AK m0) a0 then(k1 [bj (LK (dE AK m0) a0) 1,df true] [])else(k1 [bf 0,df false] []))else none
def SB:=lid "" (@aH R N)
theorem rF {R N a0 a1 b0 m0 k}:@SB R N a0 a1 b0 m0 k=aH N a0 a1 b0 m0 k:=by unfold SB;rw[BQ]
def q4x:OvG R:=DA q4w q4z (fun ds ms=>SB N (dk ds 0) (dk ds 1) (dk ds 2) (dm ms 0)) fun ds ms K d1 m1=>K (V.tup [V.d (bm ay) (dk d1 0),V.d Ty.bool (df (dg (dk d1 1)))]) []
theorem q4y:okX 79 (@q4x R N):=DF BS N [(79,[(0,[(3,5)])])] [(79,[([9],⟨[],[(4,.d (.int .u64)),(5,.d .bool)],[],[],[.g (.l 1),.g (.l 2)],[]⟩)])] (fun _ _ _=>rF)
end Go.Proofs.YteealakhniofoaaGreatDoor
