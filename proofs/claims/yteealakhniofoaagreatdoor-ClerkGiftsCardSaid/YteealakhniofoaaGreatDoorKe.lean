/-
 What the functions on the way compute, part 5.
 Conditions: none.
-/
import Derived.Test.YteealakhniofoaaGreatDoorKd
set_option linter.all false
noncomputable section
set_option maxRecDepth 100000
set_option maxHeartbeats 4000000
open Bool renaming false_eq_true->fi
open Go.E.C renaming agg->dv,beq->um,bool->df,elems->az,get->bj,int->bf,nil->dh,set->cm,slice->cg,toBool->dg,toInt->ar
open Go.E.Key renaming g->di,l->bz
open Go.E.O renaming box->dj,dead->fh
open Go.E.Ty renaming arr->bu,int->bm
open Go.E.V renaming agg->jj,sr->ka
open Go.IntKind renaming i64->bb,u64->ay,u8->cq,wrap->au
open Go.Proofs.YteealakhniofoaaGreatDoor.CS renaming out->vx
open Int renaming lt_irrefl->fj,natCast_nonneg->cf,toNat->av,toNat_natCast->bc
open List renaming cons_append->mq,getD->br,getD_eq_getElem?_getD->bq,getElem?_eq_getElem->bp,length->ax,length_append->bt,length_cons->cn,length_map->fq,length_nil->cu,map_cons->dt,replicate->bw,take->ek,take_length->dx,take_succ_cons->ve
open List.cons renaming injEq->qf
open Nat renaming beq->dc,beq_refl->bo,zero_add->bh
namespace Go.Proofs.YteealakhniofoaaGreatDoor
open Go Go.E
variable {R:Type} (N:Nat)
def q52:List Sh:=[.as (.ptr (.g (.l 1)) [] Bo),.d (.arr 32 (.int .u8))]
def q55:List (Key × OSh):=[(.l 1,.box (.agg Bo [.d Bf,.ts 72 Bv]))]
def KX {R:Type} (N:Nat) (b0:C) (k1:KD R) (k2:KD R):KD R->KD R:=fun k3 d1 m1=>(bif decide (ar (dk d1 1)<(↑(ax (az b0)):Int))then(if 0<=ar (dk d1 1)/\ar (dk d1 1)<(↑(ax (az b0)):Int)then(bif um (bj (br (az b0) (av (ar (dk d1 1))) dh) 0) (dk d1 0)then(k1 [dk d1 1] [])else(k3 [dk d1 0,bf (au bb (ar (dk d1 1)+1))] []))else none)else(k2 [] []))
def WB (a0 a1 b0 b1:C) (k1:KD R):Option R:=jn (fun d1 m1=>(k1 [bf (-1)] [])) (fun k2=>(BO N (KX N b0 k1 k2) [a0,bf 0] []))
def Pu:=lid "" (@WB R N)
theorem bX {R N a0 a1 b0 b1 k}:@Pu R N a0 a1 b0 b1 k=WB N a0 a1 b0 b1 k:=by unfold Pu;rw[BQ]
def q53:OvG R:=DA q52 q55 (fun ds ms=>Pu N (dk ds 0) (dk ds 1) (dk ds 2) (dk ds 3)) fun ds ms K d1 m1=>K (V.d (bm bb) (dk d1 0)) []
theorem q54:okX 81 (@q53 R N):=DF BS N [(81,[(0,[(3,5)])])] [(81,[([1,0,1],⟨[0],[],[],[],[.g (.l 1)],[]⟩),
  ([4,1,0,1],⟨[0,3],[(5,.d (.int .i64))],[],[],[.g (.l 1)],[]⟩),
  ([9],⟨[],[(4,.d (.int .i64))],[],[],[.g (.l 1)],[]⟩)])] (fun _ _ _=>bX)
def q56:List Sh:=[.as (.ptr (.g (.l 1)) [] Bo),.d (.arr 32 (.int .u8)),.d (.int .u64)]
def q59:List (Key × OSh):=[(.l 1,.box (.agg Bo [.d Bf,.ts 72 Bv]))]
def SY (a0 a1 a2 b0 b1:C) (k1:KD R):Option R:=Ps N a2 a0 (fun d1 m1=>(Pu N (dk d1 0) a2 (cg (az b0)) dh (fun d2 m2=>(bif decide (0<=ar (dk d2 0))then(k1 [bf 7,a2,cg (az b0)] [])else(bif dc (ax (az b0)) (ax (az b0))then(if(ax (az b0)+1)*72<=140737488355328/\ax (az b0)+1<=9223372036854775807 then(bif dc (ax (az b0)+1) (ax (az b0++[cm (cm (cm (dv [dv (bw 32 (bf 0)),dv (bw 32 (bf 0)),bf 0]) 0 (dk d1 0)) 1 a0) 2 a1]))then(k1 [bf 0,a2,cg (az b0++[cm (cm (cm (dv [dv (bw 32 (bf 0)),dv (bw 32 (bf 0)),bf 0]) 0 (dk d1 0)) 1 a0) 2 a1])] [])else none)else none)else none)))))
def NX:=lid "" (@SY R N)
theorem WC {R N a0 a1 a2 b0 b1 k}:@NX R N a0 a1 a2 b0 b1 k=SY N a0 a1 a2 b0 b1 k:=by unfold NX;rw[BQ]
def q57:OvG R:=DA q56 q59 (fun ds ms=>NX N (dk ds 0) (dk ds 1) (dk ds 2) (dk ds 3) (dk ds 4)) fun ds ms K d1 m1=>K (V.d (bm bb) (dk d1 0)) [(di (bz 1),dj (jj Bo [V.d Bf (dk d1 1),V.ts 72 Bv (az (dk d1 2))]))]
theorem q58:okX 74 (@q57 R N):=DF (Ap (q54 N) <| Ap (q5C N) <| BS) N [(74,[(0,[(4,5)]),(1,[(13,7)]),(4,[(7,6)])])] [(74,[([9],⟨[],[(6,.d (.int .i64))],[.g (.l 1)],[(.g (.l 1),.box (.agg Bo [.d Bf,.ts 72 Bv]))],[],[]⟩)])] (fun _ _ _=>WC)
section
variable {R:Type} {N:Nat}
def SM:Es->C->C->Es
 | [],c,v=>[(c,v)]|(k,u)::l,c,v=>if um c k=true then(k,v)::l else(k,u)::SM l c v
theorem tJ (τ:Ty) (c v:C):∀m:Es,Ge (dE τ m) c (V.d τ v)=dE τ (SM m c v)
 | []=>rfl|(k,u)::m=>by have ih:=tJ τ c v m;simp only[dE,dt,Ge,SM]at ih ⊢;by_cases h:um c k=true;{simp[h]};{simp[h,ih]}
abbrev Ent:=C × C × Int
def EI (e:Ent):C:=.agg [e.1,e.2.1,.int e.2.2]
def EJ (e:Ent):C × C:=(e.1,.agg [e.2.1,.int e.2.2])
def Gc (x:C):List Ent->Option Nat
 | []=>none|e::l=>if um x e.1=true then some 0 else(Gc x l).map (·+1)
theorem q45 (x:C) (e:Ent) (l:List Ent):Gc x (e::l)=if um x e.1=true then some 0 else(Gc x l).map (·+1):=rfl
def zE:Ent:=(.nil,.nil,0)
theorem mW (x:C):∀l:List Ent,FY (l.map EJ) x=(Gc x l).isSome
 | []=>rfl|e::l=>by have ih:=mW x l;simp only[dt,EJ,FY,Gc]at ih ⊢;cases h:um x e.1 <;> simp[ih]
theorem tH (x:C) (s:C) (t:Int):∀l:List Ent,Gc x l=none->SM (l.map EJ) x (.agg [s,.int t])=(l++[(x,s,t)]).map EJ
 | [],_=>rfl|e::l,h=>by
  unfold Gc at h;split at h;{cases h}
  ·rename_i he;have hn:Gc x l=none:=by simpa using h
   simp only[dt,mq,EJ,SM,if_neg he];exact congrArg _ (tH x s t l hn)
theorem q1p {l:List Ent} {i:Nat} (h:i<l.length):(l.map EI).getD i .nil=EI (l.getD i zE):=by rw[bq,List.getElem?_map,bq,bp h];rfl
def YX (x:C) (l:List Ent):Int:=match Gc x l with|some i=>i|none=>-1
theorem v8 (a b:C):um a b=um b a:=by rw[gR,gR,decide_eq_decide];exact eq_comm
theorem lZ (x:C) (l:List Ent) (hl:l.length<4611686018427387904) (k1 k2:KD R):∀(m i M:Nat),i+m=l.length->m<M->
  BO M (KX N (.slice (l.map EI)) k1 k2) [x,.int i] []=(match Gc x (l.drop i)with|some j=>k1 [.int ((i+j:Nat):Int)] [] |none=>k2 [] [])
 |0,i,M,hi,hM=>by
  obtain⟨M,rfl⟩:∃a,M=a+1:=⟨M-1,by omega⟩;have e1:¬(i:Int)<(l.length:Int):=by omega
  rw[Dl,List.drop_of_length_le (by omega)];unfold KX;simp only[AF,AJ,AG,AQ,fq,e1,AE,AB];rfl
 |m+1,i,M,hi,hM=>by
  obtain⟨M,rfl⟩:∃a,M=a+1:=⟨M-1,by omega⟩;have e1:(i:Int)<(l.length:Int):=by omega
  have hil:i<l.length:=by omega
  have ih:=lZ x l hl k1 k2 m (i+1) M (by omega) (by omega);have hd:l.drop i=l.getD i zE::l.drop (i+1):=by rw[List.drop_eq_getElem_cons hil,bq,bp hil];rfl
  have hg:bj (EI (l.getD i zE)) 0=(l.getD i zE).1:=rfl;have one:∀rec:KD R,KX N (.slice (l.map EI)) k1 k2 rec [x,.int i] []=if um x (l.getD i zE).1=true then k1 [.int i] []else rec [x,.int ((i+1:Nat):Int)] []:=fun rec=>by unfold KX;simp only[AF,AJ,AG,AQ,fq,e1,AE,cf,and_self,bc,q1p hil,hg,CV (show i<4611686018427387904 by omega),AB];rw[v8];cases h:um x (l.getD i zE).1 <;> simp
  rw[Dl,one,hd,ih,q45];by_cases h:um x (l.getD i zE).1=true;{rw[if_pos h,if_pos h];rfl};{rw[if_neg h,if_neg h];cases hp:Gc x (l.drop (i+1))with|none=>rfl|some j=>simp only[Option.map_some];rw[show i+1+j=i+(j+1) by omega]}
theorem q1a (x:C) (l:List Ent) (hl:l.length<4611686018427387904) (hN:l.length<N) (a c:C) (k:KD R):Pu N x a (.slice (l.map EI)) c k=k [.int (YX x l)] []:=by
 rw[bX];unfold WB;simp only[AW,AB];refine(lZ x l hl _ _ l.length 0 N (by omega) hN).trans ?_;unfold YX;rw[List.drop_zero];cases Gc x l with
 |none=>rfl|some j=>simp only[bh,AF]
def Hm (s:C):C:=QO (FZ (.int 6) [cg (az s)])
theorem wR:DZ (.int 6):=⟨rfl,by decide,by decide⟩
theorem q23 (s:C) (hs:FL 32 s) (hN:5000<N) (hN2:N<4611686018427387904) (k:KD R):PT N s k=k [Hm s] []:=by obtain⟨hp,hc⟩:=sY 32 100 (by omega) s hs;have hl:=(hU hs).1;have hc:cut s.elems 0 32=s.elems:=hc;rw[Zk];unfold VH Hm;have:=zQ (R:=R) (N:=N) (.int 6) wR [cg (cut (az s) 0 32)] 100 hp (by simp;omega) (by omega) hN2 (by rw[hc,Zy];omega);rw[hc]at this ⊢;rw[this];rfl
theorem q22 (t:C) (ht:Fz t) (s:C) (hs:FL 32 s) (hN:5000<N) (k:KD R):Ps N t s k=k [Hm s] []:=by obtain⟨hp,hc⟩:=sY 32 100 (by omega) s hs;have hl:=(hU hs).1;have hc:cut s.elems 0 32=s.elems:=hc;rw[bO];unfold Vu Hm;have:=zP (R:=R) (N:=N) t ht (.int 6) wR [cg (cut (az s) 0 32)] 100 hp (by omega) (by simp) (by rw[hc,Zy];omega) (by rw[hc,Zy];simp;omega);rw[hc]at this ⊢;rw[this];rfl
def Jl (l:List Ent) (s:C) (t:Int):Int × List Ent:=match Gc (Hm s) l with|some _=>(7,l)|none=>(0,l++[(Hm s,s,t)])
theorem q8r (s:C) (hs:FL 32 s) (t a b:C) (ht:t= .int t.toInt) (l:List Ent) (hN:5000<N) (hN2:N<4611686018427387904) (k:KD R):
  NQ N s t a b (l.map EJ) k=k [.int (Jl l s t.toInt).1] [(Jl l s t.toInt).2.map EJ]:=by
 rw[VY];unfold SA;have e:dm [(l.map EJ)] 0=l.map EJ:=rfl;simp only[q23 s hs hN hN2,AF,e,BU,PE,tJ,Ag,Ah,mW];unfold Jl;cases hp:Gc (Hm s) l with
 |some i=>simp only[Option.isSome_some,AE,AB]|none=>
  have zj:cm (cm (dv [dv (bw 32 (bf 0)),bf 0]) 0 s) 1 t= .agg [s,.int t.toInt]:=by rw[<-ht];rfl
  simp only[Option.isSome_none,AE,zj,tH (Hm s) s t.toInt l hp,AB]
theorem q63 (s:C) (hs:FL 32 s) (t:C) (ht:t= .int t.toInt) (T:C) (hT:Fz T) (l:List Ent) (hl:l.length<=1000) (hN:5000<N) (b1:C) (k:KD R):
  NX N s t T (.slice (l.map EI)) b1 k=k [.int (Jl l s t.toInt).1,T,.slice ((Jl l s t.toInt).2.map EI)] []:=by
 rw[WC];unfold SY;have hf:=fun(a c:C) (k:KD R)=>q1a (N:=N) (Hm s) l (by omega) (by omega) a c k;simp only[q22 T hT s hs hN,AF,AQ,hf,AG,AB];unfold Jl YX;cases hp:Gc (Hm s) l with
 |some i=>
  have:(0:Int)<=(i:Int):=by omega
  simp only[this,AE]
 |none=>
  have h0:¬(0:Int)<=-1:=by decide
  have g1:(l.length+1)*72<=140737488355328/\l.length+1<=9223372036854775807:=by omega
  have zj:cm (cm (cm (dv [dv (bw 32 (bf 0)),dv (bw 32 (bf 0)),bf 0]) 0 (Hm s)) 1 s) 2 t=EI (Hm s,s,t.toInt):=by unfold EI;rw[<-ht];rfl
  simp only[h0,AE,fq,bt,cn,cu,bh,bo,g1,and_self,List.map_append,dt,List.map_nil,zj,AB]
theorem xF (l:List Ent) (s:C) (t:Int):(Jl l s t).2.length<=l.length+1:=by unfold Jl;cases Gc (Hm s) l <;> simp
end
section
variable {R:Type} {N:Nat}
def jN (j:Nat->C) (i:Nat):C:=.int ((j i).toInt.toNat:Nat)
def JF (h:Int) (t:C) (l:List Ent):List Ent:=if(t.get 0).toInt=1 then(Jl l (t.get 7) h).2 else l
structure fI (s:CS) (n:Nat) (t:C) (s':CS) (e:Int):Prop where
 act:Act s s' e
 pos:Pos s.has->Pos s'.has
 book:∀l:List Ent,s.book=l.map EJ->FL 32 (t.get 7)->s.yc= .int s.yc.toInt->s'.book=(JF s.yc.toInt t l).map EJ
theorem q0W {x y:Ent} (h:EJ x=EJ y):x=y:=by obtain⟨a,b,c⟩:=x;obtain⟨a',b',c'⟩:=y;simp only[EJ,Prod.mk.injEq,C.agg.injEq,qf,C.int.injEq,and_true]at h;obtain⟨rfl,rfl,rfl⟩:=h;rfl
theorem q3c {l m:List Ent} (h:l.map EJ=m.map EJ):l=m:=by
 induction l generalizing m with
 |nil=>cases m <;> first|rfl|cases h
 |cons x l ih=>
  cases m with
  |nil=>cases h
  |cons y m=>
   simp only[dt,qf]at h;rw[q0W h.1,ih h.2]
section
variable {s:CS} (hs:GQ s) {n:Nat} (hn:n<4611686018427387904) {t:C} (ht:TxG t) (hN:2199023255552<N) (hN2:N<4611686018427387904)
include hs hn ht hN hN2
theorem zZ:∃(e:Int) (s':CS) (j:Nat->C),fI s n t s' e/\∀k:KD R,Qq N t s.least s.yc (.int s.yd.length) (.int s.yb.length) (.int s.evs.length) (.int n) (.int n) s.kept s.has s.ye (.agg s.yd) (.agg s.yb) (.agg s.evs) .nil s.book k=
  k (s'.out n e j) [s'.book]:=by
 let J:=jL (.int s.has.elems.length) (.int s.ye.elems.length) (.int s.yd.length) (.int s.yb.length) (.int s.evs.length)
 have h0:¬(t.get 0).toInt=0:=by have:=ht.kind;omega
 by_cases h1:(t.get 0).toInt=1
 ·obtain⟨e,m',ht1,hbk⟩:∃(e:Int) (m':Es),(∀k:KD R,NQ N (t.get 7) s.yc .nil .nil s.book k=k [.int e] [m'])/\∀l:List Ent,s.book=l.map EJ->FL 32 (t.get 7)->s.yc= .int s.yc.toInt->m'=(JF s.yc.toInt t l).map EJ:=by by_cases g:∃l:List Ent,s.book=l.map EJ/\FL 32 (t.get 7)/\s.yc= .int s.yc.toInt;{obtain⟨l,g1,g2,g3⟩:=g;refine⟨_,_,fun k=>by rw[g1];exact q8r (t.get 7) g2 s.yc .nil .nil g3 l (by omega) hN2 k,fun l' h1' _ _=>?_⟩;have:l'=l:=q3c (h1'.symm.trans g1);subst this;unfold JF;rw[if_pos h1]};{obtain⟨e,m',ht1,hm⟩:=q8o (R:=R) (N:=N) (t.get 7) s.yc .nil .nil s.book (by omega) hN2;exact⟨e,m',ht1,fun l h1 h2 h3=>absurd ⟨l,h1,h2,h3⟩ g⟩}
  refine⟨e,{s with book:=m'},J,⟨⟨⟨hs.b,hs.n⟩,⟨rfl,rfl,rfl,rfl,rfl,rfl⟩,rfl⟩,id,hbk⟩,fun k=>?_⟩;rw[Xt];unfold Tv;simp only[AW,AG,AZ,BM,bc,Ac,eq_self,AE,Ag,Ah,and_self,bh,BD,AF,AJ,AL,AP,AV,Ab,Af,Ak,Ao,BC,Aq,Ar,Au,Av,Aw,Ax,Ay,Az,BA,BB,BG,BH,BI,BJ,BK,BL,h1,ht1,show ¬(1:Int)=0 by decide,AB];rfl
 by_cases h2:(t.get 0).toInt=2;{obtain⟨e,s',j,g1,g2,gx,g3⟩:=q4M (R:=R) (N:=N) hs hn ht;refine⟨e,s',jN j,⟨g1,gx.2,fun l hl _ _=>?_⟩,fun k=>?_⟩;{unfold JF;rw[if_neg h1,<-hl];exact gx.1};rw[Xt];unfold Tv;simp only[AW,AG,AZ,BM,bc,Ac,eq_self,AE,Ag,Ah,and_self,bh,BD,AF,AJ,AL,AP,AV,Ab,Af,Ak,Ao,BC,Aq,Ar,Au,Av,Aw,Ax,Ay,Az,BA,BB,BG,BH,BI,BJ,BK,BL,h2,g3,show ¬(2:Int)=0 by decide,show ¬(2:Int)=1 by decide,AB];simp only[vx,AG,bc,BD,AF,AJ,AL,AP,AV,Ab,Af,Ak,Ao,BC,Aq,Ar,Au,Av,Aw,Ax,Ay,Az,BA,BB,BG,BH,BI,BJ,BK,BL,AB];rfl};exact absurd ht.kind (by omega)
end
end
def YB (a0:C) (k1:KD R):Option R:=Pj N (bj a0 0) (fun d1 m1=>(bif dc (ax (az (bj (bj (bj (cm a0 0 (dk d1 0)) 1) (av 0)) 2))) (ax (az (bj (bj (bj (cm a0 0 (dk d1 0)) 1) (av 0)) 2)))then(bif dc (ax (az (bj (bj (bj (cm a0 0 (dk d1 0)) 1) 1) 2))) (ax (az (bj (bj (bj (cm a0 0 (dk d1 0)) 1) 1) 2)))then(k1 [dv [bj (cm a0 0 (dk d1 0)) 0,dv [dv [bj (bj (bj (cm a0 0 (dk d1 0)) 1) (av 0)) 0,bj (bj (bj (cm a0 0 (dk d1 0)) 1) (av 0)) 1,cg (az (bj (bj (bj (cm a0 0 (dk d1 0)) 1) (av 0)) 2))],dv [bj (bj (bj (cm a0 0 (dk d1 0)) 1) 1) 0,bj (bj (bj (cm a0 0 (dk d1 0)) 1) 1) 1,cg (az (bj (bj (bj (cm a0 0 (dk d1 0)) 1) 1) 2))]]]] [])else none)else none))
def Qw:=lid "" (@YB R N)
theorem jM {R N a0 k}:@Qw R N a0 k=YB N a0 k:=by unfold Qw;rw[BQ]
def J3:OvG R:=CA [ER] (GA (Qw N)) (DS ER)
theorem J4:okX 44 (@J3 R N):=Cg (Ap (sW N) <| Ap (c5 N) <| BS) N [] [(44,[([9],⟨[],[(2,.as (.ptr (.l 2) [] ER))],[],[(.l 2,.box (.d ER))],[],[]⟩)])] (fun _ _=>jM)
def X3:List Sh:=[.as (.ptr (.g (.l 1)) [] Ba),.d tTx]
def X5:List (Key × OSh):=[(.l 1,.box (.agg Ba [.as (.ptr (.g (.l 2)) [] BF),.as (.ptr (.g (.l 5)) [] Bx),.d (.int .u64),.d (.int .u64),.vec (.g (.l 7)) 240 AR,.vec (.g (.l 8)) 2368 tTx,.vec (.g (.l 9)) 40 AU])),(.l 2,.box (.agg BF [.vec (.g (.l 3)) 8 (.int .u64),.vec (.g (.l 4)) 8 (.int .u64),.d (.int .u64)])),(.l 3,.box (.arr (.int .u64))),(.l 4,.box (.arr (.int .u64))),(.l 5,.box (.agg Bx [.as (.mp (.g (.l 6)))])),(.l 6,.map (.arr 32 (.int .u8)) AK),(.l 7,.box (.arr AR)),(.l 8,.box (.arr tTx)),(.l 9,.box (.arr AU))]
def Xr (a0 b0 b1 b2 b3 b4 b5 b6 b7 b8 b9 b10 b11 b12 b13:C) (m0:Es) (k1:KD R):Option R:=bif decide (64<=(↑(av (ar b3)):Int))then(gA b8 (gA b9 (gM AK m0 (gA b10 (gA b11 (gA b12 (k1 [bf 4,b0,b1,nI b2,nI b3,nI b4,nI b5,nI b6,b7,bf (↑(ax (az b8)):Int),b8,bf (↑(ax (az b9)):Int),b9,bf (↑(ax (az b10)):Int),b10,bf (↑(ax (az b11)):Int),b11,bf (↑(ax (az b12)):Int),b12] [unE (dE AK m0)])))))))else(jn (fun d1 m1=>(bif dg (dk d1 0)then(gA (dk d1 10) (gA (dk d1 12) (gM AK (dm m1 0) (gA (dk d1 14) (gA (dk d1 16) (gA (dk d1 18) (k1 [bf 1,dk d1 1,dk d1 2,nI (dk d1 3),nI (dk d1 4),nI (dk d1 5),nI (dk d1 6),nI (dk d1 7),dk d1 8,nI (dk d1 9),dk d1 10,nI (dk d1 11),dk d1 12,nI (dk d1 13),dk d1 14,nI (dk d1 15),dk d1 16,nI (dk d1 17),dk d1 18] [unE (dE AK (dm m1 0))])))))))else(bif decide (ar (bj (dk d1 19) 3)<ar (dk d1 1))then(gA (dk d1 10) (gA (dk d1 12) (gM AK (dm m1 0) (gA (dk d1 14) (gA (dk d1 16) (gA (dk d1 18) (k1 [bf 23,dk d1 1,dk d1 2,nI (dk d1 3),nI (dk d1 4),nI (dk d1 5),nI (dk d1 6),nI (dk d1 7),dk d1 8,nI (dk d1 9),dk d1 10,nI (dk d1 11),dk d1 12,nI (dk d1 13),dk d1 14,nI (dk d1 15),dk d1 16,nI (dk d1 17),dk d1 18] [unE (dE AK (dm m1 0))])))))))else(Qw N (bj (dk d1 19) 10) (fun d2 m2=>(bif dc (ax (az (bj (dk d1 19) 9))) (ax (az (bj (dk d1 19) 9)))then(if(av (ar (dk d1 4))+1)*2368<=140737488355328/\av (ar (dk d1 4))+1<=9223372036854775807 then(gA (dk d1 10) (gA (dk d1 12) (gM AK (dm m1 0) (gA (dk d1 14) (if av (ar (dk d1 4))+1=ax (ek (av (ar (dk d1 4))) (az (dk d1 16))++[dv [bj (dk d1 19) 0,bj (dk d1 19) 1,bj (dk d1 19) 2,bj (dk d1 19) 3,bj (dk d1 19) 4,bj (dk d1 19) 5,bj (dk d1 19) 6,bj (dk d1 19) 7,bj (dk d1 19) 8,cg (az (bj (dk d1 19) 9)),dk d2 0]])then(gA (dk d1 18) (k1 [bf 0,dk d1 1,dk d1 2,nI (dk d1 3),bf (↑(av (ar (dk d1 4))+1):Int),nI (dk d1 5),nI (dk d1 6),nI (dk d1 7),dk d1 8,nI (dk d1 9),dk d1 10,nI (dk d1 11),dk d1 12,nI (dk d1 13),dk d1 14,nI (dk d1 15),dv (ek (av (ar (dk d1 4))) (az (dk d1 16))++[dv [bj (dk d1 19) 0,bj (dk d1 19) 1,bj (dk d1 19) 2,bj (dk d1 19) 3,bj (dk d1 19) 4,bj (dk d1 19) 5,bj (dk d1 19) 6,bj (dk d1 19) 7,bj (dk d1 19) 8,cg (az (bj (dk d1 19) 9)),dk d2 0]]),nI (dk d1 17),dk d1 18] [unE (dE AK (dm m1 0))]))else none)))))else none)else none)))))) (fun k2=>(bif decide (ar (bj a0 1)<0)then(gA b8 (gA b9 (gM AK m0 (gA b10 (gA b11 (gA b12 (k2 [df true,b0,b1,nI b2,nI b3,nI b4,nI b5,nI b6,b7,bf (↑(ax (az b8)):Int),b8,bf (↑(ax (az b9)):Int),b9,bf (↑(ax (az b10)):Int),b10,bf (↑(ax (az b11)):Int),b11,bf (↑(ax (az b12)):Int),b12,a0] [unE (dE AK m0)])))))))else(gA b8 (gA b9 (Nh N (nI b5) (nI b6) b7 b8 b9 (fun d1 m1=>(gA b8 (gA b9 (gM AK m0 (gA b10 (gA b11 (gA b12 (k2 [df (decide (au bb (ar (dk d1 0)-1)<=ar (bj a0 1))),b0,b1,nI b2,nI b3,nI b4,nI b5,nI b6,b7,bf (↑(ax (az b8)):Int),b8,bf (↑(ax (az b9)):Int),b9,bf (↑(ax (az b10)):Int),b10,bf (↑(ax (az b11)):Int),b11,bf (↑(ax (az b12)):Int),b12,a0] [unE (dE AK m0)]))))))))))))))
def Ju:=lid "" (@Xr R N)
theorem iY {R N a0 b0 b1 b2 b3 b4 b5 b6 b7 b8 b9 b10 b11 b12 b13 m0 k}:@Ju R N a0 b0 b1 b2 b3 b4 b5 b6 b7 b8 b9 b10 b11 b12 b13 m0 k=Xr N a0 b0 b1 b2 b3 b4 b5 b6 b7 b8 b9 b10 b11 b12 b13 m0 k:=by unfold Ju;rw[BQ]
def iX:OvG R:=DA X3 X5 (fun ds ms=>Ju N (dk ds 0) (dk ds 1) (dk ds 2) (dk ds 3) (dk ds 4) (dk ds 5) (dk ds 6) (dk ds 7) (dk ds 8) (dk ds 9) (dk ds 10) (dk ds 11) (dk ds 12) (dk ds 13) (dk ds 14) (dm ms 0)) fun ds ms K d1 m1=>K (V.d (bm bb) (dk d1 0)) [(di (bz 1),
  dj
   (jj Ba
    [V.ptr (di (bz 2)) [] BF,V.ptr (di (bz 5)) [] Bx,V.d (bm ay) (dk d1 1),
     V.d (bm ay) (dk d1 2),
     ka (bz 1000000000234) [] 0 (av (ar (dk d1 3))) none 240 AR,
     ka (bz 1000000000266) [] 0 (av (ar (dk d1 4))) none 2368 tTx,
     ka (bz 1000000000298) [] 0 (av (ar (dk d1 5))) none 40 AU])),
 (di (bz 2),
  dj
   (jj BF
    [ka (bz 1000000000106) [] 0 (av (ar (dk d1 6))) none 8 (bm ay),
     ka (bz 1000000000138) [] 0 (av (ar (dk d1 7))) none 8 (bm ay),
     V.d (bm ay) (dk d1 8)])),
 (di (bz 3),fh (bu (av (ar (dk d1 9))) (bm ay))),
 (bz 1000000000106,dj (V.d (bu (ax (az (dk d1 10))) (bm ay)) (dk d1 10))),
 (di (bz 4),fh (bu (av (ar (dk d1 11))) (bm ay))),
 (bz 1000000000138,dj (V.d (bu (ax (az (dk d1 12))) (bm ay)) (dk d1 12))),
 (di (bz 5),dj (jj Bx [V.mp (di (bz 6))])),
 (di (bz 6),O.map (bu 32 (bm cq)) AK (dE AK (dm m1 0))),
 (di (bz 7),fh (bu (av (ar (dk d1 13))) AR)),
 (bz 1000000000234,dj (V.d (bu (ax (az (dk d1 14))) AR) (dk d1 14))),
 (di (bz 8),fh (bu (av (ar (dk d1 15))) tTx)),
 (bz 1000000000266,dj (V.d (bu (ax (az (dk d1 16))) tTx) (dk d1 16))),
 (di (bz 9),fh (bu (av (ar (dk d1 17))) AU)),
 (bz 1000000000298,dj (V.d (bu (ax (az (dk d1 18))) AU) (dk d1 18)))]
theorem X4:okX 25 (@iX R N):=DF (Ap (eD N) <| Ap (Xh N) <| Ap (J4 N) <| BS) N [(25,[(9,[(43,7)]),(10,[(3,6)])])] [(25,[([0,3,1,3,1,4,0,1],⟨[0,3],[(15,.d .bool)],[.g (.l 1),.g (.l 2),.g (.l 3),.g (.l 4),.g (.l 5),.g (.l 6),.g (.l 7),.g (.l 8),.g (.l 9)],[],[],[(.int .u64),AR,tTx,AU]⟩),
  ([9],⟨[],[(4,.d (.int .i64))],[.g (.l 1),.g (.l 2),.g (.l 3),.g (.l 4),.g (.l 5),.g (.l 6),.g (.l 7),.g (.l 8),.g (.l 9)],[],[],[(.int .u64),AR,tTx,AU]⟩)])] (fun _ _ _=>iY)
section
variable {R:Type} {N:Nat}
def evR (s:CS) (t:C) (e:Int):C:=cm (cm (cm (cm (cm (dv [.int 0,.int 0,.int 0,.int 0,.int 0]) 0 s.yc) 1 (t.get 0)) 2 (t.get 1)) 3 (t.get 6)) 4 (.int e)
def CS.ev (s:CS) (t:C) (e:Int):CS:={s with evs:=s.evs++[evR s t e]}
def DoR (s:CS) (n:Nat) (t:C) (s1:CS) (e:Int):Prop:=((Gb s n t).1≠0/\e=(Gb s n t).1/\s1=(Gb s n t).2)\/((Gb s n t).1=0/\fI (Gb s n t).2 n t s1 e)
theorem DoR.FF {s s1:CS} {n:Nat} {t:C} {e:Int} (hs:GQ s) (h:DoR s n t s1 e):GQ s1/\Fr s s1:=by have hp:=tA hs n t;rcases h with⟨_,_,rfl⟩|⟨_,h⟩;{exact⟨hp.1,hp.2.1⟩};{exact⟨h.act.FF,hp.2.1.trans h.act.fr⟩}
section
variable {s:CS} (hs:GQ s) {n:Nat} (hn:n<4611686018427387904) {t:C} (ht:TxG t) (hN:2199023255552<N) (hN2:N<4611686018427387904)
include hs hn ht hN hN2
theorem q0c (he:s.evs.length<1024):∃(e:Int) (s1:CS) (j:Nat->C),DoR s n t s1 e/\∀k:KD R,Qr N t s.least s.yc (.int s.yd.length) (.int s.yb.length) (.int s.evs.length) (.int n) (.int n) s.kept s.has s.ye (.agg s.yd) (.agg s.yb) (.agg s.evs) .nil s.book k=
  k ((s1.ev t e).out n e j) [(s1.ev t e).book]:=by
 obtain⟨j,z8w⟩:=q40 (R:=R) (N:=N) s n t hn;obtain⟨pg,pf,_,_⟩:=tA hs n t;generalize hp:Gb s n t=p at*;have fin:∀(s1:CS),s1.evs=s.evs->((s1.evs.length+1)*40<=140737488355328/\s1.evs.length+1<=9223372036854775807)/\¬(0:Int)<IntKind.i64.wrap (((s1.evs.length+1:Nat):Int)-1024):=fun s1 h=>by rw[h,wrap_i64 (by omega) (by omega)];omega
 by_cases h0:p.1=0
 case neg=>
  obtain⟨f1,f2⟩:=fin p.2 pf.evs;refine⟨p.1,p.2,jN j,.inl (by rw[hp];exact⟨h0,rfl,rfl⟩),fun k=>?_⟩;rw[Xu];unfold Tw;simp only[AW,AG,AZ,BM,bc,Ac,eq_self,AE,Ag,Ah,and_self,bh,BD,dx,bt,cn,cu,AF,AJ,AL,AP,AV,Ab,Af,Ak,Ao,BC,Aq,Ar,Au,Av,Aw,Ax,Ay,Az,BA,BB,BG,BH,BI,BJ,BK,BL,z8w,AB];simp only[vx,AW,AG,AZ,BM,bc,Ac,eq_self,AE,Ag,Ah,and_self,bh,BD,dx,bt,cn,cu,AF,AJ,AL,AP,AV,Ab,Af,Ak,Ao,BC,Aq,Ar,Au,Av,Aw,Ax,Ay,Az,BA,BB,BG,BH,BI,BJ,BK,BL,h0,f1,f2,AB];simp only[CS.ev,evR,jN,bt,cn,cu,bh]
 obtain⟨e,s1,j1,ha,z9k⟩:=zZ (R:=R) (N:=N) pg hn ht hN hN2;obtain⟨f1,f2⟩:=fin s1 (ha.act.fr.evs.trans pf.evs);refine⟨e,s1,jN j,.inr (by rw[hp];exact⟨h0,ha⟩),fun k=>?_⟩;rw[Xu];unfold Tw;simp only[AW,AG,AZ,BM,bc,Ac,eq_self,AE,Ag,Ah,and_self,bh,BD,dx,bt,cn,cu,AF,AJ,AL,AP,AV,Ab,Af,Ak,Ao,BC,Aq,Ar,Au,Av,Aw,Ax,Ay,Az,BA,BB,BG,BH,BI,BJ,BK,BL,z8w,AB];simp only[vx,AW,AG,AZ,BM,bc,Ac,eq_self,AE,Ag,Ah,and_self,bh,BD,dx,bt,cn,cu,AF,AJ,AL,AP,AV,Ab,Af,Ak,Ao,BC,Aq,Ar,Au,Av,Aw,Ax,Ay,Az,BA,BB,BG,BH,BI,BJ,BK,BL,h0,z9k,AB];simp only[vx,AW,AG,AZ,BM,bc,Ac,eq_self,AE,Ag,Ah,and_self,bh,BD,dx,bt,cn,cu,AF,AJ,AL,AP,AV,Ab,Af,Ak,Ao,BC,Aq,Ar,Au,Av,Aw,Ax,Ay,Az,BA,BB,BG,BH,BI,BJ,BK,BL,f1,f2,AB];simp only[CS.ev,evR,jN,bt,cn,cu,bh]
end
theorem q8W {d:C} (hd:Nt d):∃d':C,Nt d'/\d'.get 0=d.get 0/\∀k:KD R,Qw N d k=k [d'] []:=by obtain⟨s,x,y,rfl,hs⟩:=hd;refine⟨.agg [s,.agg [.agg [x.get 0,x.get 1,.slice (x.get 2).elems],.agg [y.get 0,y.get 1,.slice (y.get 2).elems]]],⟨s,_,_,rfl,hs⟩,rfl,fun k=>?_⟩;have t0:av 0=0:=rfl;have t1:av 1=1:=rfl;rw[jM];unfold YB;simp only[JZ,Mn,Kg,t0,t1,sV hs.e.eta,AF,bo,cond_true]
def Wi (t d:C):C:=.agg [t.get 0,t.get 1,t.get 2,t.get 3,t.get 4,t.get 5,t.get 6,t.get 7,t.get 8,.slice (t.get 9).elems,d]
def TE (s:CS) (n:Nat) (t:C):Int:=if 64<=s.yb.length then 4 else if(t.get 1).toInt<0\/(n:Int)-1<=(t.get 1).toInt then 1 else if(t.get 3).toInt<s.least.toInt then 23 else 0
section
variable (s:CS) {n:Nat} (hn:n<4611686018427387904) {t:C} (ht:TxG t)
include hn ht
theorem q78:∃(d:C) (j:Nat->C),Nt d/\d.get 0=(t.get 10).get 0/\∀k:KD R,Ju N t s.least s.yc (.int s.yd.length) (.int s.yb.length) (.int s.evs.length) (.int n) (.int n) s.kept s.has s.ye (.agg s.yd) (.agg s.yb) (.agg s.evs) .nil s.book k=
  k ((if TE s n t=0 then{s with yb:=s.yb++[Wi t d]} else s).out n (TE s n t) j) [s.book]:=by
 let J:=jL (.int s.has.elems.length) (.int s.ye.elems.length) (.int s.yd.length) (.int s.yb.length) (.int s.evs.length)
 obtain⟨d,hd,hd0,htw⟩:=q8W (R:=R) (N:=N) ht.z9f;refine⟨d,J,hd,hd0,fun k=>?_⟩;rw[iY];unfold Xr TE;by_cases h1:64<=s.yb.length
 ·have h1':(64:Int)<=(s.yb.length:Int):=by omega
  simp only[AW,AG,AZ,BM,bc,Ac,eq_self,AE,Ag,Ah,and_self,bh,BD,dx,bt,cn,cu,AF,AJ,AL,AP,AV,Ab,Af,Ak,Ao,BC,Aq,Ar,Au,Av,Aw,Ax,Ay,Az,BA,BB,BG,BH,BI,BJ,BK,BL,h1,h1',show ¬(4:Int)=0 by decide,AB];rfl
 have h1':¬(64:Int)<=(s.yb.length:Int):=by omega
 by_cases h2:(t.get 1).toInt<0;{have h3:(t.get 1).toInt<0\/(n:Int)-1<=(t.get 1).toInt:=.inl h2;simp only[AW,AG,AZ,BM,bc,Ac,eq_self,AE,Ag,Ah,and_self,bh,BD,dx,bt,cn,cu,AF,AJ,AL,AP,AV,Ab,Af,Ak,Ao,BC,Aq,Ar,Au,Av,Aw,Ax,Ay,Az,BA,BB,BG,BH,BI,BJ,BK,BL,h1,h1',h2,h3,show ¬(1:Int)=0 by decide,AB];rfl};by_cases h3:(n:Int)-1<=(t.get 1).toInt;{have h4:(t.get 1).toInt<0\/(n:Int)-1<=(t.get 1).toInt:=.inr h3;simp only[AW,AG,AZ,BM,bc,Ac,eq_self,AE,Ag,Ah,and_self,bh,BD,dx,bt,cn,cu,AF,AJ,AL,AP,AV,Ab,Af,Ak,Ao,BC,Aq,Ar,Au,Av,Aw,Ax,Ay,Az,BA,BB,BG,BH,BI,BJ,BK,BL,Je,Hz hn,h1,h1',h2,h3,h4,show ¬(1:Int)=0 by decide,AB];rfl};have h4:¬((t.get 1).toInt<0\/(n:Int)-1<=(t.get 1).toInt):=by omega
 by_cases h5:(t.get 3).toInt<s.least.toInt;{simp only[AW,AG,AZ,BM,bc,Ac,eq_self,AE,Ag,Ah,and_self,bh,BD,dx,bt,cn,cu,AF,AJ,AL,AP,AV,Ab,Af,Ak,Ao,BC,Aq,Ar,Au,Av,Aw,Ax,Ay,Az,BA,BB,BG,BH,BI,BJ,BK,BL,Je,Hz hn,h1,h1',h2,h3,h4,h5,show ¬(23:Int)=0 by decide,AB];rfl};have hlen:(s.yb.length+1)*2368<=140737488355328/\s.yb.length+1<=9223372036854775807:=by omega
 simp only[AW,AG,AZ,BM,bc,Ac,eq_self,AE,Ag,Ah,and_self,bh,BD,dx,bt,cn,cu,AF,AJ,AL,AP,AV,Ab,Af,Ak,Ao,BC,Aq,Ar,Au,Av,Aw,Ax,Ay,Az,BA,BB,BG,BH,BI,BJ,BK,BL,Je,Hz hn,h1,h1',h2,h3,h4,h5,or_self,htw,hlen,bo,AB];simp only[vx,Wi,J,jL,bt,cn,cu,bh]
end
end
def dP (a0 a1:C) (k1:KD R):Option R:=TA N a0 a1 (fun d1 m1=>(k1 [df (decide (0<=ar (dk d1 0)))] []))
def QP:=lid "" (@dP R N)
theorem wT {R N a0 a1 k}:@QP R N a0 a1 k=dP N a0 a1 k:=by unfold QP;rw[BQ]
def q7G:OvG R:=CA [.slice 8 (.int .i64),.int .i64] (Ef (QP N)) Ml
theorem q7H:okX 46 (@q7G R N):=Cg (Ap (q7J N) <| BS) N [] [(46,[([9],(Ct [(4,.d .bool)]))])] (fun _ _=>wT)
def Y9:List Sh:=[.as (.ptr (.g (.l 1)) [] Ba),.d (.slice 8 (.int .i64))]
def X2:List (Key × OSh):=[(.l 1,.box (.agg Ba [.as (.ptr (.g (.l 2)) [] BF),.as (.ptr (.g (.l 5)) [] Bx),.d (.int .u64),.d (.int .u64),.vec (.g (.l 7)) 240 AR,.vec (.g (.l 8)) 2368 tTx,.vec (.g (.l 9)) 40 AU])),(.l 2,.box (.agg BF [.vec (.g (.l 3)) 8 (.int .u64),.vec (.g (.l 4)) 8 (.int .u64),.d (.int .u64)])),(.l 3,.box (.arr (.int .u64))),(.l 4,.box (.arr (.int .u64))),(.l 5,.box (.agg Bx [.as (.mp (.g (.l 6)))])),(.l 6,.map (.arr 32 (.int .u8)) AK),(.l 7,.box (.arr AR)),(.l 8,.box (.arr tTx)),(.l 9,.box (.arr AU))]
def Qn (a0:C) (b0:C) (b1:C) (b2:C) (b3:C) (b4:C) (b5:C) (b6:C) (b7:C) (b8:C) (b9:C) (b10:C) (b11:C) (b12:C) (b13:C) (m0:Es) (k2:KD R):KD R->KD R:=fun k3 d3 m3=>(bif decide (ar (dk d3 5)<ar (dk d3 2))then(if 0<=ar (dk d3 5)/\ar (dk d3 5)<(↑(av (ar (dk d3 1))):Int)then(QP N (dk d3 0) (dk d3 5) (fun d4 m4=>(jn (fun d5 m5=>(bif dc (ax (az (dk d5 4))) (ax (az (dk d5 4)))then(gA (dk d5 14) (gA (dk d5 15) (gM AK (dm m5 0) (gA (dk d5 16) (gA (dk d5 17) (gA (dk d5 18) (gA (dk d5 39) (k3 [dk d5 0,nI (dk d5 1),dk d5 2,cg (az (dk d5 4)),nI (dk d5 5),bf (au bb (ar (dk d5 3)+1)),dk d5 6,dk d5 7,nI (dk d5 8),nI (dk d5 9),nI (dk d5 10),nI (dk d5 11),nI (dk d5 12),dk d5 13,dk d5 14,dk d5 15,dk d5 16,dk d5 17,dk d5 18,nI (dk d5 19),nI (dk d5 20),nI (dk d5 21),nI (dk d5 22),nI (dk d5 23),nI (dk d5 19),nI (dk d5 20),nI (dk d5 21),nI (dk d5 22),nI (dk d5 23),nI (dk d5 19),nI (dk d5 20),nI (dk d5 21),nI (dk d5 22),nI (dk d5 23),dk d5 39] [unE (dE AK (dm m5 0))]))))))))else none)) (fun k4=>(bif !dg (dk d4 0)then(if(av (ar (dk d3 4))+1)*2368<=140737488355328/\av (ar (dk d3 4))+1<=9223372036854775807 then(bif dc (ax (az (dk d3 3))) (ax (az (dk d3 3)))then(gA (dk d3 14) (gA (dk d3 15) (gM AK (dm m3 0) (gA (dk d3 16) (gA (dk d3 17) (gA (dk d3 18) (if av (ar (dk d3 4))+1=ax (ek (av (ar (dk d3 4))) (az (dk d3 34))++[bj (dk d3 17) (0+av (ar (dk d3 5)))])then(k4 [dk d3 0,nI (dk d3 1),dk d3 2,dk d3 5,cg (az (dk d3 3)),bf (↑(av (ar (dk d3 4))+1):Int),dk d3 6,dk d3 7,nI (dk d3 8),nI (dk d3 9),nI (dk d3 10),nI (dk d3 11),nI (dk d3 12),dk d3 13,dk d3 14,dk d3 15,dk d3 16,dk d3 17,dk d3 18,nI (dk d3 19),nI (dk d3 20),nI (dk d3 21),nI (dk d3 22),nI (dk d3 23),nI (dk d3 19),nI (dk d3 20),nI (dk d3 21),nI (dk d3 22),nI (dk d3 23),nI (dk d3 19),nI (dk d3 20),nI (dk d3 21),nI (dk d3 22),nI (dk d3 23),nI (dk d3 19),nI (dk d3 20),nI (dk d3 21),nI (dk d3 22),nI (dk d3 23),dv (ek (av (ar (dk d3 4))) (az (dk d3 34))++[bj (dk d3 17) (0+av (ar (dk d3 5)))])] [unE (dE AK (dm m3 0))])else none)))))))else none)else none)else(bif dc (ax (az (dk d3 3))) (ax (az (dk d3 3)))then(gA (dk d3 14) (gA (dk d3 15) (gM AK (dm m3 0) (gA (dk d3 16) (gA (dk d3 17) (gA (dk d3 18) (gA (dk d3 34) (k4 [dk d3 0,nI (dk d3 1),dk d3 2,dk d3 5,cg (az (dk d3 3)),nI (dk d3 4),dk d3 6,dk d3 7,nI (dk d3 8),nI (dk d3 9),nI (dk d3 10),nI (dk d3 11),nI (dk d3 12),dk d3 13,dk d3 14,dk d3 15,dk d3 16,dk d3 17,dk d3 18,nI (dk d3 19),nI (dk d3 20),nI (dk d3 21),nI (dk d3 22),nI (dk d3 23),nI (dk d3 19),nI (dk d3 20),nI (dk d3 21),nI (dk d3 22),nI (dk d3 23),nI (dk d3 19),nI (dk d3 20),nI (dk d3 21),nI (dk d3 22),nI (dk d3 23),nI (dk d3 19),nI (dk d3 20),nI (dk d3 21),nI (dk d3 22),nI (dk d3 23),dk d3 34] [unE (dE AK (dm m3 0))]))))))))else none))))))else none)else(bif dc (ax (az (dk d3 3))) (ax (az (dk d3 3)))then(gA (dk d3 14) (gA (dk d3 15) (gM AK (dm m3 0) (gA (dk d3 16) (gA (dk d3 17) (gA (dk d3 18) (gA (dk d3 34) (k2 [cg (az (dk d3 3)),nI (dk d3 4),dk d3 6,dk d3 7,nI (dk d3 8),nI (dk d3 9),nI (dk d3 10),nI (dk d3 11),nI (dk d3 12),dk d3 13,dk d3 14,dk d3 15,dk d3 16,dk d3 17,dk d3 18,nI (dk d3 19),nI (dk d3 20),nI (dk d3 21),nI (dk d3 22),nI (dk d3 23),nI (dk d3 19),nI (dk d3 20),nI (dk d3 21),nI (dk d3 22),nI (dk d3 23),nI (dk d3 19),nI (dk d3 20),nI (dk d3 21),nI (dk d3 22),nI (dk d3 23),dk d3 34] [unE (dE AK (dm m3 0))]))))))))else none))
def MZ (a0:C) (b0:C) (b1:C) (b2:C) (b3:C) (b4:C) (b5:C) (b6:C) (b7:C) (b8:C) (b9:C) (b10:C) (b11:C) (b12:C) (b13:C) (m0:Es) (k2:KD R):KD R->KD R:=fun k3 d2 m2=>(bif decide (ar (dk d2 4)<ar (dk d2 2))then(if 0<=ar (dk d2 4)/\ar (dk d2 4)<(↑(ax (az (dk d2 1))):Int)then(if 0<=ar (br (az (dk d2 1)) (av (ar (dk d2 4))) dh)/\ar (br (az (dk d2 1)) (av (ar (dk d2 4))) dh)<(↑(av (ar (dk d2 8))):Int)then(gA (dk d2 13) (gA (dk d2 14) (gM AK (dm m2 0) (gA (dk d2 15) (gA (dk d2 16) (gA (dk d2 17) (Qr N (bj (dk d2 16) (0+av (ar (br (az (dk d2 1)) (av (ar (dk d2 4))) dh)))) (dk d2 5) (dk d2 6) (nI (dk d2 7)) (nI (dk d2 8)) (nI (dk d2 9)) (nI (dk d2 10)) (nI (dk d2 11)) (dk d2 12) (dk d2 13) (dk d2 14) (dk d2 15) (dk d2 16) (dk d2 17) dh (unE (dE AK (dm m2 0))) (fun d3 m3=>(bif dc (ax (az (dk d2 3))) (ax (az (dk d2 3)))then(if(ax (az (dk d2 3))+1)*8<=140737488355328/\ax (az (dk d2 3))+1<=9223372036854775807 then(bif dc (ax (az (dk d2 3))+1) (ax (az (dk d2 3)++[dk d3 0]))then(gA (dk d3 10) (gA (dk d3 12) (gM AK (dm m3 0) (gA (dk d3 14) (gA (dk d3 16) (gA (dk d3 18) (k3 [dk d2 0,dk d2 1,dk d2 2,cg (az (dk d2 3)++[dk d3 0]),bf (au bb (ar (dk d2 4)+1)),dk d3 1,dk d3 2,nI (dk d3 3),nI (dk d3 4),nI (dk d3 5),nI (dk d3 6),nI (dk d3 7),dk d3 8,dk d3 10,dk d3 12,dk d3 14,dk d3 16,dk d3 18,nI (dk d2 18),nI (dk d2 19),nI (dk d2 20),nI (dk d2 21),nI (dk d2 22),nI (dk d2 18),nI (dk d2 19),nI (dk d2 20),nI (dk d2 21),nI (dk d2 22)] [unE (dE AK (dm m3 0))])))))))else none)else none)else none)))))))))else none)else none)else(bif dc (ax (az (dk d2 3))) (ax (az (dk d2 3)))then(gA (dk d2 13) (gA (dk d2 14) (gM AK (dm m2 0) (gA (dk d2 15) (gA (dk d2 16) (gA (dk d2 17) (k2 [dk d2 0,cg (az (dk d2 3)),dk d2 5,dk d2 6,nI (dk d2 7),nI (dk d2 8),nI (dk d2 9),nI (dk d2 10),nI (dk d2 11),dk d2 12,dk d2 13,dk d2 14,dk d2 15,dk d2 16,dk d2 17,nI (dk d2 18),nI (dk d2 19),nI (dk d2 20),nI (dk d2 21),nI (dk d2 22),nI (dk d2 18),nI (dk d2 19),nI (dk d2 20),nI (dk d2 21),nI (dk d2 22)] [unE (dE AK (dm m2 0))])))))))else none))
def Qo (k1:KD R) (k2:KD R):KD R->KD R:=fun k3 d1 m1=>(bif decide (ar (dk d1 3)<ar (dk d1 2))then(if 0<=ar (dk d1 3)/\ar (dk d1 3)<(↑(ax (az (dk d1 1))):Int)then(jn (fun d2 m2=>(bif dg (dk d2 4)then(gA (dk d2 13) (gA (dk d2 14) (gM AK (dm m2 0) (gA (dk d2 15) (gA (dk d2 16) (gA (dk d2 17) (k1 [cg [],bf 1,dk d2 5,dk d2 6,nI (dk d2 7),nI (dk d2 8),nI (dk d2 9),nI (dk d2 10),nI (dk d2 11),dk d2 12,nI (dk d2 18),dk d2 13,nI (dk d2 19),dk d2 14,nI (dk d2 20),dk d2 15,nI (dk d2 21),dk d2 16,nI (dk d2 22),dk d2 17] [unE (dE AK (dm m2 0))])))))))else(gA (dk d2 13) (gA (dk d2 14) (gM AK (dm m2 0) (gA (dk d2 15) (gA (dk d2 16) (gA (dk d2 17) (k3 [dk d2 0,dk d2 1,dk d2 2,bf (au bb (ar (dk d2 3)+1)),dk d2 5,dk d2 6,nI (dk d2 7),nI (dk d2 8),nI (dk d2 9),nI (dk d2 10),nI (dk d2 11),dk d2 12,nI (dk d2 18),dk d2 13,nI (dk d2 19),dk d2 14,nI (dk d2 20),dk d2 15,nI (dk d2 21),dk d2 16,nI (dk d2 22),dk d2 17] [unE (dE AK (dm m2 0))]))))))))) (fun k4=>(bif decide (ar (br (az (dk d1 1)) (av (ar (dk d1 3))) dh)<0)then(gA (dk d1 13) (gA (dk d1 15) (gM AK (dm m1 0) (gA (dk d1 17) (gA (dk d1 19) (gA (dk d1 21) (k4 [dk d1 0,dk d1 1,dk d1 2,dk d1 3,df true,dk d1 4,dk d1 5,nI (dk d1 6),nI (dk d1 7),nI (dk d1 8),nI (dk d1 9),nI (dk d1 10),dk d1 11,dk d1 13,dk d1 15,dk d1 17,dk d1 19,dk d1 21,nI (dk d1 12),nI (dk d1 14),nI (dk d1 16),nI (dk d1 18),nI (dk d1 20),nI (dk d1 12),nI (dk d1 14),nI (dk d1 16),nI (dk d1 18),nI (dk d1 20)] [unE (dE AK (dm m1 0))])))))))else(bif decide ((↑(av (ar (dk d1 7))):Int)<=ar (br (az (dk d1 1)) (av (ar (dk d1 3))) dh))then(gA (dk d1 13) (gA (dk d1 15) (gM AK (dm m1 0) (gA (dk d1 17) (gA (dk d1 19) (gA (dk d1 21) (k4 [dk d1 0,dk d1 1,dk d1 2,dk d1 3,df true,dk d1 4,dk d1 5,nI (dk d1 6),nI (dk d1 7),nI (dk d1 8),nI (dk d1 9),nI (dk d1 10),dk d1 11,dk d1 13,dk d1 15,dk d1 17,dk d1 19,dk d1 21,nI (dk d1 12),nI (dk d1 14),nI (dk d1 16),nI (dk d1 18),nI (dk d1 20),nI (dk d1 12),nI (dk d1 14),nI (dk d1 16),nI (dk d1 18),nI (dk d1 20)] [unE (dE AK (dm m1 0))])))))))else(if Int.ofNat 0<=0/\0<=ar (dk d1 3)/\ar (dk d1 3)<=(↑(ax (az (dk d1 0))):Int)then(QP N (cg (cut (az (dk d1 0)) 0 (ar (dk d1 3)))) (br (az (dk d1 1)) (av (ar (dk d1 3))) dh) (fun d2 m2=>(gA (dk d1 13) (gA (dk d1 15) (gM AK (dm m1 0) (gA (dk d1 17) (gA (dk d1 19) (gA (dk d1 21) (k4 [dk d1 0,dk d1 1,dk d1 2,dk d1 3,df (dg (dk d2 0)),dk d1 4,dk d1 5,nI (dk d1 6),nI (dk d1 7),nI (dk d1 8),nI (dk d1 9),nI (dk d1 10),dk d1 11,dk d1 13,dk d1 15,dk d1 17,dk d1 19,dk d1 21,nI (dk d1 12),nI (dk d1 14),nI (dk d1 16),nI (dk d1 18),nI (dk d1 20),nI (dk d1 12),nI (dk d1 14),nI (dk d1 16),nI (dk d1 18),nI (dk d1 20)] [unE (dE AK (dm m1 0))])))))))))else none)))))else none)else(gA (dk d1 13) (gA (dk d1 15) (gM AK (dm m1 0) (gA (dk d1 17) (gA (dk d1 19) (gA (dk d1 21) (k2 [dk d1 0,dk d1 4,dk d1 5,nI (dk d1 6),nI (dk d1 7),nI (dk d1 8),nI (dk d1 9),nI (dk d1 10),dk d1 11,nI (dk d1 12),dk d1 13,nI (dk d1 14),dk d1 15,nI (dk d1 16),dk d1 17,nI (dk d1 18),dk d1 19,nI (dk d1 20),dk d1 21] [unE (dE AK (dm m1 0))]))))))))
def Qp (a0 b0 b1 b2 b3 b4 b5 b6 b7 b8 b9 b10 b11 b12 b13:C) (m0:Es) (k1:KD R):Option R:=bif decide (1073741824<=ar b1)then(gA b8 (gA b9 (gM AK m0 (gA b10 (gA b11 (gA b12 (k1 [cg [],bf 8,b0,b1,nI b2,nI b3,nI b4,nI b5,nI b6,b7,bf (↑(ax (az b8)):Int),b8,bf (↑(ax (az b9)):Int),b9,bf (↑(ax (az b10)):Int),b10,bf (↑(ax (az b11)):Int),b11,bf (↑(ax (az b12)):Int),b12] [unE (dE AK m0)])))))))else(jn (fun d1 m1=>(jn (fun d2 m2=>(jn (fun d3 m3=>(bif dc (ax (az (dk d3 0))) (ax (az (dk d3 0)))then(gA (dk d3 10) (gA (dk d3 11) (gM AK (dm m3 0) (gA (dk d3 12) (gA (dk d3 30) (gA (dk d3 14) (k1 [cg (az (dk d3 0)),bf 0,dk d3 2,dk d3 3,nI (dk d3 4),nI (dk d3 1),nI (dk d3 6),nI (dk d3 7),nI (dk d3 8),dk d3 9,nI (dk d3 15),dk d3 10,nI (dk d3 16),dk d3 11,nI (dk d3 17),dk d3 12,nI (dk d3 18),dk d3 30,nI (dk d3 19),dk d3 14] [unE (dE AK (dm m3 0))])))))))else none)) (fun k2=>(bif dc (ax (az (dk d2 1))) (ax (az (dk d2 1)))then(gA (dk d2 10) (gA (dk d2 11) (gM AK (dm m2 0) (gA (dk d2 12) (gA (dk d2 13) (gA (dk d2 14) (BO N (Qn N a0 b0 b1 b2 b3 b4 b5 b6 b7 b8 b9 b10 b11 b12 b13 m0 k2) [dk d2 0,nI (dk d2 5),nI (dk d2 5),cg (az (dk d2 1)),bf 0,bf 0,dk d2 2,dk d2 3,nI (dk d2 4),nI (dk d2 5),nI (dk d2 6),nI (dk d2 7),nI (dk d2 8),dk d2 9,dk d2 10,dk d2 11,dk d2 12,dk d2 13,dk d2 14,nI (dk d2 15),nI (dk d2 16),nI (dk d2 17),nI (dk d2 18),nI (dk d2 19),nI (dk d2 15),nI (dk d2 16),nI (dk d2 17),nI (dk d2 18),nI (dk d2 19),nI (dk d2 15),nI (dk d2 16),nI (dk d2 17),nI (dk d2 18),nI (dk d2 19),dv []] [unE (dE AK (dm m2 0))])))))))else none)))) (fun k2=>(gA (dk d1 10) (gA (dk d1 12) (gM AK (dm m1 0) (gA (dk d1 14) (gA (dk d1 16) (gA (dk d1 18) (BO N (MZ N a0 b0 b1 b2 b3 b4 b5 b6 b7 b8 b9 b10 b11 b12 b13 m0 k2) [dk d1 0,dk d1 0,bf (↑(ax (az (dk d1 0))):Int),cg [],bf 0,dk d1 1,bf (au ay (ar (dk d1 2)+1)),nI (dk d1 3),nI (dk d1 4),nI (dk d1 5),nI (dk d1 6),nI (dk d1 7),dk d1 8,dk d1 10,dk d1 12,dk d1 14,dk d1 16,dk d1 18,nI (dk d1 9),nI (dk d1 11),nI (dk d1 13),nI (dk d1 15),nI (dk d1 17),nI (dk d1 9),nI (dk d1 11),nI (dk d1 13),nI (dk d1 15),nI (dk d1 17)] [unE (dE AK (dm m1 0))])))))))))) (fun k2=>(gA b8 (gA b9 (gM AK m0 (gA b10 (gA b11 (gA b12 (BO N (Qo N k1 k2) [a0,a0,bf (↑(ax (az a0)):Int),bf 0,b0,b1,nI b2,nI b3,nI b4,nI b5,nI b6,b7,bf (↑(ax (az b8)):Int),b8,bf (↑(ax (az b9)):Int),b9,bf (↑(ax (az b10)):Int),b10,bf (↑(ax (az b11)):Int),b11,bf (↑(ax (az b12)):Int),b12] [unE (dE AK m0)])))))))))
def OQ:=lid "" (@Qp R N)
theorem Tu {R N a0 b0 b1 b2 b3 b4 b5 b6 b7 b8 b9 b10 b11 b12 b13 m0 k}:@OQ R N a0 b0 b1 b2 b3 b4 b5 b6 b7 b8 b9 b10 b11 b12 b13 m0 k=Qp N a0 b0 b1 b2 b3 b4 b5 b6 b7 b8 b9 b10 b11 b12 b13 m0 k:=by unfold OQ;rw[BQ]
def iW:OvG R:=DA Y9 X2 (fun ds ms=>OQ N (dk ds 0) (dk ds 1) (dk ds 2) (dk ds 3) (dk ds 4) (dk ds 5) (dk ds 6) (dk ds 7) (dk ds 8) (dk ds 9) (dk ds 10) (dk ds 11) (dk ds 12) (dk ds 13) (dk ds 14) (dm ms 0)) fun ds ms K d1 m1=>K (V.tup [V.ts 8 (bm bb) (az (dk d1 0)),V.d (bm bb) (dk d1 1)]) [(di (bz 1),
  dj
   (jj Ba
    [V.ptr (di (bz 2)) [] BF,V.ptr (di (bz 5)) [] Bx,V.d (bm ay) (dk d1 2),
     V.d (bm ay) (dk d1 3),
     ka (bz 1000000000234) [] 0 (av (ar (dk d1 4))) none 240 AR,
     ka (bz 1000000000266) [] 0 (av (ar (dk d1 5))) none 2368 tTx,
     ka (bz 1000000000298) [] 0 (av (ar (dk d1 6))) none 40 AU])),
 (di (bz 2),
  dj
   (jj BF
    [ka (bz 1000000000106) [] 0 (av (ar (dk d1 7))) none 8 (bm ay),
     ka (bz 1000000000138) [] 0 (av (ar (dk d1 8))) none 8 (bm ay),
     V.d (bm ay) (dk d1 9)])),
 (di (bz 3),fh (bu (av (ar (dk d1 10))) (bm ay))),
 (bz 1000000000106,dj (V.d (bu (ax (az (dk d1 11))) (bm ay)) (dk d1 11))),
 (di (bz 4),fh (bu (av (ar (dk d1 12))) (bm ay))),
 (bz 1000000000138,dj (V.d (bu (ax (az (dk d1 13))) (bm ay)) (dk d1 13))),
 (di (bz 5),dj (jj Bx [V.mp (di (bz 6))])),
 (di (bz 6),O.map (bu 32 (bm cq)) AK (dE AK (dm m1 0))),
 (di (bz 7),fh (bu (av (ar (dk d1 14))) AR)),
 (bz 1000000000234,dj (V.d (bu (ax (az (dk d1 15))) AR) (dk d1 15))),
 (di (bz 8),fh (bu (av (ar (dk d1 16))) tTx)),
 (bz 1000000000266,dj (V.d (bu (ax (az (dk d1 17))) tTx) (dk d1 17))),
 (di (bz 9),fh (bu (av (ar (dk d1 18))) AU)),
 (bz 1000000000298,dj (V.d (bu (ax (az (dk d1 19))) AU) (dk d1 19)))]
theorem X1:okX 27 (@iW R N):=DF (Ap (q7H N) <| Ap (W5 N) <| BS) N [(27,[(8,[(46,8)])])] [(27,[([1,0,1,1],⟨[0,1],[],[.g (.l 1),.g (.l 2),.g (.l 3),.g (.l 4),.g (.l 5),.g (.l 6),.g (.l 7),.g (.l 8),.g (.l 9)],[],[],[(.int .u64),AR,tTx,AU]⟩),
  ([4,1,0,1,1],⟨[0,1,23,24],[(25,.d (.int .i64))],[.g (.l 1),.g (.l 2),.g (.l 3),.g (.l 4),.g (.l 5),.g (.l 6),.g (.l 7),.g (.l 8),.g (.l 9)],[],[],[(.int .u64),AR,tTx,AU]⟩),
  ([0,1,4,0,1,1,5,4,1,0,1,1],⟨[0,1,23,24,25],[(47,.d .bool)],[.g (.l 1),.g (.l 2),.g (.l 3),.g (.l 4),.g (.l 5),.g (.l 6),.g (.l 7),.g (.l 8),.g (.l 9)],[],[],[(.int .u64),AR,tTx,AU]⟩),
  ([1,0,1,1,1,1,1],⟨[0,1],[(8,.sl 8 (.int .i64) 5008)],[.g (.l 1),.g (.l 2),.g (.l 3),.g (.l 4),.g (.l 5),.g (.l 6),.g (.l 7),.g (.l 8),.g (.l 9)],[],[],[(.int .u64),AR,tTx,AU]⟩),
  ([4,1,0,1,1,1,1,1],⟨[0,1,56,57],[(8,.sl 8 (.int .i64) 5008),(58,.d (.int .i64))],[.g (.l 1),.g (.l 2),.g (.l 3),.g (.l 4),.g (.l 5),.g (.l 6),.g (.l 7),.g (.l 8),.g (.l 9)],[],[],[(.int .u64),AR,tTx,AU]⟩),
  ([1,0,1,1,1,1,1,1,1],⟨[0],[(8,.sl 8 (.int .i64) 5008),(11,.vec (.l 1000000000091) 2368 tTx)],[.g (.l 1),.g (.l 2),.g (.l 3),.g (.l 4),.g (.l 5),.g (.l 6),.g (.l 7),.g (.l 8),.g (.l 9)],[],[],[(.int .u64),AR,tTx,AU]⟩),
  ([4,1,0,1,1,1,1,1,1,1],⟨[0,1,78,79],[(8,.sl 8 (.int .i64) 5008),(11,.vec (.l 1000000000091) 2368 tTx),(80,.d (.int .i64))],[.g (.l 1),.g (.l 2),.g (.l 3),.g (.l 4),.g (.l 5),.g (.l 6),.g (.l 7),.g (.l 8),.g (.l 9)],[],[],[(.int .u64),AR,tTx,AU]⟩),
  ([1,1,4,0,1,1,5,4,1,0,1,1,1,1,1,1,1],⟨[0,1,78,79,80],[(8,.sl 8 (.int .i64) 5008),(11,.vec (.l 1000000000091) 2368 tTx)],[.g (.l 1),.g (.l 2),.g (.l 3),.g (.l 4),.g (.l 5),.g (.l 6),.g (.l 7),.g (.l 8),.g (.l 9)],[],[],[(.int .u64),AR,tTx,AU]⟩),
  ([9],⟨[],[(4,.sl 8 (.int .i64) 5004),(5,.d (.int .i64))],[.g (.l 1),.g (.l 2),.g (.l 3),.g (.l 4),.g (.l 5),.g (.l 6),.g (.l 7),.g (.l 8),.g (.l 9)],[],[],[(.int .u64),AR,tTx,AU]⟩)])] (fun _ _ _=>Tu) fun ds ms K=>(show _=jn (fun d1 m1=>(bif dc (ax (az (dk d1 0))) (ax (az (dk d1 0)))then
  (K (V.tup [V.ts 8 (bm bb) (az (dk d1 0)),V.d (bm bb) (dk d1 1)]) [(di (bz 1),
  dj
   (jj Ba
    [V.ptr (di (bz 2)) [] BF,V.ptr (di (bz 5)) [] Bx,V.d (bm ay) (dk d1 2),
     V.d (bm ay) (dk d1 3),
     ka (bz 1000000000234) [] 0 (av (ar (dk d1 4))) none 240 AR,
     ka (bz 1000000000266) [] 0 (av (ar (dk d1 5))) none 2368 tTx,
     ka (bz 1000000000298) [] 0 (av (ar (dk d1 6))) none 40 AU])),
 (di (bz 2),
  dj
   (jj BF
    [ka (bz 1000000000106) [] 0 (av (ar (dk d1 7))) none 8 (bm ay),
     ka (bz 1000000000138) [] 0 (av (ar (dk d1 8))) none 8 (bm ay),
     V.d (bm ay) (dk d1 9)])),
 (di (bz 3),fh (bu (av (ar (dk d1 10))) (bm ay))),
 (bz 1000000000106,dj (V.d (bu (ax (az (dk d1 11))) (bm ay)) (dk d1 11))),
 (di (bz 4),fh (bu (av (ar (dk d1 12))) (bm ay))),
 (bz 1000000000138,dj (V.d (bu (ax (az (dk d1 13))) (bm ay)) (dk d1 13))),
 (di (bz 5),dj (jj Bx [V.mp (di (bz 6))])),
 (di (bz 6),O.map (bu 32 (bm cq)) AK (dE AK (dm m1 0))),
 (di (bz 7),fh (bu (av (ar (dk d1 14))) AR)),
 (bz 1000000000234,dj (V.d (bu (ax (az (dk d1 15))) AR) (dk d1 15))),
 (di (bz 8),fh (bu (av (ar (dk d1 16))) tTx)),
 (bz 1000000000266,dj (V.d (bu (ax (az (dk d1 17))) tTx) (dk d1 17))),
 (di (bz 9),fh (bu (av (ar (dk d1 18))) AU)),
 (bz 1000000000298,dj (V.d (bu (ax (az (dk d1 19))) AU) (dk d1 19)))])
 else
  none)) _ by kernel_rfl).trans (congrArg (fun k=>jn k _) (funext fun _=>funext fun _=>by simp only[bo,cond_true]))
section
variable {R:Type} {N:Nat}
theorem CB (a0 a1 a2 a3 a4 a5 a6 a7 a8 a9 a10 a11 a12 a13 a14 a15 a16 a17 a18 a19 a20 a21 a22 a23 a24 a25 a26:C) (l:List C):dk (a0::a1::a2::a3::a4::a5::a6::a7::a8::a9::a10::a11::a12::a13::a14::a15::a16::a17::a18::a19::a20::a21::a22::a23::a24::a25::a26::l) 26=a26:=rfl
theorem CC (a0 a1 a2 a3 a4 a5 a6 a7 a8 a9 a10 a11 a12 a13 a14 a15 a16 a17 a18 a19 a20 a21 a22 a23 a24 a25 a26 a27:C) (l:List C):dk (a0::a1::a2::a3::a4::a5::a6::a7::a8::a9::a10::a11::a12::a13::a14::a15::a16::a17::a18::a19::a20::a21::a22::a23::a24::a25::a26::a27::l) 27=a27:=rfl
theorem CD (a0 a1 a2 a3 a4 a5 a6 a7 a8 a9 a10 a11 a12 a13 a14 a15 a16 a17 a18 a19 a20 a21 a22 a23 a24 a25 a26 a27 a28:C) (l:List C):dk (a0::a1::a2::a3::a4::a5::a6::a7::a8::a9::a10::a11::a12::a13::a14::a15::a16::a17::a18::a19::a20::a21::a22::a23::a24::a25::a26::a27::a28::l) 28=a28:=rfl
theorem CE (a0 a1 a2 a3 a4 a5 a6 a7 a8 a9 a10 a11 a12 a13 a14 a15 a16 a17 a18 a19 a20 a21 a22 a23 a24 a25 a26 a27 a28 a29:C) (l:List C):dk (a0::a1::a2::a3::a4::a5::a6::a7::a8::a9::a10::a11::a12::a13::a14::a15::a16::a17::a18::a19::a20::a21::a22::a23::a24::a25::a26::a27::a28::a29::l) 29=a29:=rfl
theorem CF (a0 a1 a2 a3 a4 a5 a6 a7 a8 a9 a10 a11 a12 a13 a14 a15 a16 a17 a18 a19 a20 a21 a22 a23 a24 a25 a26 a27 a28 a29 a30:C) (l:List C):dk (a0::a1::a2::a3::a4::a5::a6::a7::a8::a9::a10::a11::a12::a13::a14::a15::a16::a17::a18::a19::a20::a21::a22::a23::a24::a25::a26::a27::a28::a29::a30::l) 30=a30:=rfl
theorem CG (a0 a1 a2 a3 a4 a5 a6 a7 a8 a9 a10 a11 a12 a13 a14 a15 a16 a17 a18 a19 a20 a21 a22 a23 a24 a25 a26 a27 a28 a29 a30 a31:C) (l:List C):dk (a0::a1::a2::a3::a4::a5::a6::a7::a8::a9::a10::a11::a12::a13::a14::a15::a16::a17::a18::a19::a20::a21::a22::a23::a24::a25::a26::a27::a28::a29::a30::a31::l) 31=a31:=rfl
theorem CH (a0 a1 a2 a3 a4 a5 a6 a7 a8 a9 a10 a11 a12 a13 a14 a15 a16 a17 a18 a19 a20 a21 a22 a23 a24 a25 a26 a27 a28 a29 a30 a31 a32:C) (l:List C):dk (a0::a1::a2::a3::a4::a5::a6::a7::a8::a9::a10::a11::a12::a13::a14::a15::a16::a17::a18::a19::a20::a21::a22::a23::a24::a25::a26::a27::a28::a29::a30::a31::a32::l) 32=a32:=rfl
theorem CI (a0 a1 a2 a3 a4 a5 a6 a7 a8 a9 a10 a11 a12 a13 a14 a15 a16 a17 a18 a19 a20 a21 a22 a23 a24 a25 a26 a27 a28 a29 a30 a31 a32 a33:C) (l:List C):dk (a0::a1::a2::a3::a4::a5::a6::a7::a8::a9::a10::a11::a12::a13::a14::a15::a16::a17::a18::a19::a20::a21::a22::a23::a24::a25::a26::a27::a28::a29::a30::a31::a32::a33::l) 33=a33:=rfl
theorem CJ (a0 a1 a2 a3 a4 a5 a6 a7 a8 a9 a10 a11 a12 a13 a14 a15 a16 a17 a18 a19 a20 a21 a22 a23 a24 a25 a26 a27 a28 a29 a30 a31 a32 a33 a34:C) (l:List C):dk (a0::a1::a2::a3::a4::a5::a6::a7::a8::a9::a10::a11::a12::a13::a14::a15::a16::a17::a18::a19::a20::a21::a22::a23::a24::a25::a26::a27::a28::a29::a30::a31::a32::a33::a34::l) 34=a34:=rfl
theorem CK (a0 a1 a2 a3 a4 a5 a6 a7 a8 a9 a10 a11 a12 a13 a14 a15 a16 a17 a18 a19 a20 a21 a22 a23 a24 a25 a26 a27 a28 a29 a30 a31 a32 a33 a34 a35:C) (l:List C):dk (a0::a1::a2::a3::a4::a5::a6::a7::a8::a9::a10::a11::a12::a13::a14::a15::a16::a17::a18::a19::a20::a21::a22::a23::a24::a25::a26::a27::a28::a29::a30::a31::a32::a33::a34::a35::l) 35=a35:=rfl
theorem CL (a0 a1 a2 a3 a4 a5 a6 a7 a8 a9 a10 a11 a12 a13 a14 a15 a16 a17 a18 a19 a20 a21 a22 a23 a24 a25 a26 a27 a28 a29 a30 a31 a32 a33 a34 a35 a36:C) (l:List C):dk (a0::a1::a2::a3::a4::a5::a6::a7::a8::a9::a10::a11::a12::a13::a14::a15::a16::a17::a18::a19::a20::a21::a22::a23::a24::a25::a26::a27::a28::a29::a30::a31::a32::a33::a34::a35::a36::l) 36=a36:=rfl
theorem CM (a0 a1 a2 a3 a4 a5 a6 a7 a8 a9 a10 a11 a12 a13 a14 a15 a16 a17 a18 a19 a20 a21 a22 a23 a24 a25 a26 a27 a28 a29 a30 a31 a32 a33 a34 a35 a36 a37:C) (l:List C):dk (a0::a1::a2::a3::a4::a5::a6::a7::a8::a9::a10::a11::a12::a13::a14::a15::a16::a17::a18::a19::a20::a21::a22::a23::a24::a25::a26::a27::a28::a29::a30::a31::a32::a33::a34::a35::a36::a37::l) 37=a37:=rfl
theorem CN (a0 a1 a2 a3 a4 a5 a6 a7 a8 a9 a10 a11 a12 a13 a14 a15 a16 a17 a18 a19 a20 a21 a22 a23 a24 a25 a26 a27 a28 a29 a30 a31 a32 a33 a34 a35 a36 a37 a38:C) (l:List C):dk (a0::a1::a2::a3::a4::a5::a6::a7::a8::a9::a10::a11::a12::a13::a14::a15::a16::a17::a18::a19::a20::a21::a22::a23::a24::a25::a26::a27::a28::a29::a30::a31::a32::a33::a34::a35::a36::a37::a38::l) 38=a38:=rfl
theorem DP (a0 a1 a2 a3 a4 a5 a6 a7 a8 a9 a10 a11 a12 a13 a14 a15 a16 a17 a18 a19 a20 a21 a22 a23 a24 a25 a26 a27 a28 a29 a30 a31 a32 a33 a34 a35 a36 a37 a38 a39:C) (l:List C):dk (a0::a1::a2::a3::a4::a5::a6::a7::a8::a9::a10::a11::a12::a13::a14::a15::a16::a17::a18::a19::a20::a21::a22::a23::a24::a25::a26::a27::a28::a29::a30::a31::a32::a33::a34::a35::a36::a37::a38::a39::l) 39=a39:=rfl
theorem LW {F:KD R->KD R->List C->List Es->Option R} (n:Nat) (inv:Nat->List C->List Es->Prop) (P:List C->List Es->Prop)
  (step:∀i st sm,i<n->inv i st sm->∃st' sm',inv (i+1) st' sm'/\∀fin rec:KD R,F fin rec st sm=rec st' sm')
  (stop:∀st sm,inv n st sm->∃d m,P d m/\∀fin rec:KD R,F fin rec st sm=fin d m):
  ∀(m i:Nat) (st:List C) (sm:List Es) (N:Nat),i+m=n->m<N->inv i st sm->∃d m',P d m'/\∀fin:KD R,BO N (F fin) st sm=fin d m'
 |m,i,st,sm,N,hm,hN,h=>by
  obtain⟨N,rfl⟩:∃a,N=a+1:=⟨N-1,by omega⟩;by_cases e:i=n;{subst e;obtain⟨d,m',h1,h2⟩:=stop st sm h;exact⟨d,m',h1,fun fin=>by rw[Dl,h2]⟩}
  ·obtain⟨st',sm',h1,h2⟩:=step i st sm (by omega) h
   match m with
   |0=>omega|m+1=>
    obtain⟨d,m',h3,h4⟩:=LW n inv P step stop m (i+1) st' sm' N (by omega) (by omega) h1;exact⟨d,m',h3,fun fin=>by rw[Dl,h2,h4]⟩
def DoL (n:Nat):CS->List C->List C->CS->Prop
 |s,[],outs,s'=>outs=[]/\s'=s|s,t::ts,outs,s'=>∃(e:Int) (s1:CS) (z8b:List C),DoR s n t s1 e/\outs= .int e::z8b/\DoL n (s1.ev t e) ts z8b s'
theorem DoL.snoc {n:Nat} {t:C} {s2:CS} {e:Int}:∀{ts:List C} {s:CS} {outs:List C} {s1:CS},DoL n s ts outs s1->DoR s1 n t s2 e->DoL n s (ts++[t]) (outs++[.int e]) (s2.ev t e)
 | [],s,outs,s1,h,g=>by obtain⟨rfl,rfl⟩:=h;exact⟨e,s2,[],g,rfl,rfl,rfl⟩
 |t'::ts,s,outs,s1,h,g=>by obtain⟨e',s',o',h1,rfl,h2⟩:=h;exact⟨e',s',o'++[.int e],h1,rfl,DoL.snoc h2 g⟩
def DT (l:List C):Nat->List C->List C
 |_,[]=>[]|i,c::cs=>if Fp l (.int (i:Nat))=true then DT l (i+1) cs else c::DT l (i+1) cs
theorem ZQ (l:List C):∀(cs:List C) (i j:Nat) (h:j<cs.length),DT l i (cs.take (j+1))=DT l i (cs.take j)++(if Fp l (.int (i+j:Nat))=true then[]else[cs.getD j .nil])
 |c::cs,i,0,_=>by simp only[ve,List.take_zero,DT,Nat.add_zero,List.nil_append,List.getD_cons_zero]
 |c::cs,i,j+1,h=>by
  have ih:=ZQ l cs (i+1) j (by simpa using h);have e:i+1+j=i+(j+1):=by omega
  rw[e]at ih;simp only[ve,DT,List.getD_cons_succ]at ih ⊢;by_cases g:Fp l (.int (i:Nat))=true;{simp only[g,if_true,AB];exact ih};{simp only[g,if_false,mq,fi];rw[ih]}
theorem oX (l:List C):∀(cs:List C) (i:Nat),(DT l i cs).length<=cs.length
 | [],_=>Nat.le_refl _|c::cs,i=>by have:=oX l cs (i+1);simp only[DT];split;{simp;omega};{simp;exact this}
def JN (l:List C) (np:Nat) (i:Nat) (_:Unit) (c:C):Unit ⊕ Unit:=if c.toInt<0\/(np:Int)<=c.toInt\/Fp (cut l 0 i) c=true then .inr ()else .inl ()
theorem contains_eq (l:List C) (v:C) (hl:l.length<4611686018427387904) (hN:l.length<N) (k:KD R):QP N (.slice l) v k=k [.bool (Fp l v)] []:=by rw[wT];unfold dP;rw[q1S l v hl hN];exact congrArg (fun b=>k [df b] []) ((decide_eq_decide.2 Iff.rfl).trans (q1Q l v))
theorem gN (l:List C) (np:Nat):∀(m:List C) (i:Nat),CQ (JN l np) i () m= .inl ()->∀c∈m,0<=c.toInt/\c.toInt<(np:Int)
 | [],_,_,c,hc=>nomatch hc|x::m,i,h,c,hc=>by simp only[CQ,JN]at h;by_cases g:x.toInt<0\/(np:Int)<=x.toInt\/Fp (cut l 0 i) x=true;{simp[g]at h};{simp only[g,if_false]at h;rcases List.mem_cons.1 hc with rfl|hc;{omega};{exact gN l np m (i+1) h c hc}}
end
section
variable {R:Type} {N:Nat}
theorem U5 (l:List C) (i:Nat):(cut l 0 i).length<=l.length:=by unfold cut;simp;omega
def CS.Ga (s:CS) (n:Nat) (out:List C) (e:Int) (j:Nat->C):List C:=[.slice out,.int e,s.least,s.yc,.int s.yd.length,.int s.yb.length,.int s.evs.length,.int n,.int n,s.kept,j 0,s.has,j 1,s.ye,j 2,.agg s.yd,j 3,.agg s.yb,j 4,.agg s.evs]
def CS.mid (s:CS) (n:Nat) (l:List C) (j:Nat->C):List C:=[.slice l,s.least,s.yc,.int s.yd.length,.int s.yb.length,.int s.evs.length,.int n,.int n,s.kept,j 0,s.has,j 1,s.ye,j 2,.agg s.yd,j 3,.agg s.yb,j 4,.agg s.evs]
def J0 (s:CS):Nat->C:=jL (.int s.has.elems.length) (.int s.ye.elems.length) (.int s.yd.length) (.int s.yb.length) (.int s.evs.length)
theorem tB (s:CS) (n:Nat) (l:List C) (hl:l.length<=1000) (hN:2000<N) (k1 k2:KD R):
  BO N (Qo N k1 k2) [.slice l,.slice l,.int l.length,.int (0:Nat),s.least,s.yc,.int s.yd.length,.int s.yb.length,.int s.evs.length,.int n,.int n,s.kept,.int s.has.elems.length,s.has,.int s.ye.elems.length,s.ye,.int s.yd.length,.agg s.yd,.int s.yb.length,.agg s.yb,.int s.evs.length,.agg s.evs] [s.book]=
   IB (fun _=>k2 (s.mid n l (J0 s)) [s.book]) (fun _=>k1 (s.Ga n [] 1 (J0 s)) [s.book]) (CQ (JN l s.yb.length) 0 () l):=by
 refine LY (F:=Qo N k1 k2) (fun i (_:Unit)=>[.slice l,.slice l,.int l.length,.int i,s.least,s.yc,.int s.yd.length,.int s.yb.length,.int s.evs.length,.int n,.int n,s.kept,.int s.has.elems.length,s.has,.int s.ye.elems.length,s.ye,.int s.yd.length,.agg s.yd,.int s.yb.length,.agg s.yb,.int s.evs.length,.agg s.evs]) (fun _ _=>[s.book]) l (JN l s.yb.length) _ _ (s0:=()) ?_ ?_ (by omega)
 ·intro i _ c hx hi rec;have h1:(i:Int)<(l.length:Int):=by omega
  have hc:=U5 l i;have h2:Int.ofNat 0<=0/\0<=(i:Int)/\(i:Int)<=(l.length:Int):=⟨by decide,by omega,by omega⟩;unfold Qo JN;by_cases g1:c.toInt<0;{simp only[AW,AG,AZ,BM,bc,Ac,AQ,eq_self,AE,Ag,Ah,and_self,bh,bo,BD,AF,AJ,AL,AP,AV,Ab,Af,Ak,Ao,BC,Aq,Ar,Au,Av,Aw,Ax,Ay,Az,BA,BB,BG,BH,BI,BJ,BK,BL,h1,Fo hx,cf,g1,true_or,AB];rfl};by_cases g2:(s.yb.length:Int)<=c.toInt;{simp only[AW,AG,AZ,BM,bc,Ac,AQ,eq_self,AE,Ag,Ah,and_self,bh,bo,BD,AF,AJ,AL,AP,AV,Ab,Af,Ak,Ao,BC,Aq,Ar,Au,Av,Aw,Ax,Ay,Az,BA,BB,BG,BH,BI,BJ,BK,BL,h1,Fo hx,cf,g1,g2,true_or,or_true,AB];rfl};cases g3:Fp (cut l 0 i) c;{simp only[AW,AG,AZ,BM,bc,Ac,AQ,eq_self,AE,Ag,Ah,and_self,bh,bo,BD,AF,AJ,AL,AP,AV,Ab,Af,Ak,Ao,BC,Aq,Ar,Au,Av,Aw,Ax,Ay,Az,BA,BB,BG,BH,BI,BJ,BK,BL,h1,h2,Fo hx,cf,contains_eq (cut l 0 i) c (by omega) (show(cut l 0 i).length<N by omega),g1,g2,g3,CV (show i<4611686018427387904 by omega),or_self,fi,AB]};{simp only[AW,AG,AZ,BM,bc,Ac,AQ,eq_self,AE,Ag,Ah,and_self,bh,bo,BD,AF,AJ,AL,AP,AV,Ab,Af,Ak,Ao,BC,Aq,Ar,Au,Av,Aw,Ax,Ay,Az,BA,BB,BG,BH,BI,BJ,BK,BL,h1,h2,Fo hx,cf,contains_eq (cut l 0 i) c (by omega) (show(cut l 0 i).length<N by omega),g1,g2,g3,or_true,AB];rfl}
 ·intro _ rec;unfold Qo;simp only[AW,AG,AZ,BM,bc,Ac,AQ,eq_self,AE,Ag,Ah,and_self,bh,bo,BD,AF,AJ,AL,AP,AV,Ab,Af,Ak,Ao,BC,Aq,Ar,Au,Av,Aw,Ax,Ay,Az,BA,BB,BG,BH,BI,BJ,BK,BL,fj,AB];rfl
structure MK (s:CS) (n:Nat) (ts out:List C) (s1:CS):Prop where
 d:DoL n s ts out s1
 FF:GQ s1
 yb:s1.yb=s.yb
 evs:s1.evs.length=s.evs.length+ts.length
 len:out.length=ts.length
 least:s1.least=s.least
 yc:s1.yc=s.yc
theorem MK.next {s:CS} {n:Nat} {ts out:List C} {s1 s2:CS} {t:C} {e:Int} (h:MK s n ts out s1) (g:DoR s1 n t s2 e):MK s n (ts++[t]) (out++[.int e]) (s2.ev t e):=by obtain⟨g1,g2⟩:=g.FF h.FF;refine⟨h.d.snoc g,⟨g1.b,g1.n⟩,g2.yb.trans h.yb,?_,by simp[h.len],g2.least.trans h.least,g2.yc.trans h.yc⟩;show(s2.evs++[evR s2 t e]).length=_;rw[bt,g2.evs,h.evs,bt];simp only[cn,cu];omega
def Ea (l yb:List C):List C:=l.map fun p=>yb.getD p.toInt.toNat .nil
theorem sK (l yb:List C) {i:Nat} {c:C} (h:l[i]? =some c):Ea (l.take (i+1)) yb=Ea (l.take i) yb++[yb.getD c.toInt.toNat .nil]:=by unfold Ea;rw[List.take_add_one,h];simp
theorem q4R (s:CS) (hs:GQ s) (n:Nat) (hn:n<4611686018427387904) (l:List C) (hl:l.length<=1000) (hp:∀t∈s.yb,TxG t) (hev:s.evs.length+l.length<=1024) (hg:∀c∈l,0<=c.toInt/\c.toInt<(s.yb.length:Int))
  (hN:2199023255552<N) (hN2:N<4611686018427387904) (a0 b0 b1 b2 b3 b4 b5 b6 b7 b8 b9 b10 b11 b12 b13:C) (m0:Es) (x1 x2 x3 x4 x5:Nat):
  ∃(out:List C) (s1:CS),MK s n (Ea l s.yb) out s1/\∀k2:KD R,BO N (MZ N a0 b0 b1 b2 b3 b4 b5 b6 b7 b8 b9 b10 b11 b12 b13 m0 k2) [.slice l,.slice l,.int l.length,.slice [],.int (0:Nat),s.least,s.yc,.int s.yd.length,.int s.yb.length,.int s.evs.length,.int n,.int n,s.kept,s.has,s.ye,.agg s.yd,.agg s.yb,.agg s.evs,.int x1,.int x2,.int x3,.int x4,.int x5,.int x1,.int x2,.int x3,.int x4,.int x5] [s.book]=
   k2 [.slice l,.slice out,s1.least,s1.yc,.int s1.yd.length,.int s1.yb.length,.int s1.evs.length,.int n,.int n,s1.kept,s1.has,s1.ye,.agg s1.yd,.agg s1.yb,.agg s1.evs,.int x1,.int x2,.int x3,.int x4,.int x5,.int x1,.int x2,.int x3,.int x4,.int x5] [s1.book]:=by
 have key:=LW (R:=R) (F:=fun k2=>MZ N a0 b0 b1 b2 b3 b4 b5 b6 b7 b8 b9 b10 b11 b12 b13 m0 k2) l.length
  (fun i st sm=>∃(out:List C) (s1:CS),st=[.slice l,.slice l,.int l.length,.slice out,.int i,s1.least,s1.yc,.int s1.yd.length,.int s1.yb.length,.int s1.evs.length,.int n,.int n,s1.kept,s1.has,s1.ye,.agg s1.yd,.agg s1.yb,.agg s1.evs,.int x1,.int x2,.int x3,.int x4,.int x5,.int x1,.int x2,.int x3,.int x4,.int x5]/\sm=[s1.book]/\MK s n (Ea (l.take i) s.yb) out s1)
  (fun d m=>∃(out:List C) (s1:CS),d=[.slice l,.slice out,s1.least,s1.yc,.int s1.yd.length,.int s1.yb.length,.int s1.evs.length,.int n,.int n,s1.kept,s1.has,s1.ye,.agg s1.yd,.agg s1.yb,.agg s1.evs,.int x1,.int x2,.int x3,.int x4,.int x5,.int x1,.int x2,.int x3,.int x4,.int x5]/\m=[s1.book]/\MK s n (Ea l s.yb) out s1) ?_ ?_ l.length 0
  [.slice l,.slice l,.int l.length,.slice [],.int (0:Nat),s.least,s.yc,.int s.yd.length,.int s.yb.length,.int s.evs.length,.int n,.int n,s.kept,s.has,s.ye,.agg s.yd,.agg s.yb,.agg s.evs,.int x1,.int x2,.int x3,.int x4,.int x5,.int x1,.int x2,.int x3,.int x4,.int x5] [s.book] N (by omega) (by omega) ⟨[],s,rfl,rfl,⟨rfl,rfl⟩,hs,rfl,rfl,rfl,rfl,rfl⟩
 ·obtain⟨d,m',⟨out,s1,rfl,rfl,h⟩,heq⟩:=key;exact⟨out,s1,h,heq⟩
 ·rintro i st sm hi ⟨out,s1,rfl,rfl,h⟩;obtain⟨c,hc⟩:∃c,l[i]? =some c:=⟨_,bp hi⟩;have h1:(i:Int)<(l.length:Int):=by omega
  have hcm:c∈l:=List.mem_of_getElem? hc;have hr:=hg c hcm;have hr2:0<=c.toInt/\c.toInt<(s1.yb.length:Int):=by rw[h.yb];exact hr
  have ht:TxG (s.yb.getD c.toInt.toNat .nil):=hp _ (Ez (by omega));have hlen:(Ea (l.take i) s.yb).length=i:=by simp[Ea];omega
  have he:=h.evs;have ho:=h.len;obtain⟨e,s2,j,hd,hdo⟩:=q0c (R:=R) (N:=N) h.FF hn ht hN hN2 (by omega);have hol:(out.length+1)*8<=140737488355328/\out.length+1<=9223372036854775807:=by omega
  refine⟨_,_,⟨out++[.int e],s2.ev (s.yb.getD c.toInt.toNat .nil) e,rfl,rfl,by rw[sK l s.yb hc];exact h.next hd⟩,fun k2 rec=>?_⟩;have hpe:(dv s1.yb).get c.toInt.toNat=s.yb.getD c.toInt.toNat .nil:=by rw[h.yb];rfl
  show MZ N a0 b0 b1 b2 b3 b4 b5 b6 b7 b8 b9 b10 b11 b12 b13 m0 k2 rec _ _=_;unfold MZ;simp only[AW,AG,AZ,BM,bc,Ac,AQ,eq_self,AE,Ag,Ah,and_self,bh,bo,BD,AF,AJ,AL,AP,AV,Ab,Af,Ak,Ao,BC,Aq,Ar,Au,Av,Aw,Ax,Ay,Az,BA,BB,BG,BH,BI,BJ,BK,BL,CB,CC,CD,CE,CF,CG,CH,CI,CJ,CK,CL,CM,CN,DP,h1,Fo hc,cf,hr2,hpe,hdo,AB];simp only[vx,AW,AG,AZ,BM,bc,Ac,AQ,eq_self,AE,Ag,Ah,and_self,bh,bo,BD,AF,AJ,AL,AP,AV,Ab,Af,Ak,Ao,BC,Aq,Ar,Au,Av,Aw,Ax,Ay,Az,BA,BB,BG,BH,BI,BJ,BK,BL,CB,CC,CD,CE,CF,CG,CH,CI,CJ,CK,CL,CM,CN,DP,hol,bt,cn,cu,CV (show i<4611686018427387904 by omega),AB]
 ·rintro st sm ⟨out,s1,rfl,rfl,h⟩;refine⟨_,_,⟨out,s1,rfl,rfl,by rwa [dx]at h⟩,fun k2 rec=>?_⟩;show MZ N a0 b0 b1 b2 b3 b4 b5 b6 b7 b8 b9 b10 b11 b12 b13 m0 k2 rec _ _=_;unfold MZ;simp only[AW,AG,AZ,BM,bc,Ac,AQ,eq_self,AE,Ag,Ah,and_self,bh,bo,BD,AF,AJ,AL,AP,AV,Ab,Af,Ak,Ao,BC,Aq,Ar,Au,Av,Aw,Ax,Ay,Az,BA,BB,BG,BH,BI,BJ,BK,BL,CB,CC,CD,CE,CF,CG,CH,CI,CJ,CK,CL,CM,CN,DP,fj,AB]
end
section
variable {R:Type} {N:Nat}
theorem q2S (s:CS) (n:Nat) (l out:List C) (hl:l.length<=1000) (hpl:s.yb.length<=64) (hN:2000<N) (a0 b0 b1 b2 b3 b4 b5 b6 b7 b8 b9 b10 b11 b12 b13:C) (m0:Es) (x1 x2 x3 x4 x5:Nat) (k2:KD R):
  BO N (Qn N a0 b0 b1 b2 b3 b4 b5 b6 b7 b8 b9 b10 b11 b12 b13 m0 k2) [.slice l,.int s.yb.length,.int s.yb.length,.slice out,.int (0:Nat),.int (0:Nat),s.least,s.yc,.int s.yd.length,.int s.yb.length,.int s.evs.length,.int n,.int n,s.kept,s.has,s.ye,.agg s.yd,.agg s.yb,.agg s.evs,.int x1,.int x2,.int x3,.int x4,.int x5,.int x1,.int x2,.int x3,.int x4,.int x5,.int x1,.int x2,.int x3,.int x4,.int x5,.agg []] [s.book]=
   k2 [.slice out,.int (DT l 0 s.yb).length,s.least,s.yc,.int s.yd.length,.int s.yb.length,.int s.evs.length,.int n,.int n,s.kept,s.has,s.ye,.agg s.yd,.agg s.yb,.agg s.evs,.int x1,.int x2,.int x3,.int x4,.int x5,.int x1,.int x2,.int x3,.int x4,.int x5,.int x1,.int x2,.int x3,.int x4,.int x5,.agg (DT l 0 s.yb)] [s.book]:=by
 have key:=Fw (R:=R) (F:=Qn N a0 b0 b1 b2 b3 b4 b5 b6 b7 b8 b9 b10 b11 b12 b13 m0 k2) (fun i=>[.slice l,.int s.yb.length,.int s.yb.length,.slice out,.int (DT l 0 (s.yb.take i)).length,.int i,s.least,s.yc,.int s.yd.length,.int s.yb.length,.int s.evs.length,.int n,.int n,s.kept,s.has,s.ye,.agg s.yd,.agg s.yb,.agg s.evs,.int x1,.int x2,.int x3,.int x4,.int x5,.int x1,.int x2,.int x3,.int x4,.int x5,.int x1,.int x2,.int x3,.int x4,.int x5,.agg (DT l 0 (s.yb.take i))]) (fun _=>[s.book]) s.yb.length (k2 [.slice out,.int (DT l 0 s.yb).length,s.least,s.yc,.int s.yd.length,.int s.yb.length,.int s.evs.length,.int n,.int n,s.kept,s.has,s.ye,.agg s.yd,.agg s.yb,.agg s.evs,.int x1,.int x2,.int x3,.int x4,.int x5,.int x1,.int x2,.int x3,.int x4,.int x5,.int x1,.int x2,.int x3,.int x4,.int x5,.agg (DT l 0 s.yb)] [s.book]) ?_ ?_ (N:=N) (by omega);{exact key}
 ·intro i hi rec;have h1:(i:Int)<(s.yb.length:Int):=by omega
  have hle:=oX l (s.yb.take i) 0;have hti:(s.yb.take i).length<=64:=by rw[List.length_take];omega
  have h3:((DT l 0 (s.yb.take i)).length+1)*2368<=140737488355328/\(DT l 0 (s.yb.take i)).length+1<=9223372036854775807:=by omega
  have hg:(dv s.yb).get i=s.yb.getD i .nil:=rfl;have e0:0+i=i:=bh i;unfold Qn;cases hh:Fp l (.int (i:Nat))
  ·have ht:DT l 0 (s.yb.take (i+1))=DT l 0 (s.yb.take i)++[s.yb.getD i .nil]:=by rw[ZQ l s.yb 0 i hi,e0,hh];rfl
   simp only[AW,AG,AZ,BM,bc,Ac,AQ,eq_self,AE,Ag,Ah,and_self,bh,bo,BD,AF,AJ,AL,AP,AV,Ab,Af,Ak,Ao,BC,Aq,Ar,Au,Av,Aw,Ax,Ay,Az,BA,BB,BG,BH,BI,BJ,BK,BL,CB,CC,CD,CE,CF,CG,CH,CI,CJ,CK,CL,CM,CN,DP,h1,h3,hg,hh,ht,cf,contains_eq l (.int (i:Nat)) (by omega) (show l.length<N by omega),dx,bt,cn,cu,CV (show i<4611686018427387904 by omega),AB]
  ·have ht:DT l 0 (s.yb.take (i+1))=DT l 0 (s.yb.take i):=by rw[ZQ l s.yb 0 i hi,e0,hh];exact List.append_nil _
   simp only[AW,AG,AZ,BM,bc,Ac,AQ,eq_self,AE,Ag,Ah,and_self,bh,bo,BD,AF,AJ,AL,AP,AV,Ab,Af,Ak,Ao,BC,Aq,Ar,Au,Av,Aw,Ax,Ay,Az,BA,BB,BG,BH,BI,BJ,BK,BL,CB,CC,CD,CE,CF,CG,CH,CI,CJ,CK,CL,CM,CN,DP,h1,h3,hg,hh,ht,cf,contains_eq l (.int (i:Nat)) (by omega) (show l.length<N by omega),dx,bt,cn,cu,CV (show i<4611686018427387904 by omega),AB]
 ·intro rec;unfold Qn;simp only[AW,AG,AZ,BM,bc,Ac,AQ,eq_self,AE,Ag,Ah,and_self,bh,bo,BD,AF,AJ,AL,AP,AV,Ab,Af,Ak,Ao,BC,Aq,Ar,Au,Av,Aw,Ax,Ay,Az,BA,BB,BG,BH,BI,BJ,BK,BL,CB,CC,CD,CE,CF,CG,CH,CI,CJ,CK,CL,CM,CN,DP,fj,dx,AB]
def Il (s:CS) (l:List C):Int:=if 1073741824<=s.yc.toInt then 8 else match CQ (JN l s.yb.length) 0 () l with| .inr _=>1| .inl _=>0
def CS.high (s:CS):CS:={s with yc:=.int (IntKind.u64.wrap (s.yc.toInt+1))}
theorem k7 (s:CS) (hs:GQ s) (n:Nat) (hn:n<4611686018427387904) (l:List C) (hl:l.length<=1000) (hp:∀t∈s.yb,TxG t) (hpl:s.yb.length<=64) (hev:s.evs.length+l.length<=1024)
  (hN:2199023255552<N) (hN2:N<4611686018427387904):∃(out:List C) (s':CS) (j:Nat->C),((Il s l≠0/\out=[]/\s'=s)\/(Il s l=0/\∃s1,MK s.high n (Ea l s.yb) out s1/\s'={s1 with yb:=DT l 0 s.yb}))/\
  ∀k:KD R,OQ N (.slice l) s.least s.yc (.int s.yd.length) (.int s.yb.length) (.int s.evs.length) (.int n) (.int n) s.kept s.has s.ye (.agg s.yd) (.agg s.yb) (.agg s.evs) .nil s.book k=k (s'.Ga n out (Il s l) j) [s'.book]:=by
 by_cases h1:1073741824<=s.yc.toInt
 ·have hb:Il s l=8:=by unfold Il;rw[if_pos h1]
  refine⟨[],s,J0 s,.inl ⟨by rw[hb];decide,rfl,rfl⟩,fun k=>?_⟩;rw[Tu,hb];unfold Qp;simp only[AW,AG,AZ,BM,bc,Ac,AQ,eq_self,AE,Ag,Ah,and_self,bh,bo,BD,AF,AJ,AL,AP,AV,Ab,Af,Ak,Ao,BC,Aq,Ar,Au,Av,Aw,Ax,Ay,Az,BA,BB,BG,BH,BI,BJ,BK,BL,CB,CC,CD,CE,CF,CG,CH,CI,CJ,CK,CL,CM,CN,DP,h1,AB];rfl
 cases hr:CQ (JN l s.yb.length) 0 () l with
 |inr u=>
  have hb:Il s l=1:=by unfold Il;rw[if_neg h1,hr]
  refine⟨[],s,J0 s,.inl ⟨by rw[hb];decide,rfl,rfl⟩,fun k=>?_⟩;rw[Tu,hb];unfold Qp;simp only[AW,AG,AZ,BM,bc,Ac,AQ,eq_self,AE,Ag,Ah,and_self,bh,bo,BD,AF,AJ,AL,AP,AV,Ab,Af,Ak,Ao,BC,Aq,Ar,Au,Av,Aw,Ax,Ay,Az,BA,BB,BG,BH,BI,BJ,BK,BL,CB,CC,CD,CE,CF,CG,CH,CI,CJ,CK,CL,CM,CN,DP,h1,AB];refine(tB s n l hl (by omega) k _).trans ?_;rw[hr];rfl
 |inl u=>
  have hb:Il s l=0:=by unfold Il;rw[if_neg h1,hr]
  have hg:=gN l s.yb.length l 0 hr;have hsh:GQ s.high:=⟨hs.b,hs.n⟩;obtain⟨out,s1,hm,hq⟩:=q4R (R:=R) (N:=N) s.high hsh n hn l hl hp hev hg hN hN2 (.slice l) s.least s.yc (.int s.yd.length) (.int s.yb.length) (.int s.evs.length) (.int n) (.int n) s.kept s.has s.ye (.agg s.yd) (.agg s.yb) (.agg s.evs) .nil s.book s.has.elems.length s.ye.elems.length s.yd.length s.yb.length s.evs.length;refine⟨out,_,J0 s,.inr ⟨hb,s1,hm,rfl⟩,fun k=>?_⟩;rw[hb,Tu];unfold Qp;simp only[AW,AG,AZ,BM,bc,Ac,AQ,eq_self,AE,Ag,Ah,and_self,bh,bo,BD,AF,AJ,AL,AP,AV,Ab,Af,Ak,Ao,BC,Aq,Ar,Au,Av,Aw,Ax,Ay,Az,BA,BB,BG,BH,BI,BJ,BK,BL,CB,CC,CD,CE,CF,CG,CH,CI,CJ,CK,CL,CM,CN,DP,h1,AB];refine(tB s n l hl (by omega) k _).trans ?_;rw[hr];simp only[IB,CS.mid,J0,jL,AW,AG,AZ,BM,bc,Ac,AQ,eq_self,AE,Ag,Ah,and_self,bh,bo,BD,AF,AJ,AL,AP,AV,Ab,Af,Ak,Ao,BC,Aq,Ar,Au,Av,Aw,Ax,Ay,Az,BA,BB,BG,BH,BI,BJ,BK,BL,CB,CC,CD,CE,CF,CG,CH,CI,CJ,CK,CL,CM,CN,DP,AB];refine(hq _).trans ?_;simp only[AW,AG,AZ,BM,bc,Ac,AQ,eq_self,AE,Ag,Ah,and_self,bh,bo,BD,AF,AJ,AL,AP,AV,Ab,Af,Ak,Ao,BC,Aq,Ar,Au,Av,Aw,Ax,Ay,Az,BA,BB,BG,BH,BI,BJ,BK,BL,CB,CC,CD,CE,CF,CG,CH,CI,CJ,CK,CL,CM,CN,DP,AB];have hps:s1.yb=s.yb:=hm.yb;refine(q2S s1 n l out hl (by rw[hps];exact hpl) (by omega) _ _ _ _ _ _ _ _ _ _ _ _ _ _ _ _ _ _ _ _ _ _).trans ?_;simp only[AW,AG,AZ,BM,bc,Ac,AQ,eq_self,AE,Ag,Ah,and_self,bh,bo,BD,AF,AJ,AL,AP,AV,Ab,Af,Ak,Ao,BC,Aq,Ar,Au,Av,Aw,Ax,Ay,Az,BA,BB,BG,BH,BI,BJ,BK,BL,CB,CC,CD,CE,CF,CG,CH,CI,CJ,CK,CL,CM,CN,DP,hps,AB];simp only[CS.Ga,J0,jL]
end
def cE (a0 a1 a2:C) (k1:KD R):Option R:=jn (fun d1 m1=>(bif dg (dk d1 2)then(k1 [bf 1,Du] [])else(bif decide (ar (bj (dk d1 3) 6)=2)then(k1 [bf 31,Du] [])else(if 0<=ar (dk d1 0)/\ar (dk d1 0)<2 then(Lk N (bj (bj (dk d1 3) 4) (av (ar (dk d1 0)))) (dk d1 1) (fun d2 m2=>(bif !decide (ar (dk d2 1)=0)then(k1 [dk d2 1,Du] [])else(if 0<=ar (dk d1 0)/\ar (dk d1 0)<2 then(Lk N (bj (bj (cm (dk d1 3) 4 (cm (bj (dk d1 3) 4) (av (ar (dk d1 0))) (dk d2 0))) 4) (av 0)) (bj (bj (cm (dk d1 3) 4 (cm (bj (dk d1 3) 4) (av (ar (dk d1 0))) (dk d2 0))) 4) (av 1)) (fun d3 m3=>(bif !decide (ar (dk d3 1)=0)then(k1 [dk d3 1,Du] [])else(k1 [bf 0,cm (dk d1 3) 4 (cm (bj (dk d1 3) 4) (av (ar (dk d1 0))) (dk d2 0))] []))))else none))))else none)))) (fun k2=>(bif !decide (ar a1=0)then(bif !decide (ar a1=1)then(k2 [a1,a2,df true,a0,Du] [])else(k2 [a1,a2,df (decide (ar a2=0)),a0,Du] []))else(k2 [a1,a2,df (decide (ar a2=0)),a0,Du] [])))
def Pv:=lid "" (@cE R N)
theorem uI {R N a0 a1 a2 k}:@Pv R N a0 a1 a2 k=cE N a0 a1 a2 k:=by unfold Pv;rw[BQ]
def q6k:OvG R:=CA [AR,.int .i64,.int .u64] (Jq (Pv N)) fun a K d1 m1=>K (V.tup [V.d AR (dk d1 1),V.d (bm bb) (dk d1 0)]) []
theorem q6l:okX 93 (@q6k R N):=Cg (Ap (bI N) <| BS) N [] [(93,[([0,0,1],(Cr [1,2,3,6] [(19,.d .bool)])),
  ([9],⟨[],[(6,.as (.ptr (.l 6) [] AR)),(7,.d (.int .i64))],[],[(.l 6,.box (.d AR))],[],[]⟩)])] (fun _ _=>uI)
section
variable {R:Type} {N:Nat}
theorem ab {x:Int} (h:W64 x):Bh 0 x=(x,0):=by have:=h.1;have:=h.2;unfold Bh;rw[if_pos (by omega)];congr 1;omega
theorem q8a {x y:C} (hx:W64 x.toInt):(Hy [x,y]).2=(Bh x.toInt y.toInt).2:=by unfold Hy;simp only[CQ,Jp,ab hx,if_true,AB];by_cases h:(Bh x.toInt y.toInt).2=0 <;> simp[Nk,h]
section
variable {id who rts:C} {ym:List C} {put yz ph un yx:C}
theorem q6V (side yk:C) (h0:W64 (put.get 0).toInt) (h1:W64 (put.get 1).toInt) (ha:W64 yk.toInt) (hp:put= .agg [put.get 0,put.get 1]) (k:KD R):
  Pv N (mkB id who rts ym put yz ph un yx) side yk k=k [.int (KP id who rts ym put yz ph un yx side.toInt yk.toInt).1,(KP id who rts ym put yz ph un yx side.toInt yk.toInt).2] []:=by
 have h6:(mkB id who rts ym put yz ph un yx).get 6=ph:=rfl;have h4:(mkB id who rts ym put yz ph un yx).get 4=put:=rfl;rw[uI];unfold cE KP;rw[XA];refine(nS [side,yk,.bool (decide ((side.toInt≠0/\side.toInt≠1)\/yk.toInt=0)),mkB id who rts ym put yz ph un yx,zB] [] fun K=>?_).trans ?_;{by_cases z0:side.toInt=0;{simp[z0]};{by_cases z1:side.toInt=1 <;> simp[z0,z1]}};simp only[AF,AJ,AL,AP,AZ,h6,h4];by_cases a1:(side.toInt≠0/\side.toInt≠1)\/yk.toInt=0;{simp only[a1,AE,AB]};have hs:0<=side.toInt/\side.toInt<2:=by omega
 by_cases a2:ph.toInt=2;{simp only[a1,a2,AE,AB]};have hg:W64 (put.get side.toInt.toNat).toInt:=by rcases(by omega:side.toInt.toNat=0\/side.toInt.toNat=1)with e|e <;> rw[e];{exact h0};{exact h1}
 simp only[a1,a2,AE,hs,and_self,Vq _ _ hg ha,AF,AJ,AG,AB];by_cases b1:(Bh (put.get side.toInt.toNat).toInt yk.toInt).2=0
 case neg=>simp only[b1,AE,ne_eq,not_false_iff,AB]
 have hw:W64 (Bh (put.get side.toInt.toNat).toInt yk.toInt).1:=fS;have es:cm (mkB id who rts ym put yz ph un yx) 4 (put.set side.toInt.toNat (.int (Bh (put.get side.toInt.toNat).toInt yk.toInt).1))=mkB id who rts ym (put.set side.toInt.toNat (.int (Bh (put.get side.toInt.toNat).toInt yk.toInt).1)) yz ph un yx:=rfl;have e4:∀x:C,(mkB id who rts ym x yz ph un yx).get 4=x:=fun x=>rfl;simp only[b1,AE,ne_eq,not_true,es,e4,Int.toNat_zero,Int.toNat_one];generalize (Bh (put.get side.toInt.toNat).toInt yk.toInt).1=v at hw;have g:W64 ((put.set side.toInt.toNat (.int v)).get 0).toInt/\W64 ((put.set side.toInt.toNat (.int v)).get 1).toInt:=by rw[hp];rcases(by omega:side.toInt.toNat=0\/side.toInt.toNat=1)with e|e <;> rw[e];{exact⟨hw,h1⟩};{exact⟨h0,hw⟩}
 rw[Vq _ _ g.1 g.2];simp only[AF,AJ,AG,q8a g.1,AB];by_cases b2:(Bh ((put.set side.toInt.toNat (bf v)).get 0).toInt ((put.set side.toInt.toNat (bf v)).get 1).toInt).2=0;{simp only[b2,AE,not_true]};{simp only[b2,AE,not_false_iff,AB]}
end
end
def q5Z:List Sh:=[.as (.ptr (.g (.l 1)) [] BF),.d (.int .i64)]
def q51:List (Key × OSh):=[(.l 1,.box (.agg BF [.vec (.g (.l 2)) 8 (.int .u64),.vec (.g (.l 3)) 8 (.int .u64),.d (.int .u64)])),(.l 2,.box (.arr (.int .u64))),(.l 3,.box (.arr (.int .u64)))]
def bW {R:Type} (N:Nat) (a0 b0 b1 b2 b3 b4:C) (k1:KD R):Option R:=jn (fun d1 m1=>(k1 [df (dg (dk d1 0))] [])) (fun k2=>(bif decide (0<=ar a0)then(k2 [df (decide (ar a0<(↑(av (ar b0)):Int)))] [])else(k2 [df false] [])))
def Ls:=lid "" (@bW R N)
theorem uC {R N a0 b0 b1 b2 b3 b4 k}:@Ls R N a0 b0 b1 b2 b3 b4 k=bW N a0 b0 b1 b2 b3 b4 k:=by unfold Ls;rw[BQ]
def q50:OvG R:=DA q5Z q51 (fun ds ms=>Ls N (dk ds 0) (dk ds 1) (dk ds 2) (dk ds 3) (dk ds 4) (dk ds 5)) fun ds ms K d1 m1=>K (V.d Ty.bool (df (dg (dk d1 0)))) []
theorem bV:okX 90 (@q50 R N):=DF BS N [] [(90,[([0,1],⟨[0],[(4,.d .bool)],[],[],[.g (.l 1),.g (.l 2),.g (.l 3)],[(.int .u64)]⟩),
  ([9],⟨[],[(4,.d .bool)],[],[],[.g (.l 1),.g (.l 2),.g (.l 3)],[(.int .u64)]⟩)])] (fun _ _ _=>uC)
def q5V:List Sh:=[.as (.ptr (.g (.l 1)) [] BF),.d (.int .i64),.d (.int .u64)]
def q5Y:List (Key × OSh):=[(.l 1,.box (.agg BF [.vec (.g (.l 2)) 8 (.int .u64),.vec (.g (.l 3)) 8 (.int .u64),.d (.int .u64)])),(.l 2,.box (.arr (.int .u64))),(.l 3,.box (.arr (.int .u64)))]
def bU (a0 a1 b0 b1 b2 b3 b4:C) (k1:KD R):Option R:=if ax (az b3)=ax (az b3)then(gA b4 (Ls N a0 (nI b0) (nI b1) b2 b3 b4 (fun d1 m1=>(bif !dg (dk d1 0)then(gA b3 (gA b4 (k1 [bf 1,nI b0,nI b1,b2,bf (↑(ax (az b3)):Int),b3,bf (↑(ax (az b4)):Int),b4] [])))else(if 0<=ar a0/\ar a0<(↑(av (ar b1)):Int)then(bif !decide (ar (bj b4 (0+av (ar a0)))=ar a1)then(gA b3 (gA b4 (k1 [bf 22,nI b0,nI b1,b2,bf (↑(ax (az b3)):Int),b3,bf (↑(ax (az b4)):Int),b4] [])))else(if 0<=ar a0/\ar a0<(↑(av (ar b1)):Int)then(gA b3 (if ax (az b4)=ax (az (cm b4 (0+av (ar a0)) (bf (au ay (ar a1+1)))))then(k1 [bf 0,nI b0,nI b1,b2,bf (↑(ax (az b3)):Int),b3,bf (↑(ax (az b4)):Int),cm b4 (0+av (ar a0)) (bf (au ay (ar a1+1)))] [])else none))else none))else none)))))else none
def SX:=lid "" (@bU R N)
theorem uB {R N a0 a1 b0 b1 b2 b3 b4 k}:@SX R N a0 a1 b0 b1 b2 b3 b4 k=bU N a0 a1 b0 b1 b2 b3 b4 k:=by unfold SX;rw[BQ]
def q5W:OvG R:=DA q5V q5Y (fun ds ms=>SX N (dk ds 0) (dk ds 1) (dk ds 2) (dk ds 3) (dk ds 4) (dk ds 5) (dk ds 6)) fun ds ms K d1 m1=>K (V.d (bm bb) (dk d1 0)) [(di (bz 1),
  dj
   (jj BF
    [ka (bz 1000000000074) [] 0 (av (ar (dk d1 1))) none 8 (bm ay),
     ka (bz 1000000000106) [] 0 (av (ar (dk d1 2))) none 8 (bm ay),
     V.d (bm ay) (dk d1 3)])),
 (di (bz 2),fh (bu (av (ar (dk d1 4))) (bm ay))),
 (bz 1000000000074,dj (V.d (bu (ax (az (dk d1 5))) (bm ay)) (dk d1 5))),
 (di (bz 3),fh (bu (av (ar (dk d1 6))) (bm ay))),
 (bz 1000000000106,dj (V.d (bu (ax (az (dk d1 7))) (bm ay)) (dk d1 7)))]
theorem q5X:okX 72 (@q5W R N):=DF (Ap (bV N) <| BS) N [] [(72,[([9],⟨[],[(6,.d (.int .i64))],[.g (.l 1),.g (.l 2),.g (.l 3)],[],[],[(.int .u64)]⟩)])] (fun _ _ _=>uB)
def q5Q:List Sh:=[.as (.ptr (.g (.l 1)) [] BF),.d (.int .i64),.d (.int .i64),.d (.int .u64)]
def q5T:List (Key × OSh):=[(.l 1,.box (.agg BF [.vec (.g (.l 2)) 8 (.int .u64),.vec (.g (.l 3)) 8 (.int .u64),.d (.int .u64)])),(.l 2,.box (.arr (.int .u64))),(.l 3,.box (.arr (.int .u64)))]
def uA (a0 a1 a2 b0 b1 b2 b3 b4:C) (k1:KD R):Option R:=jn (fun d1 m1=>(bif dg (dk d1 3)then(gA (dk d1 8) (gA (dk d1 10) (k1 [bf 1,nI (dk d1 4),nI (dk d1 5),dk d1 6,nI (dk d1 7),dk d1 8,nI (dk d1 9),dk d1 10] [])))else(if 0<=ar (dk d1 0)/\ar (dk d1 0)<(↑(av (ar (dk d1 4))):Int)then(bif decide (ar (bj (dk d1 8) (0+av (ar (dk d1 0))))<ar (dk d1 2))then(gA (dk d1 8) (gA (dk d1 10) (k1 [bf 12,nI (dk d1 4),nI (dk d1 5),dk d1 6,nI (dk d1 7),dk d1 8,nI (dk d1 9),dk d1 10] [])))else(if 0<=ar (dk d1 0)/\ar (dk d1 0)<(↑(av (ar (dk d1 4))):Int)then(if 0<=ar (dk d1 0)/\ar (dk d1 0)<(↑(av (ar (dk d1 4))):Int)then(if 0<=ar (dk d1 1)/\ar (dk d1 1)<(↑(av (ar (dk d1 4))):Int)then(if 0<=ar (dk d1 1)/\ar (dk d1 1)<(↑(av (ar (dk d1 4))):Int)then(if ax (az (dk d1 8))=ax (az (cm (cm (dk d1 8) (0+av (ar (dk d1 0))) (bf (au ay (ar (bj (dk d1 8) (0+av (ar (dk d1 0))))-ar (dk d1 2))))) (0+av (ar (dk d1 1))) (bf (au ay (ar (bj (cm (dk d1 8) (0+av (ar (dk d1 0))) (bf (au ay (ar (bj (dk d1 8) (0+av (ar (dk d1 0))))-ar (dk d1 2))))) (0+av (ar (dk d1 1))))+ar (dk d1 2))))))then(gA (dk d1 10) (k1 [bf 0,nI (dk d1 4),nI (dk d1 5),dk d1 6,nI (dk d1 7),cm (cm (dk d1 8) (0+av (ar (dk d1 0))) (bf (au ay (ar (bj (dk d1 8) (0+av (ar (dk d1 0))))-ar (dk d1 2))))) (0+av (ar (dk d1 1))) (bf (au ay (ar (bj (cm (dk d1 8) (0+av (ar (dk d1 0))) (bf (au ay (ar (bj (dk d1 8) (0+av (ar (dk d1 0))))-ar (dk d1 2))))) (0+av (ar (dk d1 1))))+ar (dk d1 2)))),nI (dk d1 9),dk d1 10] []))else none)else none)else none)else none)else none))else none))) (fun k2=>(gA b3 (gA b4 (Ls N a0 (nI b0) (nI b1) b2 b3 b4 (fun d1 m1=>(bif !dg (dk d1 0)then(gA b3 (gA b4 (k2 [a0,a1,a2,df true,nI b0,nI b1,b2,bf (↑(ax (az b3)):Int),b3,bf (↑(ax (az b4)):Int),b4] [])))else(gA b3 (gA b4 (Ls N a1 (nI b0) (nI b1) b2 b3 b4 (fun d2 m2=>(gA b3 (gA b4 (k2 [a0,a1,a2,df !dg (dk d2 0),nI b0,nI b1,b2,bf (↑(ax (az b3)):Int),b3,bf (↑(ax (az b4)):Int),b4] [])))))))))))))
def WA:=lid "" (@uA R N)
theorem q5U {R N a0 a1 a2 b0 b1 b2 b3 b4 k}:@WA R N a0 a1 a2 b0 b1 b2 b3 b4 k=uA N a0 a1 a2 b0 b1 b2 b3 b4 k:=by unfold WA;rw[BQ]
def q5R:OvG R:=DA q5Q q5T (fun ds ms=>WA N (dk ds 0) (dk ds 1) (dk ds 2) (dk ds 3) (dk ds 4) (dk ds 5) (dk ds 6) (dk ds 7)) fun ds ms K d1 m1=>K (V.d (bm bb) (dk d1 0)) [(di (bz 1),
  dj
   (jj BF
    [ka (bz 1000000000074) [] 0 (av (ar (dk d1 1))) none 8 (bm ay),
     ka (bz 1000000000106) [] 0 (av (ar (dk d1 2))) none 8 (bm ay),
     V.d (bm ay) (dk d1 3)])),
 (di (bz 2),fh (bu (av (ar (dk d1 4))) (bm ay))),
 (bz 1000000000074,dj (V.d (bu (ax (az (dk d1 5))) (bm ay)) (dk d1 5))),
 (di (bz 3),fh (bu (av (ar (dk d1 6))) (bm ay))),
 (bz 1000000000106,dj (V.d (bu (ax (az (dk d1 7))) (bm ay)) (dk d1 7)))]
theorem q5S:okX 73 (@q5R R N):=DF (Ap (bV N) <| BS) N [] [(73,[([0,0,1],⟨[0,1,2,3],[(18,.d .bool)],[.g (.l 1),.g (.l 2),.g (.l 3)],[],[],[(.int .u64)]⟩),
  ([9],⟨[],[(8,.d (.int .i64))],[.g (.l 1),.g (.l 2),.g (.l 3)],[],[],[(.int .u64)]⟩)])] (fun _ _ _=>q5U)
end Go.Proofs.YteealakhniofoaaGreatDoor
