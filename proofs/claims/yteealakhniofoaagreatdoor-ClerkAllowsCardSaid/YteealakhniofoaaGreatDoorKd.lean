/-
 What the functions on the way compute, part 4.
 Conditions: none.
-/
import Derived.Test.YteealakhniofoaaGreatDoorKc
set_option linter.all false
noncomputable section
set_option maxRecDepth 100000
set_option maxHeartbeats 4000000
open Go.E.C renaming agg->dc,beq->tc,bool->de,elems->ax,get->bj,int->bc,nil->dj,set->cn,slice->bw,toBool->dg,toInt->aq
open Go.E.Key renaming g->dp,l->ch
open Go.E.O renaming box->dy,dead->fk
open Go.E.Ty renaming arr->ca,int->bm
open Go.E.V renaming agg->mf,sr->oq
open Go.IntKind renaming i64->ba,u32->ct,u64->ay,u8->cq,wrap->ar
open Int renaming lt_irrefl->eg,natCast_nonneg->bz,tdiv->fc,tdiv_eq_ediv_of_nonneg->im,toNat->av,toNat_natCast->bb
open List renaming append_assoc->gd,flatMap_append->mi,getD->bt,getD_eq_getElem?_getD->bq,getElem?_eq_getElem->bo,length->au,length_append->br,length_cons->cg,length_map->fg,length_nil->cr,map_cons->dt,mem_append->eh,replicate->bp,take_length->dh
open Nat renaming beq->df,beq_refl->bh,zero_add->bf
open Option renaming isSome_none->qe,isSome_some->qf,map_eq_some_iff->ed
namespace Go.Proofs.YteealakhniofoaaGreatDoor
open Go Go.E
variable {R:Type} (N:Nat)
def cQ {R:Type} (N:Nat) (k1:KD R):Option R:=k1 [cn (cn (dc [C.str [],C.str []]) 0 (C.str [54,97,48,57,101,54,54,55,98,98,54,55,97,101,56,53,51,99,54,101,102,51,55,50,97,53,52,102,102,53,51,97,53,49,48,101,53,50,55,102,57,98,48,53,54,56,56,99,49,102,56,51,100,57,97,98,53,98,101,48,99,100,49,57])) 1 (C.str [52,50,56,97,50,102,57,56,55,49,51,55,52,52,57,49,98,53,99,48,102,98,99,102,101,57,98,53,100,98,97,53,51,57,53,54,99,50,53,98,53,57,102,49,49,49,102,49,57,50,51,102,56,50,97,52,97,98,49,99,53,101,100,53,100,56,48,55,97,97,57,56,49,50,56,51,53,98,48,49,50,52,51,49,56,53,98,101,53,53,48,99,55,100,99,51,55,50,98,101,53,100,55,52,56,48,100,101,98,49,102,101,57,98,100,99,48,54,97,55,99,49,57,98,102,49,55,52,101,52,57,98,54,57,99,49,101,102,98,101,52,55,56,54,48,102,99,49,57,100,99,54,50,52,48,99,97,49,99,99,50,100,101,57,50,99,54,102,52,97,55,52,56,52,97,97,53,99,98,48,97,57,100,99,55,54,102,57,56,56,100,97,57,56,51,101,53,49,53,50,97,56,51,49,99,54,54,100,98,48,48,51,50,55,99,56,98,102,53,57,55,102,99,55,99,54,101,48,48,98,102,51,100,53,97,55,57,49,52,55,48,54,99,97,54,51,53,49,49,52,50,57,50,57,54,55,50,55,98,55,48,97,56,53,50,101,49,98,50,49,51,56,52,100,50,99,54,100,102,99,53,51,51,56,48,100,49,51,54,53,48,97,55,51,53,52,55,54,54,97,48,97,98,98,56,49,99,50,99,57,50,101,57,50,55,50,50,99,56,53,97,50,98,102,101,56,97,49,97,56,49,97,54,54,52,98,99,50,52,98,56,98,55,48,99,55,54,99,53,49,97,51,100,49,57,50,101,56,49,57,100,54,57,57,48,54,50,52,102,52,48,101,51,53,56,53,49,48,54,97,97,48,55,48,49,57,97,52,99,49,49,54,49,101,51,55,54,99,48,56,50,55,52,56,55,55,52,99,51,52,98,48,98,99,98,53,51,57,49,99,48,99,98,51,52,101,100,56,97,97,52,97,53,98,57,99,99,97,52,102,54,56,50,101,54,102,102,51,55,52,56,102,56,50,101,101,55,56,97,53,54,51,54,102,56,52,99,56,55,56,49,52,56,99,99,55,48,50,48,56,57,48,98,101,102,102,102,97,97,52,53,48,54,99,101,98,98,101,102,57,97,51,102,55,99,54,55,49,55,56,102,50])] []
def Sj:=lid "" (@cQ R N)
theorem vP {R N k}:@Sj R N k=cQ N k:=by unfold Sj;rw[BQ]
def vO:OvG R:=Bq [] (fun a=>Sj N) (DM Bf)
theorem q6C:okX 21 (@vO R N):=CV BT N [] [(21,[([9],⟨[],[(0,.as (.ptr (.l 0) [] Bf))],[],[(.l 0,.box (.d Bf))],[],[]⟩)])] (fun _ _=>vP)
section
variable {R:Type} {N:Nat}
theorem k7 (d:C) (l:List C) (B:Nat) (hb:Kt B l) (hB:B<=1000000) (hl:l.length<=100000) (hN:l.length+1000<N) (k:KD R):Px N d (.slice l) k=k [.slice (Fg d l)] []:=by
 have y0N:∀i,i<=l.length->((l.take i).flatMap ES).length<=i*(B+4):=by
  intro i hi
  induction i with
  |zero=>simp|succ i ih=>
   rw[XE (by omega),mi,br];have h1:=ih (by omega);have h2:=(hb _ (Eb (show i<l.length by omega))).2.2;have h3:([l.getD i dj].flatMap ES).length=4+(l.getD i dj).elems.length:=by simp[ES,Ky]
   rw[h3,Nat.succ_mul];omega
 have lp:∀K:KD R,BR N (Lq N K) [.slice l,.slice [d,bc (ar cq (l.length:Int))],.int 0] []=K [.slice (Fg d l)] []:=fun K=>by
  have key:=Ee (F:=Lq N K) (fun i=>[.slice l,.slice ([d,bc (ar cq (l.length:Int))]++(l.take i).flatMap ES),.int (i:Nat)]) (fun _=>[]) l.length (K [.slice (Fg d l)] []) ?_ ?_ (N:=N) (by omega);{exact key}
  ·intro i hi rec;have e1:(i:Int)<(l.length:Int):=by omega
   obtain⟨y1,y2,y3⟩:=hb _ (Eb hi);have h1:=y0N i (by omega);have m1:i*(B+4)<=100000*1000004:=Nat.mul_le_mul (by omega) (by omega);obtain⟨o,ho⟩:∃o,[d,bc (ar cq (l.length:Int))]++(l.take i).flatMap ES=o:=⟨_,rfl⟩;have hol:o.length<=2+100000*1000004:=by rw[<-ho];simp only[br,cg,cr];omega
   obtain⟨y,hy⟩:∃y,(l.getD i .nil).elems=y:=⟨_,rfl⟩;rw[hy]at y3;have g1:(o.length+4)*1<=140737488355328/\o.length+4<=9223372036854775807:=by omega
   have g2:(o.length+4+y.length)*1<=140737488355328/\o.length+4+y.length<=9223372036854775807:=by omega
   have w1:IntKind.u8.wrap (IntKind.i64.wrap (fc (y.length:Int) 16777216))=((y.length / 256 / 256 / 256%256:Nat):Int):=by rw[im (by omega),wrap_i64 (by omega) (by omega),wrap_u8];omega
   have w2:IntKind.u8.wrap (IntKind.i64.wrap (fc (y.length:Int) 65536))=((y.length / 256 / 256%256:Nat):Int):=by rw[im (by omega),wrap_i64 (by omega) (by omega),wrap_u8];omega
   have w3:IntKind.u8.wrap (IntKind.i64.wrap (fc (y.length:Int) 256))=((y.length / 256%256:Nat):Int):=by rw[im (by omega),wrap_i64 (by omega) (by omega),wrap_u8];omega
   have w4:IntKind.u8.wrap (y.length:Int)=((y.length%256:Nat):Int):=by rw[wrap_u8];omega
   have ec:o++[bc ((y.length / 256 / 256 / 256%256:Nat):Int),bc ((y.length / 256 / 256%256:Nat):Int),bc ((y.length / 256%256:Nat):Int),bc ((y.length%256:Nat):Int)]++y=[d,bc (ar cq (l.length:Int))]++(l.take (i+1)).flatMap ES:=by
    rw[<-UB _ (by omega),XE hi,mi,<-gd,ho,gd];have:[l.getD i dj].flatMap ES=b4 (IntKind.u32.wrap ((l.getD i .nil).elems.length:Int))++(l.getD i .nil).elems:=by simp[ES]
    rw[this,hy];rw[show IntKind.u32.wrap (y.length:Int)=(y.length:Int) by rw[wrap_u32];omega]
   rw[ho,<-ec];unfold Lq;simp only[AF,AH,AJ,AG,AO,e1,hy,w1,w2,w3,w4,g1,g2,AE,bz,and_self,bb,bh,br,cg,cr,bf,Nat.reduceAdd,Bp (show i<4611686018427387904 by omega),AB]
  ·intro rec;unfold Lq;simp only[AF,AH,AJ,AG,AO,eg,AE,bh,dh,AB];rfl
 rw[cV];unfold WU;simp only[AR,AO,AB];refine(lp _).trans ?_;simp only[AF,AO,bh,cond_true]
theorem p8 (t:C) (ht:GB t) (d:C) (hd:Dd d) (l:List C) (B:Nat) (hb:Kt B l) (hB:B<=1000000) (hl:l.length<=100000) (hm:(Fg d l).length<=4398046511104) (hN:(Fg d l).length+l.length+1000<N) (k:KD R):Pv N t d (.slice l) k=k [QS (Fg d l)] []:=by
 have hbb:∀c∈Fg d l,Dd c:=by intro c hc;unfold Fg at hc;rcases eh.1 hc with hc|hc;{simp only[List.mem_cons,List.not_mem_nil,or_false]at hc;rcases hc with rfl|rfl;{exact hd};{exact Xu _}};{obtain⟨x,hx,hc⟩:=List.mem_flatMap.1 hc;unfold ES at hc;rcases eh.1 hc with hc|hc;{exact UC _ c hc};{exact(hb x hx).2.1 c hc}}
 rw[cR];unfold WQ;simp only[AR,k7 d l B hb hB hl (show l.length+1000<N by omega),AF,AO,o8 t ht _ hbb hm (show(Fg d l).length+1000<N by omega),AB]
theorem yW (s:List UInt8) (n:Nat) (g:Nat->Int) (h:(List.range n).map (fun i=>KG s i 8)=(List.range n).map g):∀i,i<n->KG s i 8=g i:=fun i hi=>by have:=congrArg (fun l=>l.getD i 0) h;simpa[hi]using this
theorem q4d (k:KD R):∃t,GB t/\∀k:KD R,Sj N k=k [t] []:=by
 refine⟨?w,?a,fun k=>?b⟩
 case b=>rw[vP];unfold cQ;simp only[AR,AB];rfl
 ·exact⟨by kernel_rfl,by kernel_rfl,yW _ 8 (fun i=>((([1779033703,3144134277,1013904242,2773480762,1359893119,2600822924,528734635,1541459225]:List W32).getD i 0).toNat:Int)) (by kernel_rfl),yW _ 64 (fun i=>((ksW.getD i 0).toNat:Int)) (by kernel_rfl)⟩
end
section
variable {R:Type} {N:Nat}
def FT (n:Nat) (p:C):Prop:=∃l:List C,p= .agg l/\l.length=n/\∀c∈l,Dd c
theorem uQ (n B:Nat) (hB:n<=B) (p:C) (hp:FT n p):Kt B [bw (cut (ax p) 0 n)]/\cut (ax p) 0 n=ax p:=by
 obtain⟨l,rfl,hl,hb⟩:=hp;have e:cut l 0 n=l:=by unfold cut;simp;exact List.take_of_length_le (by omega)
 show Kt B [bw (cut l 0 n)]/\cut l 0 n=l;rw[e];refine⟨fun x hx=>?_,rfl⟩;rw[List.mem_singleton.1 hx];exact⟨rfl,by simpa[AO]using hb,by rw[AO];omega⟩
theorem bI (d:C) (l:List C):(Fg d [bw l]).length=l.length+6:=by unfold Fg ES;simp[Ky,AO];omega
theorem jM {n:Nat} {p:C} (h:FT n p):p.elems.length=n/\p= .agg p.elems/\∀c∈p.elems,Dd c:=by obtain⟨l,rfl,hl,hb⟩:=h;exact⟨hl,rfl,hb⟩
end
def WR (a0 a1:C) (k1:KD R):Option R:=Pv N a0 (bc 6) (bw [bw (cut (ax a1) 0 32)]) (fun J m1=>(k1 [U J 0] []))
def Pw:=lid "" (@WR R N)
theorem cS {R N a0 a1 k}:@Pw R N a0 a1 k=WR N a0 a1 k:=by unfold Pw;rw[BQ]
def q6F:OvG R:=Bq [Bf,.arr 32 (.int .u8)] (FH (Pw N)) (DM (ca 32 (bm cq)))
theorem q6G:okX 91 (@q6F R N):=CV (BJ (q6E N) <| BT) N [(91,[(0,[(2,5),(3,5)]),(1,[(8,7)])])] [(91,[([9],⟨[],[(4,.as (.ptr (.l 4) [] (.arr 32 (.int .u8))))],[],[(.l 4,.box (.d (.arr 32 (.int .u8))))],[],[]⟩)])] (fun _ _=>cS)
def q7c:List Sh:=[.as (.ptr (.g (.l 1)) [] Bc),.d (.arr 32 (.int .u8))]
def q7e:List (Key × OSh):=[(.l 1,.box (.agg Bc [.d Bf,.ts 72 Bw]))]
def KW {R:Type} (N:Nat) (b0:C) (k1:KD R) (k2:KD R):KD R->KD R:=fun k3 J m1=>(bif decide (aq (U J 1)<(↑(au (ax b0)):Int))then(if 0<=aq (U J 1)/\aq (U J 1)<(↑(au (ax b0)):Int)then(bif tc (bj (bt (ax b0) (av (aq (U J 1))) dj) 0) (U J 0)then(k1 [U J 1] [])else(k3 [U J 0,bc (ar ba (aq (U J 1)+1))] []))else none)else(k2 [] []))
def WY (a0 a1 b0 b1:C) (k1:KD R):Option R:=jn (fun J m1=>(k1 [bc (-1)] [])) (fun k2=>(BR N (KW N b0 k1 k2) [a0,bc 0] []))
def NY:=lid "" (@WY R N)
theorem dB {R N a0 a1 b0 b1 k}:@NY R N a0 a1 b0 b1 k=WY N a0 a1 b0 b1 k:=by unfold NY;rw[BQ]
def q7d:OvG R:=Cu q7c q7e (fun ds ms=>NY N (U ds 0) (U ds 1) (U ds 2) (U ds 3)) fun ds ms K J m1=>K (V.d (bm ba) (U J 0)) []
theorem vV:okX 81 (@q7d R N):=Cv BT N [(81,[(0,[(3,5)])])] [(81,[([1,0,1],⟨[0],[],[],[],[.g (.l 1)],[]⟩),
  ([4,1,0,1],⟨[0,3],[(5,.d (.int .i64))],[],[],[.g (.l 1)],[]⟩),
  ([9],⟨[],[(4,.d (.int .i64))],[],[],[.g (.l 1)],[]⟩)])] (fun _ _ _=>dB)
def q7j:List Sh:=[.as (.ptr (.g (.l 1)) [] Bc),.d (.arr 32 (.int .u8)),.d (.int .u64)]
def q7m:List (Key × OSh):=[(.l 1,.box (.agg Bc [.d Bf,.ts 72 Bw]))]
def Sp (a0 a1 a2 b0 b1:C) (k1:KD R):Option R:=Pw N a2 a0 (fun J m1=>(NY N (U J 0) a2 (bw (ax b0)) dj (fun I m2=>(bif decide (0<=aq (U I 0))then(k1 [bc 7,a2,bw (ax b0)] [])else(bif df (au (ax b0)) (au (ax b0))then(if(au (ax b0)+1)*72<=140737488355328/\au (ax b0)+1<=9223372036854775807 then(bif df (au (ax b0)+1) (au (ax b0++[cn (cn (cn (dc [dc (bp 32 (bc 0)),dc (bp 32 (bc 0)),bc 0]) 0 (U J 0)) 1 a0) 2 a1]))then(k1 [bc 0,a2,bw (ax b0++[cn (cn (cn (dc [dc (bp 32 (bc 0)),dc (bp 32 (bc 0)),bc 0]) 0 (U J 0)) 1 a0) 2 a1])] [])else none)else none)else none)))))
def NZ:=lid "" (@Sp R N)
theorem WZ {R N a0 a1 a2 b0 b1 k}:@NZ R N a0 a1 a2 b0 b1 k=Sp N a0 a1 a2 b0 b1 k:=by unfold NZ;rw[BQ]
def q7k:OvG R:=Cu q7j q7m (fun ds ms=>NZ N (U ds 0) (U ds 1) (U ds 2) (U ds 3) (U ds 4)) fun ds ms K J m1=>K (V.d (bm ba) (U J 0)) [(dp (ch 1),dy (mf Bc [V.d Bf (U J 1),V.ts 72 Bw (ax (U J 2))]))]
theorem q7l:okX 74 (@q7k R N):=Cv (BJ (vV N) <| BJ (q6G N) <| BT) N [(74,[(0,[(4,5)]),(1,[(13,7)]),(4,[(7,6)])])] [(74,[([9],⟨[],[(6,.d (.int .i64))],[.g (.l 1)],[(.g (.l 1),.box (.agg Bc [.d Bf,.ts 72 Bw]))],[],[]⟩)])] (fun _ _ _=>WZ)
section
variable {R:Type} {N:Nat}
def Sd:Es->C->C->Es
 | [],c,v=>[(c,v)]|(k,u)::l,c,v=>if tc c k=true then(k,v)::l else(k,u)::Sd l c v
theorem vD (τ:Ty) (c v:C):∀m:Es,Ge (dE τ m) c (V.d τ v)=dE τ (Sd m c v)
 | []=>rfl|(k,u)::m=>by have ih:=vD τ c v m;simp only[dE,dt,Ge,Sd]at ih ⊢;by_cases h:tc c k=true;{simp[h]};{simp[h,ih]}
abbrev Ent:=C × C × Int
def DL (e:Ent):C:=.agg [e.1,e.2.1,.int e.2.2]
def Cm (e:Ent):C × C:=(e.1,.agg [e.2.1,.int e.2.2])
def FE (x:C):List Ent->Option Nat
 | []=>none|e::l=>if tc x e.1=true then some 0 else(FE x l).map (·+1)
theorem q59 (x:C) (e:Ent) (l:List Ent):FE x (e::l)=if tc x e.1=true then some 0 else(FE x l).map (·+1):=rfl
theorem uZ {x:C}:∀{l:List Ent} {i:Nat},FE x l=some i->i<l.length
 | [],i,h=>by cases h
 |e::l,i,h=>by unfold FE at h;split at h;{cases h;simp};{obtain⟨j,hj,rfl⟩:=ed.1 h;have:=uZ hj;simp;omega}
def zE:Ent:=(.nil,.nil,0)
theorem ZT (x:C):∀l:List Ent,Ff (l.map Cm) x=(FE x l).isSome
 | []=>rfl|e::l=>by have ih:=ZT x l;simp only[dt,Cm,Ff,FE]at ih ⊢;cases h:tc x e.1 <;> simp[ih]
theorem oI (x:C):∀(l:List Ent) (i:Nat),FE x l=some i->getM (l.map Cm) x= .agg [(l.getD i zE).2.1,.int (l.getD i zE).2.2]
 | [],i,h=>by cases h
 |e::l,i,h=>by have ih:=oI x l;unfold FE at h;simp only[dt,Cm,getM]at ih ⊢;split at h;{rename_i he;cases h;simp[he]};{rename_i he;obtain⟨j,hj,rfl⟩:=ed.1 h;simp[he,ih j hj]}
theorem vB (x:C) (s:C) (t:Int):∀l:List Ent,FE x l=none->Sd (l.map Cm) x (.agg [s,.int t])=(l++[(x,s,t)]).map Cm
 | [],_=>rfl|e::l,h=>by
  unfold FE at h;split at h;{cases h}
  ·rename_i he;have hn:FE x l=none:=by simpa using h
   simp only[dt,List.cons_append,Cm,Sd,if_neg he];exact congrArg _ (vB x s t l hn)
theorem oC {l:List Ent} {i:Nat} (h:i<l.length):(l.map DL).getD i .nil=DL (l.getD i zE):=by rw[bq,List.getElem?_map,bq,bo h];rfl
def Ut (x:C) (l:List Ent):Int:=match FE x l with|some i=>i|none=>-1
theorem Z3 (a b:C):tc a b=tc b a:=by rw[iZ,iZ,decide_eq_decide];exact eq_comm
theorem nM (x:C) (l:List Ent) (hl:l.length<4611686018427387904) (k1 k2:KD R):∀(m i M:Nat),i+m=l.length->m<M->
  BR M (KW N (.slice (l.map DL)) k1 k2) [x,.int i] []=(match FE x (l.drop i)with|some j=>k1 [.int ((i+j:Nat):Int)] [] |none=>k2 [] [])
 |0,i,M,hi,hM=>by
  obtain⟨M,rfl⟩:∃a,M=a+1:=⟨M-1,by omega⟩;have e1:¬(i:Int)<(l.length:Int):=by omega
  rw[Dl,List.drop_of_length_le (by omega)];unfold KW;simp only[AF,AH,AG,AO,fg,e1,AE,AB];rfl
 |m+1,i,M,hi,hM=>by
  obtain⟨M,rfl⟩:∃a,M=a+1:=⟨M-1,by omega⟩;have e1:(i:Int)<(l.length:Int):=by omega
  have hil:i<l.length:=by omega
  have ih:=nM x l hl k1 k2 m (i+1) M (by omega) (by omega);have hd:l.drop i=l.getD i zE::l.drop (i+1):=by rw[List.drop_eq_getElem_cons hil,bq,bo hil];rfl
  have hg:bj (DL (l.getD i zE)) 0=(l.getD i zE).1:=rfl;have one:∀rec:KD R,KW N (.slice (l.map DL)) k1 k2 rec [x,.int i] []=if tc x (l.getD i zE).1=true then k1 [.int i] []else rec [x,.int ((i+1:Nat):Int)] []:=fun rec=>by unfold KW;simp only[AF,AH,AG,AO,fg,e1,AE,bz,and_self,bb,oC hil,hg,Bp (show i<4611686018427387904 by omega),AB];rw[Z3];cases h:tc x (l.getD i zE).1 <;> simp
  rw[Dl,one,hd,ih,q59];by_cases h:tc x (l.getD i zE).1=true;{rw[if_pos h,if_pos h];rfl};{rw[if_neg h,if_neg h];cases hp:FE x (l.drop (i+1))with|none=>rfl|some j=>simp only[Option.map_some];rw[show i+1+j=i+(j+1) by omega]}
theorem nH (x:C) (l:List Ent) (hl:l.length<4611686018427387904) (hN:l.length<N) (a c:C) (k:KD R):NY N x a (.slice (l.map DL)) c k=k [.int (Ut x l)] []:=by
 rw[dB];unfold WY;simp only[AR,AB];refine(nM x l hl _ _ l.length 0 N (by omega) hN).trans ?_;unfold Ut;rw[List.drop_zero];cases FE x l with
 |none=>rfl|some j=>simp only[bf,AF]
def Hq (s:C):C:=QS (Fg (.int 6) [bw (ax s)])
theorem yK:Dd (.int 6):=⟨rfl,by decide,by decide⟩
theorem q37 (s:C) (hs:FT 32 s) (hN:5000<N) (hN2:N<4611686018427387904) (k:KD R):PW N s k=k [Hq s] []:=by obtain⟨hp,hc⟩:=uQ 32 100 (by omega) s hs;have hl:=(jM hs).1;have hc:cut s.elems 0 32=s.elems:=hc;rw[aR];unfold Vd Hq;have:=p9 (R:=R) (N:=N) (.int 6) yK [bw (cut (ax s) 0 32)] 100 hp (by simp;omega) (by omega) hN2 (by rw[hc,bI];omega);rw[hc]at this ⊢;rw[this];rfl
theorem q36 (t:C) (ht:GB t) (s:C) (hs:FT 32 s) (hN:5000<N) (k:KD R):Pw N t s k=k [Hq s] []:=by obtain⟨hp,hc⟩:=uQ 32 100 (by omega) s hs;have hl:=(jM hs).1;have hc:cut s.elems 0 32=s.elems:=hc;rw[cS];unfold WR Hq;have:=p8 (R:=R) (N:=N) t ht (.int 6) yK [bw (cut (ax s) 0 32)] 100 hp (by omega) (by simp) (by rw[hc,bI];omega) (by rw[hc,bI];simp;omega);rw[hc]at this ⊢;rw[this];rfl
def Jo (l:List Ent) (s:C) (t:Int):Int × List Ent:=match FE (Hq s) l with|some _=>(7,l)|none=>(0,l++[(Hq s,s,t)])
theorem q9D (s:C) (hs:FT 32 s) (t a b:C) (ht:t= .int t.toInt) (l:List Ent) (hN:5000<N) (hN2:N<4611686018427387904) (k:KD R):
  NR N s t a b (l.map Cm) k=k [.int (Jo l s t.toInt).1] [(Jo l s t.toInt).2.map Cm]:=by
 rw[Vu];unfold SQ;have e:dm [(l.map Cm)] 0=l.map Cm:=rfl;simp only[q37 s hs hN hN2,AF,e,BM,PJ,vD,Ae,Af,ZT];unfold Jo;cases hp:FE (Hq s) l with
 |some i=>simp only[qf,AE,AB]|none=>
  have zi:cn (cn (dc [dc (bp 32 (bc 0)),bc 0]) 0 s) 1 t= .agg [s,.int t.toInt]:=by rw[<-ht];rfl
  simp only[qe,AE,zi,vB (Hq s) s t.toInt l hp,AB]
theorem q8q (s:C) (hs:FT 32 s) (t:C) (ht:t= .int t.toInt) (T:C) (hT:GB T) (l:List Ent) (hl:l.length<=1000) (hN:5000<N) (b1:C) (k:KD R):
  NZ N s t T (.slice (l.map DL)) b1 k=k [.int (Jo l s t.toInt).1,T,.slice ((Jo l s t.toInt).2.map DL)] []:=by
 rw[WZ];unfold Sp;have hf:=fun(a c:C) (k:KD R)=>nH (N:=N) (Hq s) l (by omega) (by omega) a c k;simp only[q36 T hT s hs hN,AF,AO,hf,AG,AB];unfold Jo Ut;cases hp:FE (Hq s) l with
 |some i=>
  have:(0:Int)<=(i:Int):=by omega
  simp only[this,AE]
 |none=>
  have h0:¬(0:Int)<=-1:=by decide
  have g1:(l.length+1)*72<=140737488355328/\l.length+1<=9223372036854775807:=by omega
  have zi:cn (cn (cn (dc [dc (bp 32 (bc 0)),dc (bp 32 (bc 0)),bc 0]) 0 (Hq s)) 1 s) 2 t=DL (Hq s,s,t.toInt):=by unfold DL;rw[<-ht];rfl
  simp only[h0,AE,fg,br,cg,cr,bf,bh,g1,and_self,List.map_append,dt,List.map_nil,zi,AB]
theorem yZ (l:List Ent) (s:C) (t:Int):(Jo l s t).2.length<=l.length+1:=by unfold Jo;cases FE (Hq s) l <;> simp
end
def q7f:List Sh:=[.as (.ptr (.g (.l 1)) [] Bc),.d CR,.d (.int .u64)]
def q7i:List (Key × OSh):=[(.l 1,.box (.agg Bc [.d Bf,.ts 72 Bw]))]
def dC (a0 a1 b0 b1:C) (k1:KD R):Option R:=NY N (bj a0 3) b0 (bw (ax b1)) dj (fun J m1=>(jn (fun I m2=>(bif dg (U I 2)then(k1 [bc 1] [])else(bif decide (aq (bj (U I 1) 4)<aq (U I 0))then(k1 [bc 2] [])else(k1 [bc 0] [])))) (fun k2=>(bif decide (0<=aq (U J 0))then(if 0<=aq (U J 0)/\aq (U J 0)<(↑(au (ax b1)):Int)then(k2 [a1,a0,de (decide (aq (bj (bt (ax b1) (av (aq (U J 0))) dj) 2)<=aq (bj a0 4)))] [])else none)else(k2 [a1,a0,de false] [])))))
def Sn:=lid "" (@dC R N)
theorem vX {R N a0 a1 b0 b1 k}:@Sn R N a0 a1 b0 b1 k=dC N a0 a1 b0 b1 k:=by unfold Sn;rw[BQ]
def q7g:OvG R:=Cu q7f q7i (fun ds ms=>Sn N (U ds 0) (U ds 1) (U ds 2) (U ds 3)) fun ds ms K J m1=>K (V.d (bm ba) (U J 0)) []
theorem q7h:okX 62 (@q7g R N):=Cv (BJ (vV N) <| BT) N [(62,[(0,[(4,5)])])] [(62,[([0,0,1,1],⟨[0,2,4],[(26,.d .bool)],[],[],[.g (.l 1)],[]⟩),
  ([9],⟨[],[(6,.d (.int .i64))],[],[],[.g (.l 1)],[]⟩)])] (fun _ _ _=>vX)
section
variable {R:Type} {N:Nat}
theorem q8l (c:C) (ya:C) (l:List Ent) (hl:l.length<=1000) (hN:5000<N) (b0:C) (k:KD R):
  Sn N c ya b0 (.slice (l.map DL)) k=k [.int (ofP (l.map Cm) c ya.toInt)] []:=by
 have hf:=fun(a d:C) (k:KD R)=>nH (N:=N) (c.get 3) l (by omega) (by omega) a d k;rw[vX];unfold dC ofP;simp only[AR,AO,hf,AF,AG,ZT,AB];unfold Ut;cases hp:FE (c.get 3) l with
 |none=>
  have h0:¬(0:Int)<=-1:=by decide
  simp only[h0,AE,AF,AH,AJ,AX,AG,qe,Bool.false_eq_true,false_and,AB];by_cases h2:(c.get 4).toInt<ya.toInt;{simp only[h2,AE,AB]};{simp only[h2,AE]}
 |some i=>
  have hi:=uZ hp;have h0:(0:Int)<=(i:Int):=by omega
  have h1:(0:Int)<=(i:Int)/\(i:Int)<((l.map DL).length:Int):=by rw[fg];omega
  have hg:=oI (c.get 3) l i hp;have g2:bj (DL (l.getD i zE)) 2= .int (l.getD i zE).2.2:=rfl;have g1:bj (.agg [(l.getD i zE).2.1,.int (l.getD i zE).2.2]) 1= .int (l.getD i zE).2.2:=rfl;simp only[h0,h1,AE,and_self,AF,AH,AJ,AX,AG,bb,oC hi,g2,g1,hg,qf,true_and,AB];by_cases h3:(l.getD i zE).2.2<=(c.get 4).toInt;{simp only[h3,AE,AB]};{simp only[h3,AE];by_cases h2:(c.get 4).toInt<ya.toInt;{simp only[h2,AE,AB]};{simp only[h2,AE]}}
end
def Zj {R:Type} (N:Nat) (a0:C) (k1:KD R):Option R:=k1 [cn (cn (cn (cn (cn (dc [bc 0,bc 0,bc 0,dc (bp 32 (bc 0)),bc 0]) 0 (bj a0 0)) 1 (bj a0 1)) 2 (bj a0 2)) 3 (bj a0 3)) 4 (bj a0 4)] []
def PO:=lid "" (@Zj R N)
theorem qD {R N a0 k}:@PO R N a0 k=Zj N a0 k:=by unfold PO;rw[BQ]
def q3w:OvG R:=Bq [CR] (EK (PO N)) (DM CR)
theorem qC:okX 32 (@q3w R N):=CV BT N [(32,[(0,[(1,5)])])] [(32,[([9],⟨[],[(2,.as (.ptr (.l 2) [] CR))],[],[(.l 2,.box (.d CR))],[],[]⟩)])] (fun _ _=>qD)
def VO (k2:KD R):KD R->KD R:=fun k3 J m1=>(bif decide (aq (U J 2)<aq (U J 1))then(if 0<=aq (U J 2)/\aq (U J 2)<(↑(au (ax (U J 0))):Int)then(PO N (bt (ax (U J 0)) (av (aq (U J 2))) dj) (fun I m2=>(bif df (au (ax (U J 7))) (au (ax (U J 7)))then(if(au (ax (U J 7))+1)*64<=140737488355328/\au (ax (U J 7))+1<=9223372036854775807 then(bif df (au (ax (U J 7))+1) (au (ax (U J 7)++[U I 0]))then(k3 [U J 0,U J 1,bc (ar ba (aq (U J 2)+1)),U J 3,U J 4,U J 5,U J 6,bw (ax (U J 7)++[U I 0]),U J 8] [])else none)else none)else none)))else none)else(k2 [U J 3,U J 4,U J 5,U J 6,bw (ax (U J 7)),U J 8] []))
def Zl (a0:C) (k1:KD R):Option R:=jn (fun J m1=>(k1 [dc [U J 0,U J 1,U J 2,U J 3,bw (ax (U J 4))]] [])) (fun k2=>(BR N (VO N k2) [bj a0 4,bc (↑(au (ax (bj a0 4))):Int),bc 0,bj a0 0,bj a0 1,bj a0 2,bj a0 3,bw [],dc [AI (bm ct),AI (bm ay),AI (ca 2 (bm ay)),AI (ca 2 (bm ay)),bw []]] []))
def PQ:=lid "" (@Zl R N)
theorem qF {R N a0 k}:@PQ R N a0 k=Zl N a0 k:=by unfold PQ;rw[BQ]
def q3A:OvG R:=Bq [Bo] (EK (PQ N)) (DM Bo)
theorem q3C:okX 9 (@q3A R N):=CV (BJ (qC N) <| BT) N [(9,[(0,[(1,5)]),(5,[(25,7),(5,6)])])] [(9,[([1,0,1,1],⟨[2,3],[],[],[(.l 3,.box (.agg Bo [.d (.int .u32),.d (.int .u64),.d (.arr 2 (.int .u64)),.d (.arr 2 (.int .u64)),(.ts 64 CR)]))],[],[]⟩),
  ([4,1,0,1,1],⟨[2,3,16,17],[(18,.d (.int .i64))],[],[(.l 3,.box (.agg Bo [.d (.int .u32),.d (.int .u64),.d (.arr 2 (.int .u64)),.d (.arr 2 (.int .u64)),(.ts 64 CR)]))],[],[]⟩),
  ([9],⟨[],[(2,.as (.ptr (.l 2) [] Bo))],[],[(.l 2,.box (.d Bo))],[],[]⟩)])] (fun _ _=>qF)
def Zk (a0:C) (k1:KD R):Option R:=PO N (bj a0 2) (fun J m1=>(k1 [cn (cn (cn (cn (dc [bc 0,bc 0,dc [bc 0,bc 0,bc 0,dc (bp 32 (bc 0)),bc 0],bc 0]) 0 (bj a0 0)) 1 (bj a0 1)) 2 (U J 0)) 3 (bj a0 3)] []))
def Rs:=lid "" (@Zk R N)
theorem qE {R N a0 k}:@Rs R N a0 k=Zk N a0 k:=by unfold Rs;rw[BQ]
def q3x:OvG R:=Bq [tOp] (EK (Rs N)) (DM tOp)
theorem q3z:okX 10 (@q3x R N):=CV (BJ (qC N) <| BT) N [(10,[(0,[(1,5)]),(1,[(9,7)])])] [(10,[([9],⟨[],[(2,.as (.ptr (.l 2) [] tOp))],[],[(.l 2,.box (.d tOp))],[],[]⟩)])] (fun _ _=>qE)
section
variable {R:Type} {N:Nat}
theorem fI {l:List C} {i:Nat} (hi:i<l.length):l.take (i+1)=l.take i++[l.getD i .nil]:=by rw[List.take_add_one,bo hi,bq,bo hi];rfl
def Tk (c:C):Prop:=c= .agg [c.get 0,c.get 1,c.get 2,c.get 3,c.get 4]
def Tl (o:C):Prop:=o= .agg [o.get 0,o.get 1,o.get 2,o.get 3]/\Tk (o.get 2)
theorem qB (c:C) (h:Tk c) (k:KD R):PO N c k=k [c] []:=by rw[qD];unfold Zj;simp only[IZ,Kf,Kg,Wx,eS];rw[<-h]
theorem q3y (o:C) (h:Tl o) (k:KD R):Rs N o k=k [o] []:=by rw[qE];unfold Zk;rw[qB _ h.2];simp only[AF,IZ,Kf,Kg,Wx];rw[<-h.1]
structure StL (s:C):Prop where
 eta:SOk s
 cs:∀c∈Bh s,Tk c
 ln:(Bh s).length<=1000
theorem q3B (s:C) (h:StL s) (hN:2000<N) (k:KD R):PQ N s k=k [s] []:=by
 have he:=h.eta;have hc:=h.cs;have hl:=h.ln;unfold SOk at he;rw[qF];unfold Zl;rw[AR];unfold Bh at he hc hl;generalize hcs:ax (bj s 4)=cs at*;generalize (dc [AI (bm ct),AI (bm ay),AI (ca 2 (bm ay)),AI (ca 2 (bm ay)),bw []])=Z;have key:=Ee (F:=VO N fun J m1=>k [dc [U J 0,U J 1,U J 2,U J 3,bw (ax (U J 4))]] []) (fun i=>[s.get 4,.int cs.length,.int i,s.get 0,s.get 1,s.get 2,s.get 3,.slice (cs.take i),Z]) (fun _=>[]) cs.length (k [s] []) ?_ ?_ (N:=N) (by omega);{simpa using key}
 ·intro i hi rec;have h1:(i:Int)<(cs.length:Int):=by omega
  have h2:=hc _ (Eb hi);have h3:(cs.take i).length<=1000:=by simp;omega
  have g1:((cs.take i).length+1)*64<=140737488355328/\(cs.take i).length+1<=9223372036854775807:=by omega
  unfold VO;simp only[AF,AH,AJ,AL,AQ,Aa,Ac,Ah,Ai,AG,AO,hcs,h1,g1,AE,bz,and_self,bh,bb,qB _ h2,br,cg,cr,bf,Bp (show i<4611686018427387904 by omega),fI hi,AB]
 ·intro rec;unfold VO;simp only[AF,AH,AJ,AL,AQ,Aa,Ac,Ah,Ai,AG,AO,eg,AE,dh,AB];rw[<-he]
end
def Zi {R:Type} (N:Nat) (a0:C) (k1:KD R):Option R:=k1 [cn (cn (cn (cn (cn (dc [bc 0,bc 0,bc 0,dc (bp 32 (bc 0)),bc 0]) 0 (bj a0 0)) 1 (bj a0 1)) 2 (bj a0 2)) 3 (bj a0 3)) 4 (bj a0 4)] []
def Rr:=lid "" (@Zi R N)
theorem qA {R N a0 k}:@Rr R N a0 k=Zi N a0 k:=by unfold Rr;rw[BQ]
def q3t:OvG R:=Bq [CR] (EK (Rr N)) (DM CR)
theorem q3v:okX 60 (@q3t R N):=CV BT N [(60,[(0,[(1,5)])])] [(60,[([9],⟨[],[(2,.as (.ptr (.l 2) [] CR))],[],[(.l 2,.box (.d CR))],[],[]⟩)])] (fun _ _=>qA)
def VN {R:Type} (N:Nat) (k2:KD R):KD R->KD R:=fun k3 J m1=>(bif decide (aq (U J 1)<32)then(if 0<=aq (U J 1)/\aq (U J 1)<32 then(if 0<=aq (U J 1)/\aq (U J 1)<32 then(if 0<=aq (U J 1)/\aq (U J 1)<32 then(if 0<=aq (U J 1)/\aq (U J 1)<32 then(k3 [U J 0,bc (ar ba (aq (U J 1)+1)),U J 2,cn (cn (U J 3) 0 (cn (bj (U J 3) 0) (av (aq (U J 1))) (bj (bj (U J 0) 0) (av (aq (U J 1)))))) 1 (cn (bj (cn (U J 3) 0 (cn (bj (U J 3) 0) (av (aq (U J 1))) (bj (bj (U J 0) 0) (av (aq (U J 1)))))) 1) (av (aq (U J 1))) (bj (bj (U J 0) 1) (av (aq (U J 1)))))] [])else none)else none)else none)else none)else(k2 [U J 2,U J 3] []))
def Zg (a0:C) (k1:KD R):Option R:=jn (fun J m1=>(k1 [U J 1] [])) (fun k2=>(BR N (VN N k2) [a0,bc 0,dc [dc (bp 32 (dc (bp 16 (bc 0)))),dc (bp 32 (dc (bp 16 (bc 0))))],dc [dc (bp 32 (dc (bp 16 (bc 0)))),dc (bp 32 (dc (bp 16 (bc 0))))]] []))
def Rp:=lid "" (@Zg R N)
theorem pW {R N a0 k}:@Rp R N a0 k=Zg N a0 k:=by unfold Rp;rw[BQ]
def q3n:OvG R:=Bq [Du] (EK (Rp N)) (DM Du)
theorem q3o:okX 80 (@q3n R N):=CV BT N [(80,[(0,[(1,5)])])] [(80,[([1,0,1,1],(Cz [2,3] [])),
  ([4,1,0,1,1],(Cz [1,2,3] [(5,.d (.int .i64))])),
  ([9],⟨[],[(2,.as (.ptr (.l 2) [] Du))],[],[(.l 2,.box (.d Du))],[],[]⟩)])] (fun _ _=>pW)
def pX {R:Type} (N:Nat) (k2:KD R):KD R->KD R:=fun k3 I m2=>(bif decide (aq (U I 2)<aq (U I 1))then(if 0<=aq (U I 2)/\aq (U I 2)<(↑(au (ax (U I 0))):Int)then(bif df (au (ax (U I 5))) (au (ax (U I 5)))then(if(au (ax (U I 5))+1)*32<=140737488355328/\au (ax (U I 5))+1<=9223372036854775807 then(bif df (au (ax (U I 5))+1) (au (ax (U I 5)++[bt (ax (U I 0)) (av (aq (U I 2))) dj]))then(k3 [U I 0,U I 1,bc (ar ba (aq (U I 2)+1)),U I 3,U I 4,bw (ax (U I 5)++[bt (ax (U I 0)) (av (aq (U I 2))) dj]),U I 6] [])else none)else none)else none)else none)else(k2 [U I 3,U I 4,bw (ax (U I 5)),U I 6] []))
def Zh (a0:C) (k1:KD R):Option R:=Rp N (bj a0 0) (fun J m1=>(jn (fun I m2=>(k1 [dc [U I 0,U I 1,bw (ax (U I 2))]] [])) (fun k2=>(BR N (pX N k2) [bj a0 2,bc (↑(au (ax (bj a0 2))):Int),bc 0,U J 0,bj a0 1,bw [],dc [dc [dc (bp 32 (dc (bp 16 (bc 0)))),dc (bp 32 (dc (bp 16 (bc 0))))],AI (bm ct),bw []]] []))))
def Rq:=lid "" (@Zh R N)
theorem pY {R N a0 k}:@Rq R N a0 k=Zh N a0 k:=by unfold Rq;rw[BQ]
def q3q:OvG R:=Bq [Cq] (EK (Rq N)) (DM Cq)
theorem q3r:okX 61 (@q3q R N):=CV (BJ (q3o N) <| BT) N [(61,[(0,[(1,5)]),(1,[(8,7)])])] [(61,[([1,0,1,1],⟨[2,3],[],[],[(.l 3,.box (.agg Cq [.d Du,.d (.int .u32),(.ts 32 (.arr 32 (.int .u8)))]))],[],[]⟩),
  ([4,1,0,1,1],⟨[2,3,13,14],[(15,.d (.int .i64))],[],[(.l 3,.box (.agg Cq [.d Du,.d (.int .u32),(.ts 32 (.arr 32 (.int .u8)))]))],[],[]⟩),
  ([9],⟨[],[(2,.as (.ptr (.l 2) [] Cq))],[],[(.l 2,.box (.d Cq))],[],[]⟩)])] (fun _ _=>pY)
def VP {R:Type} (N:Nat) (k2:KD R):KD R->KD R:=fun k3 d3 m3=>(bif decide (aq (U d3 2)<aq (U d3 1))then(if 0<=aq (U d3 2)/\aq (U d3 2)<(↑(au (ax (U d3 0))):Int)then(bif df (au (ax (U d3 7))) (au (ax (U d3 7)))then(if(au (ax (U d3 7))+1)*24<=140737488355328/\au (ax (U d3 7))+1<=9223372036854775807 then(bif df (au (ax (U d3 7))+1) (au (ax (U d3 7)++[cn (cn (cn (dc [bc 0,bc 0,bc 0]) 0 (bj (bt (ax (U d3 0)) (av (aq (U d3 2))) dj) 0)) 1 (bj (bt (ax (U d3 0)) (av (aq (U d3 2))) dj) 1)) 2 (bj (bt (ax (U d3 0)) (av (aq (U d3 2))) dj) 2)]))then(k3 [U d3 0,U d3 1,bc (ar ba (aq (U d3 2)+1)),U d3 3,U d3 4,U d3 5,U d3 6,bw (ax (U d3 7)++[cn (cn (cn (dc [bc 0,bc 0,bc 0]) 0 (bj (bt (ax (U d3 0)) (av (aq (U d3 2))) dj) 0)) 1 (bj (bt (ax (U d3 0)) (av (aq (U d3 2))) dj) 1)) 2 (bj (bt (ax (U d3 0)) (av (aq (U d3 2))) dj) 2)]),U d3 8,U d3 9] [])else none)else none)else none)else none)else(k2 [U d3 3,U d3 4,U d3 5,U d3 6,bw (ax (U d3 7)),U d3 8,U d3 9] []))
def Zm (a0:C) (k1:KD R):Option R:=Rr N (bj (bj a0 3) 2) (fun J m1=>(Rq N (bj a0 5) (fun I m2=>(jn (fun d3 m3=>(k1 [dc [U d3 0,U d3 1,U d3 2,U d3 3,bw (ax (U d3 4)),U d3 5]] [])) (fun k2=>(BR N (VP N k2) [bj a0 4,bc (↑(au (ax (bj a0 4))):Int),bc 0,bj a0 0,bj a0 1,bj a0 2,cn (cn (cn (cn (dc [bc 0,bc 0,dc [bc 0,bc 0,bc 0,dc (bp 32 (bc 0)),bc 0],bc 0]) 0 (bj (bj a0 3) 0)) 1 (bj (bj a0 3) 1)) 2 (U J 0)) 3 (bj (bj a0 3) 3),bw [],U I 0,dc [AI (bm ba),AI (bm ct),AI (bm ay),dc [bc 0,bc 0,dc [bc 0,bc 0,bc 0,dc (bp 32 (bc 0)),bc 0],bc 0],bw [],dc [dc [dc (bp 32 (dc (bp 16 (bc 0)))),dc (bp 32 (dc (bp 16 (bc 0))))],AI (bm ct),bw []]]] []))))))
def Rt:=lid "" (@Zm R N)
theorem qG {R N a0 k}:@Rt R N a0 k=Zm N a0 k:=by unfold Rt;rw[BQ]
def q3D:OvG R:=Bq [Dp] (EK (Rt N)) (DM Dp)
theorem q3F:okX 37 (@q3D R N):=CV (BJ (q3v N) <| BJ (q3r N) <| BT) N [(37,[(0,[(1,5)]),(1,[(21,7),(28,7)])])] [(37,[([1,0,1,1],⟨[2,3],[],[],[(.l 3,.box (.agg Dp [.d (.int .i64),.d (.int .u32),.d (.int .u64),.d tOp,(.ts 24 DJ),.d Cq]))],[],[]⟩),
  ([4,1,0,1,1],⟨[2,3,31,32],[(33,.d (.int .i64))],[],[(.l 3,.box (.agg Dp [.d (.int .i64),.d (.int .u32),.d (.int .u64),.d tOp,(.ts 24 DJ),.d Cq]))],[],[]⟩),
  ([9],⟨[],[(2,.as (.ptr (.l 2) [] Dp))],[],[(.l 2,.box (.d Dp))],[],[]⟩)])] (fun _ _=>qG)
def VR (k2:KD R):KD R->KD R:=fun k3 J m1=>(bif decide (aq (U J 3)<aq (U J 1))then(gB (aq (U J 3)) ((↑(au (ax (U J 0))):Int)) (Rt N (dc [AI (bm ba),AI (bm ct),AI (bm ay),bj (bt (ax (U J 0)) (av (aq (U J 3))) dj) 0,bj (bt (ax (U J 0)) (av (aq (U J 3))) dj) 1,dc [dc [dc (bp 32 (dc (bp 16 (bc 0)))),dc (bp 32 (dc (bp 16 (bc 0))))],AI (bm ct),bw []]]) (fun I m2=>(gN (au (ax (U J 2))) (gL (au (ax (U J 2))) 112 (bif df (au (ax (U J 2))+1) (au (ax (U J 2)++[dc [bj (U I 0) 3,bj (U I 0) 4]]))then(k3 [U J 0,U J 1,bw (ax (U J 2)++[dc [bj (U I 0) 3,bj (U I 0) 4]]),bc (ar ba (aq (U J 3)+1))] [])else none))))))else(gN (au (ax (U J 2))) (k2 [bw (ax (U J 2))] [])))
def Zp (a0:C) (k1:KD R):Option R:=jn (fun J m1=>(gN (au (ax (U J 0))) (k1 [bw (ax (U J 0))] []))) (fun k2=>(BR N (VR N k2) [a0,bc (↑(au (ax a0)):Int),bw [],bc 0] []))
def Ru:=lid "" (@Zp R N)
theorem qI {R N a0 k}:@Ru R N a0 k=Zp N a0 k:=by unfold Ru;rw[BQ]
def q3H:OvG R:=Bq [.slice 112 Cy] (EK (Ru N)) fun a K J m1=>K (V.ts 112 Cy (ax (U J 0))) []
theorem q3I:okX 17 (@q3H R N):=CV (BJ (q3F N) <| BT) N [] [(17,[([1,0,1,1],(Ct [(3,.sl 112 Cy 5003)])),
  ([4,1,0,1,1],(Cz [7,8] [(3,.sl 112 Cy 5003),(9,.d (.int .i64))])),
  ([9],(Ct [(2,.sl 112 Cy 5002)]))])] (fun _ _=>qI) fun a K=>(show _=jn (fun J m1=>(bif df (au (ax (U J 0))) (au (ax (U J 0)))then
  (K (V.ts 112 Cy (ax (U J 0))) [])
 else
  none)) _ by kernel_rfl).trans (congrArg (fun k=>jn k _) (funext fun _=>funext fun _=>by simp only[bh,cond_true]))
def Wb {R:Type} (N:Nat) (k1:KD R) (k4:KD R):KD R->KD R:=fun k5 d3 m3=>(gB (aq (U d3 2)) ((↑(au (ax (U d3 0))):Int)) (bif decide (aq (U d3 3)<(↑(au (ax (bj (bt (ax (U d3 0)) (av (aq (U d3 2))) dj) 1))):Int))then(gB (aq (U d3 2)) ((↑(au (ax (U d3 0))):Int)) (gB (aq (U d3 3)) ((↑(au (ax (bj (bt (ax (U d3 0)) (av (aq (U d3 2))) dj) 1))):Int)) (gB (aq (U d3 2)) ((↑(au (ax (U d3 1))):Int)) (gB (aq (U d3 3)) ((↑(au (ax (bj (bt (ax (U d3 1)) (av (aq (U d3 2))) dj) 1))):Int)) (bif !tc (bt (ax (bj (bt (ax (U d3 0)) (av (aq (U d3 2))) dj) 1)) (av (aq (U d3 3))) dj) (bt (ax (bj (bt (ax (U d3 1)) (av (aq (U d3 2))) dj) 1)) (av (aq (U d3 3))) dj)then(k1 [de false] [])else(k5 [U d3 0,U d3 1,U d3 2,bc (ar ba (aq (U d3 3)+1))] []))))))else(k4 [U d3 0,U d3 1,U d3 2] [])))
def Wc (k1:KD R) (k2:KD R):KD R->KD R:=fun k3 J m1=>(bif decide (aq (U J 2)<(↑(au (ax (U J 0))):Int))then(jn (fun I m2=>(bif dg (U I 3)then(k1 [de false] [])else(jn (fun d3 m3=>(k3 [U d3 0,U d3 1,bc (ar ba (aq (U d3 2)+1))] [])) (fun k4=>(BR N (Wb N k1 k4) [U I 0,U I 1,U I 2,bc 0] []))))) (fun k4=>(gB (aq (U J 2)) ((↑(au (ax (U J 0))):Int)) (gB (aq (U J 2)) ((↑(au (ax (U J 1))):Int)) (bif !tc (bj (bt (ax (U J 0)) (av (aq (U J 2))) dj) 0) (bj (bt (ax (U J 1)) (av (aq (U J 2))) dj) 0)then(k4 [U J 0,U J 1,U J 2,de true] [])else(gB (aq (U J 2)) ((↑(au (ax (U J 0))):Int)) (gB (aq (U J 2)) ((↑(au (ax (U J 1))):Int)) (k4 [U J 0,U J 1,U J 2,de !decide ((↑(au (ax (bj (bt (ax (U J 0)) (av (aq (U J 2))) dj) 1))):Int)=(↑(au (ax (bj (bt (ax (U J 1)) (av (aq (U J 2))) dj) 1))):Int))] []))))))))else(k2 [] []))
def dK (a0 a1:C) (k1:KD R):Option R:=bif !decide ((↑(au (ax a0)):Int)=(↑(au (ax a1)):Int))then(k1 [de false] [])else(jn (fun J m1=>(k1 [de true] [])) (fun k2=>(BR N (Wc N k1 k2) [a0,a1,bc 0] [])))
def Sv:=lid "" (@dK R N)
theorem wL {R N a0 a1 k}:@Sv R N a0 a1 k=dK N a0 a1 k:=by unfold Sv;rw[BQ]
def q7M:OvG R:=Bq [.slice 112 Cy,.slice 112 Cy] (FH (Sv N)) JX
theorem q7N:okX 16 (@q7M R N):=CV BT N [] [(16,[([1,0,1,1],(Ct [])),
  ([4,1,0,1,1],(Cz [0,1] [(5,.d (.int .i64))])),
  ([0,0,4,0,1,5,4,1,0,1,1],(Cz [0,1,5] [(43,.d .bool)])),
  ([1,1,4,0,1,5,4,1,0,1,1],(Cz [0,1,5] [])),
  ([4,1,1,4,0,1,5,4,1,0,1,1],(Cz [0,1,5] [(6,.d (.int .i64))])),
  ([9],(Ct [(4,.d .bool)]))])] (fun _ _=>wL)
section
variable {R:Type} {N:Nat}
def gV (h:C):Prop:=h= .agg [h.get 0,h.get 1,h.get 2]
structure Xf (w:C):Prop where
 eta:w= .agg [w.get 0,.slice (w.get 1).elems]
 op:Tl (w.get 0)
 za:∀h∈(w.get 1).elems,gV h
 len:(w.get 1).elems.length<=60
theorem q3u (c:C) (h:Tk c) (k:KD R):Rr N c k=k [c] []:=by rw[qA];unfold Zi;simp only[IZ,Kf,Kg,Wx,eS];rw[<-h]
def Kn:C:=.agg (bp 32 (.agg (bp 16 (.int 0))))
def HY:C:=.agg [Kn,Kn]
theorem q8S (l:List C) (i:Nat):cn (.agg l) i (bj (.agg l) i)= .agg l:=by show dc (l.set i (l.getD i .nil))= .agg l;congr 1;apply List.ext_getElem?;intro j;rw[List.getElem?_set];split;{rename_i e;subst e;split;{rename_i h;rw[bq,bo h];rfl};{rename_i h;rw[List.getElem?_eq_none (by omega)]}};{rfl}
theorem q3p (hN:100<N) (k:KD R):Rp N HY k=k [HY] []:=by
 rw[pW];unfold Zg;rw[AR];refine Ee (F:=VN N fun J m1=>k [U J 1] []) (fun i=>[HY,.int i,HY,HY]) (fun _=>[]) 32 (k [HY] []) ?_ ?_ (N:=N) (by omega)
 ·intro i hi rec;have h1:(i:Int)<32:=by omega
  have g0:bj HY 0=Kn:=rfl;have s0:cn HY 0 Kn=HY:=rfl;have s1:cn HY 1 Kn=HY:=rfl;have g1:bj HY 1=Kn:=rfl;have e0:cn Kn i (bj Kn i)=Kn:=q8S _ i;unfold VN;simp only[AF,AH,AJ,AL,AG,h1,AE,bz,and_self,bb,g0,g1,e0,s0,s1,Bp (show i<4611686018427387904 by omega),AB]
 ·intro rec;unfold VN;have h:¬((32:Nat):Int)<32:=by decide
  simp only[AF,AH,AJ,AL,AG,h,AE,AB]
def MI:C:=.agg [HY,.int 0,.slice []]
theorem q3s (hN:100<N) (k:KD R):Rq N MI k=k [MI] []:=by obtain⟨n,rfl⟩:∃n,N=n+1:=⟨N-1,by omega⟩;rw[pY];unfold Zh;rw[show bj MI 0=HY from rfl,q3p hN,AR,Dl];unfold pX;simp[MI,go_sem,AG,AO,AB]
theorem q3E (op:C) (l:List C) (ho:Tl op) (h:∀c∈l,gV c) (hl:l.length<=1000) (hN:2000<N) (k:KD R):
  ∃m:C,m.get 3=op/\m.get 4= .slice l/\Rt N (.agg [.int 0,.int 0,.int 0,op,.slice l,MI]) k=k [m] []:=by
 refine⟨.agg [.int 0,.int 0,.int 0,op,.slice l,MI],rfl,rfl,?_⟩;rw[qG];unfold Zm;simp only[Iu,LP,Mn,q2h,oJ,q2i,q3u _ ho.2,q3s (show 100<N by omega),AF,AR,AO,IZ,Kf,Kg,Wx,AB];rw[<-ho.1];generalize (dc [AI (bm ba),AI (bm ct),AI (bm ay),_,_,_])=Z;have key:=Ee (F:=VP N fun d3 m3=>k [dc [U d3 0,U d3 1,U d3 2,U d3 3,bw (ax (U d3 4)),U d3 5]] []) (fun i=>[.slice l,.int l.length,.int i,.int 0,.int 0,.int 0,op,.slice (l.take i),MI,Z]) (fun _=>[]) l.length (k [.agg [.int 0,.int 0,.int 0,op,.slice l,MI]] []) ?_ ?_ (N:=N) (by omega);{simpa using key}
 ·intro i hi rec;have h1:(i:Int)<(l.length:Int):=by omega
  have h2:=h _ (Eb hi);have h3:(l.take i).length<=1000:=by simp;omega
  unfold VP;simp only[AF,AH,AJ,AL,AQ,Aa,Ac,Ah,Ai,Aj,AG,AO,h1,AE,bz,and_self,bh,bb,IZ,Kf,Kg,br,cg,cr,bf,Bp (show i<4611686018427387904 by omega),AB];rw[if_pos (by omega),<-h2,fI hi]
 ·intro rec;unfold VP;simp only[AF,AH,AJ,AL,AQ,Aa,Ac,Ah,Ai,Aj,AG,AO,eg,AE,dh,AB]
theorem o6 (l:List C) (h:∀w∈l,Xf w) (ht:∀w∈l,w.get 1= .slice (w.get 1).elems) (hl:l.length<=1000) (hN:2000<N) (k:KD R):Ru N (.slice l) k=k [.slice l] []:=by
 rw[qI];unfold Zp;simp only[AR,AO,AB];have key:=Ee (F:=VR N fun J m1=>bif df (au (ax (U J 0))) (au (ax (U J 0)))then k [.slice (ax (U J 0))] []else none) (fun i=>[.slice l,.int l.length,.slice (l.take i),.int i]) (fun _=>[]) l.length (k [.slice l] []) ?_ ?_ (N:=N) (by omega);{simpa using key}
 ·intro i hi rec;have h1:(i:Int)<(l.length:Int):=by omega
  have h2:=h _ (Eb hi);have ht2:=ht _ (Eb hi);have h3:(l.take i).length<=1000:=by simp;omega
  unfold VR;simp only[AF,AH,AJ,AL,AG,AO,h1,AE,bz,and_self,bh,bb,AB];rw[fI hi];generalize l.getD i .nil=w at*
  obtain⟨m,m0,m1,m2⟩:=q3E (R:=R) (N:=N) (w.get 0) (w.get 1).elems h2.op h2.za (by have:=h2.len;omega) hN fun I m2=>
     (if(au (l.take i)+1)*112<=140737488355328/\au (l.take i)+1<=9223372036854775807 then
      (bif df (au (l.take i)+1) (au (l.take i++[dc [bj (U I 0) 3,bj (U I 0) 4]]))then
       (rec [.slice l,.int l.length,bw (l.take i++[dc [bj (U I 0) 3,bj (U I 0) 4]]),bc (ar ba ((i:Int)+1))] [])
      else
       none)
     else
      none)
  rw[ht2];refine Eq.trans m2 ?_;simp only[AF,m0,m1,br,cg,cr,bf,bh,cond_true,Bp (show i<4611686018427387904 by omega)];rw[if_pos (by omega),<-h2.eta]
 ·intro rec;unfold VR;simp only[AF,AH,AJ,AL,AG,AO,eg,AE,dh,bh,AB]
theorem u7 (l:List C) (h:∀w∈l,(w.get 1).elems.length<=1000) (hl:l.length<=1000) (hN:2000<N) (k:KD R):Sv N (.slice l) (.slice l) k=k [.bool true] []:=by
 rw[wL];unfold dK;simp only[AR,AO,AE,AB];refine Ee (F:=Wc N k fun J m1=>k [.bool true] []) (fun i=>[.slice l,.slice l,.int i]) (fun _=>[]) l.length (k [.bool true] []) ?_ ?_ (N:=N) (by omega)
 ·intro i hi rec;have h1:(i:Int)<(l.length:Int):=by omega
  have h2:=h _ (Eb hi);unfold Wc;simp only[AR,AF,AH,AJ,AL,AG,AO,AX,h1,AE,bz,and_self,bb,jA,AB];refine Ee (F:=Wb N k fun d3 m3=>rec [U d3 0,U d3 1,bc (ar ba (aq (U d3 2)+1))] []) (fun j=>[.slice l,.slice l,.int i,.int j]) (fun _=>[]) ((l.getD i .nil).get 1).elems.length _ ?_ ?_ (N:=N) (by omega)
  ·intro j hj z8E;have h3:(j:Int)<(((l.getD i .nil).get 1).elems.length:Int):=by omega
   unfold Wb;simp only[AF,AH,AJ,AL,AG,AO,h1,h3,AE,bz,and_self,bb,jA,Bp (show j<4611686018427387904 by omega),AB]
  ·intro z8E;unfold Wb;simp only[AF,AH,AJ,AL,AG,AO,h1,bz,and_self,AE,bb,eg,Bp (show i<4611686018427387904 by omega),AB]
 ·intro rec;unfold Wc;simp only[AF,AH,AJ,AL,AG,AO,eg,AE,AB]
end
def q0s:List Sh:=[.as (.ptr (.g (.l 1)) [] Ba),.d tTx]
def q0v:List (Key × OSh):=[(.l 1,.box (.agg Ba [.as (.ptr (.g (.l 2)) [] BN),.as (.ptr (.g (.l 5)) [] Bz),.d (.int .u64),.d (.int .u64),.vec (.g (.l 7)) 240 AV,.vec (.g (.l 8)) 2368 tTx,.vec (.g (.l 9)) 40 AW])),(.l 2,.box (.agg BN [.vec (.g (.l 3)) 8 (.int .u64),.vec (.g (.l 4)) 8 (.int .u64),.d (.int .u64)])),(.l 3,.box (.arr (.int .u64))),(.l 4,.box (.arr (.int .u64))),(.l 5,.box (.agg Bz [.as (.mp (.g (.l 6)))])),(.l 6,.map (.arr 32 (.int .u8)) AP),(.l 7,.box (.arr AV)),(.l 8,.box (.arr tTx)),(.l 9,.box (.arr AW))]
def YS (a0 b0 b1 b2 b3 b4 b5 b6 b7 b8 b9 b10 b11 b12 b13:C) (m0:Es) (k1:KD R):Option R:=if au (ax b8)=au (ax b8)then(gA b9 (TY N (bj a0 1) (nI b5) (nI b6) b7 b8 b9 (fun J m1=>(bif decide (aq (U J 0)<aq (bj a0 3))then(gA b8 (gA b9 (gM AP m0 (gA b10 (gA b11 (gA b12 (k1 [bc 23,b0,b1,nI b2,nI b3,nI b4,nI b5,nI b6,b7,bc (↑(au (ax b8)):Int),b8,bc (↑(au (ax b9)):Int),b9,bc (↑(au (ax b10)):Int),b10,bc (↑(au (ax b11)):Int),b11,bc (↑(au (ax b12)):Int),b12] [unE (dE AP m0)])))))))else(gA b8 (gA b9 (TZ N (bj a0 1) (bj a0 2) (nI b5) (nI b6) b7 b8 b9 (fun I m2=>(bif !decide (aq (U I 0)=0)then(gA (U I 5) (gA (U I 7) (gM AP m0 (gA b10 (gA b11 (gA b12 (k1 [U I 0,b0,b1,nI b2,nI b3,nI b4,nI (U I 1),nI (U I 2),U I 3,nI (U I 4),U I 5,nI (U I 6),U I 7,bc (↑(au (ax b10)):Int),b10,bc (↑(au (ax b11)):Int),b11,bc (↑(au (ax b12)):Int),b12] [unE (dE AP m0)])))))))else(gA (U I 5) (gA (U I 7) (Nl N (nI (U I 1)) (nI (U I 2)) (U I 3) (U I 5) (U I 7) (fun d3 m3=>(gA (U I 5) (gA (U I 7) (QX N (bj a0 1) (bc (ar ba (aq (U d3 0)-1))) (bj a0 3) (nI (U I 1)) (nI (U I 2)) (U I 3) (U I 5) (U I 7) (fun d4 m4=>(gA (U d4 5) (gA (U d4 7) (gM AP m0 (gA b10 (gA b11 (gA b12 (k1 [U d4 0,b0,b1,nI b2,nI b3,nI b4,nI (U d4 1),nI (U d4 2),U d4 3,nI (U I 4),U d4 5,nI (U I 6),U d4 7,bc (↑(au (ax b10)):Int),b10,bc (↑(au (ax b11)):Int),b11,bc (↑(au (ax b12)):Int),b12] [unE (dE AP m0)]))))))))))))))))))))))))else none
def RB:=lid "" (@YS R N)
theorem kK {R N a0 b0 b1 b2 b3 b4 b5 b6 b7 b8 b9 b10 b11 b12 b13 m0 k}:@RB R N a0 b0 b1 b2 b3 b4 b5 b6 b7 b8 b9 b10 b11 b12 b13 m0 k=YS N a0 b0 b1 b2 b3 b4 b5 b6 b7 b8 b9 b10 b11 b12 b13 m0 k:=by unfold RB;rw[BQ]
def q0t:OvG R:=Cu q0s q0v (fun ds ms=>RB N (U ds 0) (U ds 1) (U ds 2) (U ds 3) (U ds 4) (U ds 5) (U ds 6) (U ds 7) (U ds 8) (U ds 9) (U ds 10) (U ds 11) (U ds 12) (U ds 13) (U ds 14) (dm ms 0)) fun ds ms K J m1=>K (V.d (bm ba) (U J 0)) [(dp (ch 1),
  dy
   (mf Ba
    [V.ptr (dp (ch 2)) [] BN,V.ptr (dp (ch 5)) [] Bz,V.d (bm ay) (U J 1),
     V.d (bm ay) (U J 2),
     oq (ch 1000000000234) [] 0 (av (aq (U J 3))) none 240 AV,
     oq (ch 1000000000266) [] 0 (av (aq (U J 4))) none 2368 tTx,
     oq (ch 1000000000298) [] 0 (av (aq (U J 5))) none 40 AW])),
 (dp (ch 2),
  dy
   (mf BN
    [oq (ch 1000000000106) [] 0 (av (aq (U J 6))) none 8 (bm ay),
     oq (ch 1000000000138) [] 0 (av (aq (U J 7))) none 8 (bm ay),
     V.d (bm ay) (U J 8)])),
 (dp (ch 3),fk (ca (av (aq (U J 9))) (bm ay))),
 (ch 1000000000106,dy (V.d (ca (au (ax (U J 10))) (bm ay)) (U J 10))),
 (dp (ch 4),fk (ca (av (aq (U J 11))) (bm ay))),
 (ch 1000000000138,dy (V.d (ca (au (ax (U J 12))) (bm ay)) (U J 12))),
 (dp (ch 5),dy (mf Bz [V.mp (dp (ch 6))])),
 (dp (ch 6),O.map (ca 32 (bm cq)) AP (dE AP (dm m1 0))),
 (dp (ch 7),fk (ca (av (aq (U J 13))) AV)),
 (ch 1000000000234,dy (V.d (ca (au (ax (U J 14))) AV) (U J 14))),
 (dp (ch 8),fk (ca (av (aq (U J 15))) tTx)),
 (ch 1000000000266,dy (V.d (ca (au (ax (U J 16))) tTx) (U J 16))),
 (dp (ch 9),fk (ca (av (aq (U J 17))) AW)),
 (ch 1000000000298,dy (V.d (ca (au (ax (U J 18))) AW) (U J 18)))]
theorem q0u:okX 69 (@q0t R N):=Cv (BJ (fP N) <| BJ (q9K N) <| BJ (q9X N) <| BJ (zI N) <| BT) N [(69,[(0,[(3,5)])])] [(69,[([9],⟨[],[(4,.d (.int .i64))],[.g (.l 1),.g (.l 2),.g (.l 3),.g (.l 4),.g (.l 5),.g (.l 6),.g (.l 7),.g (.l 8),.g (.l 9)],[],[],[(.int .u64),AV,tTx,AW]⟩)])] (fun _ _ _=>kK)
def q0o:List Sh:=[.as (.ptr (.g (.l 1)) [] Ba),.d tTx]
def q0r:List (Key × OSh):=[(.l 1,.box (.agg Ba [.as (.ptr (.g (.l 2)) [] BN),.as (.ptr (.g (.l 5)) [] Bz),.d (.int .u64),.d (.int .u64),.vec (.g (.l 7)) 240 AV,.vec (.g (.l 8)) 2368 tTx,.vec (.g (.l 9)) 40 AW])),(.l 2,.box (.agg BN [.vec (.g (.l 3)) 8 (.int .u64),.vec (.g (.l 4)) 8 (.int .u64),.d (.int .u64)])),(.l 3,.box (.arr (.int .u64))),(.l 4,.box (.arr (.int .u64))),(.l 5,.box (.agg Bz [.as (.mp (.g (.l 6)))])),(.l 6,.map (.arr 32 (.int .u8)) AP),(.l 7,.box (.arr AV)),(.l 8,.box (.arr tTx)),(.l 9,.box (.arr AW))]
def Jw (a0 b0 b1 b2 b3 b4 b5 b6 b7 b8 b9 b10 b11 b12 b13:C) (m0:Es) (k1:KD R):Option R:=bif decide (16<=(↑(av (aq b2)):Int))then(gA b8 (gA b9 (gM AP m0 (gA b10 (gA b11 (gA b12 (k1 [bc 4,b0,b1,nI b2,nI b3,nI b4,nI b5,nI b6,b7,bc (↑(au (ax b8)):Int),b8,bc (↑(au (ax b9)):Int),b9,bc (↑(au (ax b10)):Int),b10,bc (↑(au (ax b11)):Int),b11,bc (↑(au (ax b12)):Int),b12] [unE (dE AP m0)])))))))else(jn (fun J m1=>(bif dg (U J 1)then(gA (U J 11) (gA (U J 13) (gM AP (dm m1 0) (gA (U J 15) (gA (U J 17) (gA (U J 19) (k1 [bc 1,U J 2,U J 3,nI (U J 4),nI (U J 5),nI (U J 6),nI (U J 7),nI (U J 8),U J 9,nI (U J 10),U J 11,nI (U J 12),U J 13,nI (U J 14),U J 15,nI (U J 16),U J 17,nI (U J 18),U J 19] [unE (dE AP (dm m1 0))])))))))else(OQ N (bc (ar ct (↑(av (aq (U J 4))):Int))) (cn (cn (AI (ca 2 (bm ba))) 0 (bj (U J 0) 1)) 1 (bj (U J 0) 4)) (bj (U J 0) 8) (bj (U J 0) 9) (fun I m2=>(bif !decide (aq (U I 0)=0)then(gA (U J 11) (gA (U J 13) (gM AP (dm m1 0) (gA (U J 15) (gA (U J 17) (gA (U J 19) (k1 [U I 0,U J 2,U J 3,nI (U J 4),nI (U J 5),nI (U J 6),nI (U J 7),nI (U J 8),U J 9,nI (U J 10),U J 11,nI (U J 12),U J 13,nI (U J 14),U J 15,nI (U J 16),U J 17,nI (U J 18),U J 19] [unE (dE AP (dm m1 0))])))))))else(jn (fun d3 m3=>(gL (av (aq (U d3 2))) 240 (gA (U d3 8) (gA (U d3 9) (gM AP (dm m3 0) (if av (aq (U d3 2))+1=au (List.take (av (aq (U d3 2))) (ax (U d3 10))++[U d3 13])then(gA (U d3 11) (gA (U d3 12) (k1 [bc 0,U d3 0,U d3 1,bc (↑(av (aq (U d3 2))+1):Int),nI (U d3 3),nI (U d3 4),nI (U d3 5),nI (U d3 6),U d3 7,nI (U d3 14),U d3 8,nI (U d3 15),U d3 9,nI (U d3 16),dc (List.take (av (aq (U d3 2))) (ax (U d3 10))++[U d3 13]),nI (U d3 17),U d3 11,nI (U d3 18),U d3 12] [unE (dE AP (dm m3 0))])))else none)))))) (fun k2=>(bif decide (0<aq (bj (U J 0) 5))then(OP N (U I 1) (bc 0) (bj (U J 0) 5) (fun d3 m3=>(bif !decide (aq (U d3 0)=0)then(gA (U J 11) (gA (U J 13) (gM AP (dm m1 0) (gA (U J 15) (gA (U J 17) (gA (U J 19) (k1 [U d3 0,U J 2,U J 3,nI (U J 4),nI (U J 5),nI (U J 6),nI (U J 7),nI (U J 8),U J 9,nI (U J 10),U J 11,nI (U J 12),U J 13,nI (U J 14),U J 15,nI (U J 16),U J 17,nI (U J 18),U J 19] [unE (dE AP (dm m1 0))])))))))else(gA (U J 11) (gA (U J 13) (QW N (bj (U J 0) 1) (bj (U J 0) 5) (nI (U J 7)) (nI (U J 8)) (U J 9) (U J 11) (U J 13) (fun d4 m4=>(bif !decide (aq (U d4 0)=0)then(gA (U d4 5) (gA (U d4 7) (gM AP (dm m1 0) (gA (U J 15) (gA (U J 17) (gA (U J 19) (k1 [U d4 0,U J 2,U J 3,nI (U J 4),nI (U J 5),nI (U J 6),nI (U d4 1),nI (U d4 2),U d4 3,nI (U J 10),U d4 5,nI (U J 12),U d4 7,nI (U J 14),U J 15,nI (U J 16),U J 17,nI (U J 18),U J 19] [unE (dE AP (dm m1 0))])))))))else(gA (U d4 5) (gA (U d4 7) (gM AP (dm m1 0) (gA (U J 15) (gA (U J 17) (gA (U J 19) (k2 [U J 2,U J 3,nI (U J 4),nI (U J 5),nI (U J 6),nI (U d4 1),nI (U d4 2),U d4 3,U d4 5,U d4 7,U J 15,U J 17,U J 19,U d3 1,nI (U J 10),nI (U J 12),nI (U J 14),nI (U J 16),nI (U J 18),nI (U J 10),nI (U J 12),nI (U J 14),nI (U J 16),nI (U J 18)] [unE (dE AP (dm m1 0))])))))))))))))))else(gA (U J 11) (gA (U J 13) (gM AP (dm m1 0) (gA (U J 15) (gA (U J 17) (gA (U J 19) (k2 [U J 2,U J 3,nI (U J 4),nI (U J 5),nI (U J 6),nI (U J 7),nI (U J 8),U J 9,U J 11,U J 13,U J 15,U J 17,U J 19,U I 1,nI (U J 10),nI (U J 12),nI (U J 14),nI (U J 16),nI (U J 18),nI (U J 10),nI (U J 12),nI (U J 14),nI (U J 16),nI (U J 18)] [unE (dE AP (dm m1 0))]))))))))))))))) (fun k2=>(bif decide (aq (bj a0 4)<0)then(gA b8 (gA b9 (gM AP m0 (gA b10 (gA b11 (gA b12 (k2 [a0,de true,b0,b1,nI b2,nI b3,nI b4,nI b5,nI b6,b7,bc (↑(au (ax b8)):Int),b8,bc (↑(au (ax b9)):Int),b9,bc (↑(au (ax b10)):Int),b10,bc (↑(au (ax b11)):Int),b11,bc (↑(au (ax b12)):Int),b12] [unE (dE AP m0)])))))))else(gA b8 (gA b9 (Nl N (nI b5) (nI b6) b7 b8 b9 (fun J m1=>(gA b8 (gA b9 (gM AP m0 (gA b10 (gA b11 (gA b12 (k2 [a0,de (decide (ar ba (aq (U J 0)-1)<=aq (bj a0 4))),b0,b1,nI b2,nI b3,nI b4,nI b5,nI b6,b7,bc (↑(au (ax b8)):Int),b8,bc (↑(au (ax b9)):Int),b9,bc (↑(au (ax b10)):Int),b10,bc (↑(au (ax b11)):Int),b11,bc (↑(au (ax b12)):Int),b12] [unE (dE AP m0)]))))))))))))))
def RA:=lid "" (@Jw R N)
theorem LD {R N a0 b0 b1 b2 b3 b4 b5 b6 b7 b8 b9 b10 b11 b12 b13 m0 k}:@RA R N a0 b0 b1 b2 b3 b4 b5 b6 b7 b8 b9 b10 b11 b12 b13 m0 k=Jw N a0 b0 b1 b2 b3 b4 b5 b6 b7 b8 b9 b10 b11 b12 b13 m0 k:=by unfold RA;rw[BQ]
def q0p:OvG R:=Cu q0o q0r (fun ds ms=>RA N (U ds 0) (U ds 1) (U ds 2) (U ds 3) (U ds 4) (U ds 5) (U ds 6) (U ds 7) (U ds 8) (U ds 9) (U ds 10) (U ds 11) (U ds 12) (U ds 13) (U ds 14) (dm ms 0)) fun ds ms K J m1=>K (V.d (bm ba) (U J 0)) [(dp (ch 1),
  dy
   (mf Ba
    [V.ptr (dp (ch 2)) [] BN,V.ptr (dp (ch 5)) [] Bz,V.d (bm ay) (U J 1),
     V.d (bm ay) (U J 2),
     oq (ch 1000000000234) [] 0 (av (aq (U J 3))) none 240 AV,
     oq (ch 1000000000266) [] 0 (av (aq (U J 4))) none 2368 tTx,
     oq (ch 1000000000298) [] 0 (av (aq (U J 5))) none 40 AW])),
 (dp (ch 2),
  dy
   (mf BN
    [oq (ch 1000000000106) [] 0 (av (aq (U J 6))) none 8 (bm ay),
     oq (ch 1000000000138) [] 0 (av (aq (U J 7))) none 8 (bm ay),
     V.d (bm ay) (U J 8)])),
 (dp (ch 3),fk (ca (av (aq (U J 9))) (bm ay))),
 (ch 1000000000106,dy (V.d (ca (au (ax (U J 10))) (bm ay)) (U J 10))),
 (dp (ch 4),fk (ca (av (aq (U J 11))) (bm ay))),
 (ch 1000000000138,dy (V.d (ca (au (ax (U J 12))) (bm ay)) (U J 12))),
 (dp (ch 5),dy (mf Bz [V.mp (dp (ch 6))])),
 (dp (ch 6),O.map (ca 32 (bm cq)) AP (dE AP (dm m1 0))),
 (dp (ch 7),fk (ca (av (aq (U J 13))) AV)),
 (ch 1000000000234,dy (V.d (ca (au (ax (U J 14))) AV) (U J 14))),
 (dp (ch 8),fk (ca (av (aq (U J 15))) tTx)),
 (ch 1000000000266,dy (V.d (ca (au (ax (U J 16))) tTx) (U J 16))),
 (dp (ch 9),fk (ca (av (aq (U J 17))) AW)),
 (ch 1000000000298,dy (V.d (ca (au (ax (U J 18))) AW) (U J 18)))]
theorem q0q:okX 88 (@q0p R N):=Cv (BJ (fP N) <| BJ (zF N) <| BJ (Y3 N) <| BJ (Z9 N) <| BT) N [(88,[(0,[(3,5)]),(5,[(43,7)]),(15,[(5,6)])])] [(88,[([0,0,1,1],⟨[0,3],[(26,.d .bool)],[.g (.l 1),.g (.l 2),.g (.l 3),.g (.l 4),.g (.l 5),.g (.l 6),.g (.l 7),.g (.l 8),.g (.l 9)],[],[],[(.int .u64),AV,tTx,AW]⟩),
  ([1,0,1,1,1,1,1],⟨[0,5],[],[.g (.l 1),.g (.l 2),.g (.l 3),.g (.l 4),.g (.l 5),.g (.l 6),.g (.l 7),.g (.l 8),.g (.l 9)],[],[],[(.int .u64),AV,tTx,AW]⟩),
  ([9],⟨[],[(4,.d (.int .i64))],[.g (.l 1),.g (.l 2),.g (.l 3),.g (.l 4),.g (.l 5),.g (.l 6),.g (.l 7),.g (.l 8),.g (.l 9)],[],[],[(.int .u64),AV,tTx,AW]⟩)])] (fun _ _ _=>LD)
def q0g:List Sh:=[.as (.ptr (.g (.l 1)) [] Ba),.d tTx]
def q0j:List (Key × OSh):=[(.l 1,.box (.agg Ba [.as (.ptr (.g (.l 2)) [] BN),.as (.ptr (.g (.l 5)) [] Bz),.d (.int .u64),.d (.int .u64),.vec (.g (.l 7)) 240 AV,.vec (.g (.l 8)) 2368 tTx,.vec (.g (.l 9)) 40 AW])),(.l 2,.box (.agg BN [.vec (.g (.l 3)) 8 (.int .u64),.vec (.g (.l 4)) 8 (.int .u64),.d (.int .u64)])),(.l 3,.box (.arr (.int .u64))),(.l 4,.box (.arr (.int .u64))),(.l 5,.box (.agg Bz [.as (.mp (.g (.l 6)))])),(.l 6,.map (.arr 32 (.int .u8)) AP),(.l 7,.box (.arr AV)),(.l 8,.box (.arr tTx)),(.l 9,.box (.arr AW))]
def UQ (a0 b0 b1 b2 b3 b4 b5 b6 b7 b8 b9 b10 b11 b12 b13:C) (m0:Es) (k1:KD R):Option R:=bif decide (aq (bj a0 0)=0)then(gA b8 (gA b9 (QX N (bj a0 1) (bj a0 4) (bj a0 5) (nI b5) (nI b6) b7 b8 b9 (fun J m1=>(gA (U J 5) (gA (U J 7) (gM AP m0 (gA b10 (gA b11 (gA b12 (k1 [U J 0,b0,b1,nI b2,nI b3,nI b4,nI (U J 1),nI (U J 2),U J 3,nI (U J 4),U J 5,nI (U J 6),U J 7,bc (↑(au (ax b10)):Int),b10,bc (↑(au (ax b11)):Int),b11,bc (↑(au (ax b12)):Int),b12] [unE (dE AP m0)])))))))))))else(bif decide (aq (bj a0 0)=1)then(gM AP m0 (NR N (bj a0 7) b1 dj dj (unE (dE AP m0)) (fun J m1=>(gA b8 (gA b9 (gM AP (dm m1 0) (gA b10 (gA b11 (gA b12 (k1 [U J 0,b0,b1,nI b2,nI b3,nI b4,nI b5,nI b6,b7,bc (↑(au (ax b8)):Int),b8,bc (↑(au (ax b9)):Int),b9,bc (↑(au (ax b10)):Int),b10,bc (↑(au (ax b11)):Int),b11,bc (↑(au (ax b12)):Int),b12] [unE (dE AP (dm m1 0))]))))))))))else(bif decide (aq (bj a0 0)=2)then(gA b8 (gA b9 (gM AP m0 (gA b10 (gA b11 (gA b12 (RA N a0 b0 b1 (nI b2) (nI b3) (nI b4) (nI b5) (nI b6) b7 b8 b9 b10 b11 b12 dj (unE (dE AP m0)) (fun J m1=>(gA (U J 10) (gA (U J 12) (gM AP (dm m1 0) (gA (U J 14) (gA (U J 16) (gA (U J 18) (k1 [U J 0,U J 1,U J 2,nI (U J 3),nI (U J 4),nI (U J 5),nI (U J 6),nI (U J 7),U J 8,nI (U J 9),U J 10,nI (U J 11),U J 12,nI (U J 13),U J 14,nI (U J 15),U J 16,nI (U J 17),U J 18] [unE (dE AP (dm m1 0))])))))))))))))))else(jn (fun J m1=>(bif dg (U J 1)then(bif decide (ar ay (↑(av (aq (U J 4))):Int)<=ar ay (aq (bj (U J 0) 6)))then(gA (U J 11) (gA (U J 13) (gM AP (dm m1 0) (gA (U J 15) (gA (U J 17) (gA (U J 19) (k1 [bc 6,U J 2,U J 3,nI (U J 4),nI (U J 5),nI (U J 6),nI (U J 7),nI (U J 8),U J 9,nI (U J 10),U J 11,nI (U J 12),U J 13,nI (U J 14),U J 15,nI (U J 16),U J 17,nI (U J 18),U J 19] [unE (dE AP (dm m1 0))])))))))else none)else(gA (U J 11) (gA (U J 13) (gM AP (dm m1 0) (gA (U J 15) (gA (U J 17) (gA (U J 19) (k1 [bc 33,U J 2,U J 3,nI (U J 4),nI (U J 5),nI (U J 6),nI (U J 7),nI (U J 8),U J 9,nI (U J 10),U J 11,nI (U J 12),U J 13,nI (U J 14),U J 15,nI (U J 16),U J 17,nI (U J 18),U J 19] [unE (dE AP (dm m1 0))]))))))))) (fun k2=>(bif decide (aq (bj a0 0)=3)then(gA b8 (gA b9 (gM AP m0 (gA b10 (gA b11 (gA b12 (k2 [a0,HR (de (decide (aq (bj a0 0)=3))) true,b0,b1,nI b2,nI b3,nI b4,nI b5,nI b6,b7,bc (↑(au (ax b8)):Int),b8,bc (↑(au (ax b9)):Int),b9,bc (↑(au (ax b10)):Int),b10,bc (↑(au (ax b11)):Int),b11,bc (↑(au (ax b12)):Int),b12] [unE (dE AP m0)])))))))else(jn (fun J m1=>(gA (U J 11) (gA (U J 13) (gM AP (dm m1 0) (gA (U J 15) (gA (U J 17) (gA (U J 19) (k2 [U J 0,de (dg (U J 1)),U J 2,U J 3,nI (U J 4),nI (U J 5),nI (U J 6),nI (U J 7),nI (U J 8),U J 9,nI (U J 10),U J 11,nI (U J 12),U J 13,nI (U J 14),U J 15,nI (U J 16),U J 17,nI (U J 18),U J 19] [unE (dE AP (dm m1 0))])))))))) (fun k3=>(bif decide (aq (bj a0 0)=4)then(gA b8 (gA b9 (gM AP m0 (gA b10 (gA b11 (gA b12 (k3 [a0,HR (de (decide (aq (bj a0 0)=4))) true,b0,b1,nI b2,nI b3,nI b4,nI b5,nI b6,b7,bc (↑(au (ax b8)):Int),b8,bc (↑(au (ax b9)):Int),b9,bc (↑(au (ax b10)):Int),b10,bc (↑(au (ax b11)):Int),b11,bc (↑(au (ax b12)):Int),b12] [unE (dE AP m0)])))))))else(jn (fun J m1=>(gA (U J 11) (gA (U J 13) (gM AP (dm m1 0) (gA (U J 15) (gA (U J 17) (gA (U J 19) (k3 [U J 0,de (dg (U J 1)),U J 2,U J 3,nI (U J 4),nI (U J 5),nI (U J 6),nI (U J 7),nI (U J 8),U J 9,nI (U J 10),U J 11,nI (U J 12),U J 13,nI (U J 14),U J 15,nI (U J 16),U J 17,nI (U J 18),U J 19] [unE (dE AP (dm m1 0))])))))))) (fun k4=>(bif decide (aq (bj a0 0)=5)then(gA b8 (gA b9 (gM AP m0 (gA b10 (gA b11 (gA b12 (k4 [a0,HR (de (decide (aq (bj a0 0)=5))) true,b0,b1,nI b2,nI b3,nI b4,nI b5,nI b6,b7,bc (↑(au (ax b8)):Int),b8,bc (↑(au (ax b9)):Int),b9,bc (↑(au (ax b10)):Int),b10,bc (↑(au (ax b11)):Int),b11,bc (↑(au (ax b12)):Int),b12] [unE (dE AP m0)])))))))else(jn (fun J m1=>(gA (U J 11) (gA (U J 13) (gM AP (dm m1 0) (gA (U J 15) (gA (U J 17) (gA (U J 19) (k4 [U J 0,de (dg (U J 1)),U J 2,U J 3,nI (U J 4),nI (U J 5),nI (U J 6),nI (U J 7),nI (U J 8),U J 9,nI (U J 10),U J 11,nI (U J 12),U J 13,nI (U J 14),U J 15,nI (U J 16),U J 17,nI (U J 18),U J 19] [unE (dE AP (dm m1 0))])))))))) (fun k5=>(bif decide (aq (bj a0 0)=6)then(gA b8 (gA b9 (gM AP m0 (gA b10 (gA b11 (gA b12 (k5 [a0,HR (de (decide (aq (bj a0 0)=6))) true,b0,b1,nI b2,nI b3,nI b4,nI b5,nI b6,b7,bc (↑(au (ax b8)):Int),b8,bc (↑(au (ax b9)):Int),b9,bc (↑(au (ax b10)):Int),b10,bc (↑(au (ax b11)):Int),b11,bc (↑(au (ax b12)):Int),b12] [unE (dE AP m0)])))))))else(gA b8 (gA b9 (gM AP m0 (gA b10 (gA b11 (gA b12 (k5 [a0,de (decide (aq (bj a0 0)=7)),b0,b1,nI b2,nI b3,nI b4,nI b5,nI b6,b7,bc (↑(au (ax b8)):Int),b8,bc (↑(au (ax b9)):Int),b9,bc (↑(au (ax b10)):Int),b10,bc (↑(au (ax b11)):Int),b11,bc (↑(au (ax b12)):Int),b12] [unE (dE AP m0)])))))))))))))))))))))
def Qy:=lid "" (@UQ R N)
theorem YQ {R N a0 b0 b1 b2 b3 b4 b5 b6 b7 b8 b9 b10 b11 b12 b13 m0 k}:@Qy R N a0 b0 b1 b2 b3 b4 b5 b6 b7 b8 b9 b10 b11 b12 b13 m0 k=UQ N a0 b0 b1 b2 b3 b4 b5 b6 b7 b8 b9 b10 b11 b12 b13 m0 k:=by unfold Qy;rw[BQ]
def q0h:OvG R:=Cu q0g q0j (fun ds ms=>Qy N (U ds 0) (U ds 1) (U ds 2) (U ds 3) (U ds 4) (U ds 5) (U ds 6) (U ds 7) (U ds 8) (U ds 9) (U ds 10) (U ds 11) (U ds 12) (U ds 13) (U ds 14) (dm ms 0)) fun ds ms K J m1=>K (V.d (bm ba) (U J 0)) [(dp (ch 1),
  dy
   (mf Ba
    [V.ptr (dp (ch 2)) [] BN,V.ptr (dp (ch 5)) [] Bz,V.d (bm ay) (U J 1),
     V.d (bm ay) (U J 2),
     oq (ch 1000000000234) [] 0 (av (aq (U J 3))) none 240 AV,
     oq (ch 1000000000266) [] 0 (av (aq (U J 4))) none 2368 tTx,
     oq (ch 1000000000298) [] 0 (av (aq (U J 5))) none 40 AW])),
 (dp (ch 2),
  dy
   (mf BN
    [oq (ch 1000000000106) [] 0 (av (aq (U J 6))) none 8 (bm ay),
     oq (ch 1000000000138) [] 0 (av (aq (U J 7))) none 8 (bm ay),
     V.d (bm ay) (U J 8)])),
 (dp (ch 3),fk (ca (av (aq (U J 9))) (bm ay))),
 (ch 1000000000106,dy (V.d (ca (au (ax (U J 10))) (bm ay)) (U J 10))),
 (dp (ch 4),fk (ca (av (aq (U J 11))) (bm ay))),
 (ch 1000000000138,dy (V.d (ca (au (ax (U J 12))) (bm ay)) (U J 12))),
 (dp (ch 5),dy (mf Bz [V.mp (dp (ch 6))])),
 (dp (ch 6),O.map (ca 32 (bm cq)) AP (dE AP (dm m1 0))),
 (dp (ch 7),fk (ca (av (aq (U J 13))) AV)),
 (ch 1000000000234,dy (V.d (ca (au (ax (U J 14))) AV) (U J 14))),
 (dp (ch 8),fk (ca (av (aq (U J 15))) tTx)),
 (ch 1000000000266,dy (V.d (ca (au (ax (U J 16))) tTx) (U J 16))),
 (dp (ch 9),fk (ca (av (aq (U J 17))) AW)),
 (ch 1000000000298,dy (V.d (ca (au (ax (U J 18))) AW) (U J 18)))]
theorem q0i:okX 70 (@q0h R N):=Cv (BJ (zI N) <| BJ (q5y N) <| BJ (q0q N) <| BJ (sZ (f:=89) N) <| BT) N [(70,[(0,[(3,5)])])] [(70,[([1,0,3,1,3,1,3,1,4,1,0,1],⟨[0,3],[(38,.d .bool)],[.g (.l 1),.g (.l 2),.g (.l 3),.g (.l 4),.g (.l 5),.g (.l 6),.g (.l 7),.g (.l 8),.g (.l 9)],[],[],[(.int .u64),AV,tTx,AW]⟩),
  ([1,3,1,0,3,1,3,1,3,1,4,1,0,1],⟨[0,3],[(38,.d .bool)],[.g (.l 1),.g (.l 2),.g (.l 3),.g (.l 4),.g (.l 5),.g (.l 6),.g (.l 7),.g (.l 8),.g (.l 9)],[],[],[(.int .u64),AV,tTx,AW]⟩),
  ([1,3,1,3,1,0,3,1,3,1,3,1,4,1,0,1],⟨[0,3],[(38,.d .bool)],[.g (.l 1),.g (.l 2),.g (.l 3),.g (.l 4),.g (.l 5),.g (.l 6),.g (.l 7),.g (.l 8),.g (.l 9)],[],[],[(.int .u64),AV,tTx,AW]⟩),
  ([1,3,1,3,1,3,1,0,3,1,3,1,3,1,4,1,0,1],⟨[0,3],[(38,.d .bool)],[.g (.l 1),.g (.l 2),.g (.l 3),.g (.l 4),.g (.l 5),.g (.l 6),.g (.l 7),.g (.l 8),.g (.l 9)],[],[],[(.int .u64),AV,tTx,AW]⟩),
  ([9],⟨[],[(4,.d (.int .i64))],[.g (.l 1),.g (.l 2),.g (.l 3),.g (.l 4),.g (.l 5),.g (.l 6),.g (.l 7),.g (.l 8),.g (.l 9)],[],[],[(.int .u64),AV,tTx,AW]⟩)])] (fun _ _ _=>YQ)
end Go.Proofs.YteealakhniofoaaGreatDoor
