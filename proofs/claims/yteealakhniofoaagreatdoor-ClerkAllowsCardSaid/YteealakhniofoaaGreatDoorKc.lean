/-
 What the functions on the way compute, part 3.
 Conditions: none.
-/
import Derived.Test.YteealakhniofoaaGreatDoorKb
set_option linter.all false
noncomputable section
set_option maxRecDepth 100000
set_option maxHeartbeats 4000000
open BitVec renaming eq_of_getLsbD_eq->mw,getLsbD_and->pn,getLsbD_not->uq,getLsbD_or->ve,getLsbD_xor->ur,ofInt->dx,ofInt_natCast->oc,toNat_add->ka,toNat_ofNat->uu,toNat_setWidth->tr
open Go.BinOp renaming and->fi,xor->dz
open Go.E.C renaming agg->dc,bool->de,elems->ax,get->bj,int->bc,nil->dj,set->cn,slice->bw,toInt->aq,toStr->xo
open Go.E.Ty renaming arr->ca,int->bm
open Go.IntKind renaming bits->ny,i64->ba,signed->lr,u64->ay,u8->cq,wrap->ar
open Int renaming eq_ofNat_of_zero_le->kv,fdiv->jv,fdiv_eq_ediv_of_nonneg->jk,lt_irrefl->eg,natCast_nonneg->bz,ofNat->jc,tdiv->fc,tdiv_eq_ediv_of_nonneg->im,tmod->bn,tmod_eq_emod_of_nonneg->ep,toNat->av,toNat_natCast->bb
open List renaming append_assoc->gd,drop->iy,drop_of_length_le->ue,drop_zero->jf,eq_nil_of_length_eq_zero->fl,eq_of_mem_replicate->ti,ext_getElem?->fb,flatMap_append->mi,flatMap_cons->kg,foldl_append->gz,foldl_cons->oe,foldl_nil->wz,getD->bt,getD_eq_getElem?_getD->bq,getElem?_append_left->ft,getElem?_append_right->gh,getElem?_eq_getElem->bo,getElem?_map->db,getElem?_set->fy,length->au,length_append->br,length_cons->cg,length_map->fg,length_nil->cr,length_set->di,length_take->jh,map->ox,map_append->pt,map_cons->dt,map_nil->xu,mem_append->eh,mem_cons->ij,mem_of_mem_drop->jl,mem_of_mem_take->jm,not_mem_nil->qx,replicate->bp,take->eu,take_add_one->ng,take_append_drop->kc,take_left->xa,take_length->dh,take_of_length_le->ez
open Nat renaming beq->df,beq_refl->bh,le_refl->bx,mod_eq_of_lt->tw,zero_add->bf
open Option renaming getD_some->jg
open UInt8 renaming ofNat->pk,toNat->va
namespace Go.Proofs.YteealakhniofoaaGreatDoor
open Go Go.E
variable {R:Type} (N:Nat)
section
variable {R:Type} {N:Nat}
def ksW:List W32:=[1116352408,1899447441,3049323471,3921009573,961987163,1508970993,2453635748,2870763221,3624381080,310598401,607225278,1426881987,1925078388,2162078206,2614888103,3248222580,3835390401,4022224774,264347078,604807628,770255983,1249150122,1555081692,1996064986,2554220882,2821834349,2952996808,3210313671,3336571891,3584528711,113926993,338241895,666307205,773529912,1294757372,1396182291,1695183700,1986661051,2177026350,2456956037,2730485921,2820302411,3259730800,3345764771,3516065817,3600352804,4094571909,275423344,430227734,506948616,659060556,883997877,958139571,1322822218,1537002063,1747873779,1955562222,2024104815,2227730452,2361852424,2428436474,2756734187,3204031479,3329325298]
theorem q9e (k:KD R):Pb N k=k [.agg (ksW.map wI)] []:=by rw[bA];unfold Vk;rfl
theorem Hk {l:List W32} {i:Nat} (h:i<l.length):bj (.agg (l.map wI)) i=wI (l.getD i 0):=by show(l.map wI).getD i .nil=_;rw[bq,db,bq,bo h];rfl
theorem yI (l:List W32) (i:Nat) (x:W32):cn (.agg (l.map wI)) i (wI x)= .agg ((l.set i x).map wI):=by show dc ((l.map wI).set i (wI x))=_;rw[List.map_set]
def Dd (c:C):Prop:=c= .int c.toInt/\0<=c.toInt/\c.toInt<256
theorem Y7 {c:C} (h:Dd c):IntKind.u32.wrap c.toInt=((dx 32 c.toInt).toNat:Int):=by obtain⟨_,h1,h2⟩:=h;obtain⟨n,hn⟩:=kv h1;rw[hn,wrap_u32];show _=((dx 32 (n:Int)).toNat:Int);rw[oc,uu];simp
theorem z0v (l:List C) (hl:4<=l.length) (hb:∀c∈l,Dd c) (hN:10<N) (k:KD R):NM N (.slice l) k=k [wI (JK (l.take 4))] []:=by
 have hc:cut l 0 4=l.take 4:=by simp[cut]
 have hc4:(l.take 4).length=4:=by simp;omega
 have hb4:∀c∈l.take 4,Dd c:=fun c hc=>hb c (jm hc);rw[bB];unfold Vm;simp only[AO,hc,hc4,AR,AB];refine(if_pos ⟨by decide,by decide,by omega⟩).trans ?_;generalize l.take 4=b at*;have key:=Ee (F:=NL N fun J m1=>k [U J 0] []) (fun i=>[.slice b,.int (4:Nat),wI (JK (b.take i)),.int i]) (fun _=>[]) 4 (k [wI (JK b)] []) ?_ ?_ (N:=N) (by omega);{exact key}
 ·intro i hi rec;have h1:(i:Int)<((4:Nat):Int):=by omega
  have h2:i<b.length:=by omega
  have hw:=Y7 (hb4 _ (Eb h2));have e8:min (av 8) 32=8:=rfl;have et:b.take (i+1)=b.take i++[b.getD i .nil]:=by rw[ng,bo h2,bq,bo h2];rfl
  have ef:JK (b.take (i+1))=JK (b.take i) <<< 8|||dx 32 (b.getD i .nil).toInt:=by rw[et];unfold JK;rw[gz];rfl
  unfold NL;simp only[AF,AH,AJ,AL,AG,AO,hc4,h1,e8,HX,hw,z8,XT,AE,bz,and_self,bb,Bp (show i<4611686018427387904 by omega),ef,AB];rfl
 ·intro rec;have ht:b.take 4=b:=ez (by omega);unfold NL;simp only[AF,AH,AJ,AL,AG,eg,AE,ht,AB]
def sg0 (x:W32):W32:=TW x 7 18 3 true
def sg1 (x:W32):W32:=TW x 17 19 10 true
def bs0 (x:W32):W32:=TW x 2 13 22 false
def bs1 (x:W32):W32:=TW x 6 11 25 false
def HS (i:Nat) (yn:List W32):List W32:=
 if 16<=i then yn.set (i%16) (yn.getD (i%16) 0+(sg0 (yn.getD ((i+1)%16) 0)+yn.getD ((i+9)%16) 0+sg1 (yn.getD ((i+14)%16) 0)))else yn
def MP (i:Nat) (yn s:List W32):W32:=
 s.getD 7 0+bs1 (s.getD 4 0)+(s.getD 6 0^^^(s.getD 4 0&&&(s.getD 5 0^^^s.getD 6 0)))+ksW.getD i 0+yn.getD (i%16) 0
def stepG (i:Nat) (p:List W32 × List W32):List W32 × List W32:=
 let yn:=HS i p.1
 let s:=p.2
 let add:=MP i yn s
 (yn,[add+bs0 (s.getD 0 0)+((s.getD 0 0&&&s.getD 1 0)|||(s.getD 2 0&&&(s.getD 0 0|||s.getD 1 0))),s.getD 0 0,s.getD 1 0,s.getD 2 0,s.getD 3 0+add,s.getD 4 0,s.getD 5 0,s.getD 6 0])
def DG (yn h:List W32):Nat->List W32 × List W32
 |0=>(yn,h)|i+1=>stepG i (DG yn h i)
theorem q5g (i:Nat) (l:List W32):(HS i l).length=l.length:=by unfold HS;split <;> simp
theorem QU {yn h:List W32} (hn:yn.length=16) (hh:h.length=8):∀i,(DG yn h i).1.length=16/\(DG yn h i).2.length=8
 |0=>⟨hn,hh⟩|i+1=>⟨by show(HS i _).length=16;rw[q5g];exact(QU hn hh i).1,rfl⟩
theorem q3b:ksW.length=64:=rfl
end
section
variable {R:Type} {N:Nat}
theorem zQ (a b:Nat):bn (a:Int) (b:Int)=((a%b:Nat):Int):=by rw[ep (by omega)];omega
theorem eQ (l:List W32) (i:Nat) (x:W32):cn (.agg (l.map wI)) i (.int (x.toNat:Int))= .agg ((l.set i x).map wI):=yI l i x
theorem q8n (yn s:List W32) (w:C) (i:Nat) (hi:i<64) (hn:yn.length=16) (hs:s.length=8) (hN:100<N) (k rec:KD R):
  Ji N k rec [.agg (ksW.map wI),.int i,w,.agg (yn.map wI),.agg (s.map wI)] []=
   rec [.agg (ksW.map wI),.int ((i+1:Nat):Int),w,.agg ((stepG i (yn,s)).1.map wI),.agg ((stepG i (yn,s)).2.map wI)] []:=by
 have e1:(i:Int)<64:=by omega
 have e5:((i+1:Nat):Int)=(i:Int)+1:=by omega
 have q1:IntKind.i64.wrap ((i:Int)+1)=((i+1:Nat):Int):=by rw[wrap_i64 (by omega) (by omega)];omega
 have q9:IntKind.i64.wrap ((i:Int)+9)=((i+9:Nat):Int):=by rw[wrap_i64 (by omega) (by omega)];omega
 have q14:IntKind.i64.wrap ((i:Int)+14)=((i+14:Nat):Int):=by rw[wrap_i64 (by omega) (by omega)];omega
 have c16:∀a:Nat,bn (a:Int) 16=((a%16:Nat):Int):=fun a=>zQ a 16;have r16:∀a:Nat,((a%16:Nat):Int)<16:=fun a=>by omega
 have gk:bj (.agg (ksW.map wI)) i=wI (ksW.getD i 0):=Hk (by rw[q3b];exact hi);have gn:∀(l:List W32),l.length=16->∀a:Nat,bj (.agg (l.map wI)) (a%16)=wI (l.getD (a%16) 0):=fun l hl a=>Hk (by omega);have gs:∀a:Nat,a<8->bj (.agg (s.map wI)) a=wI (s.getD a 0):=fun a ha=>Hk (by omega);have g0:=gs 0 (by omega);have g1:=gs 1 (by omega);have g2:=gs 2 (by omega);have g3:=gs 3 (by omega);have g4:=gs 4 (by omega);have g5:=gs 5 (by omega);have g6:=gs 6 (by omega);have g7:=gs 7 (by omega);have t0:av 0=0:=rfl;have t1:av 1=1:=rfl;have t2:av 2=2:=rfl;have t3:av 3=3:=rfl;have t4:av 4=4:=rfl;have t5:av 5=5:=rfl;have t6:av 6=6:=rfl;have t7:av 7=7:=rfl;have a1:∀k:KD R,Hu N (wI (s.getD 4 0)) (.int 6) (.int 11) (.int 25) (.bool false) k=k [wI (bs1 (s.getD 4 0))] []:=fun k=>XF (N:=N) (s.getD 4 0) 6 11 25 false (by omega) (by omega) (by omega) k;have a2:∀k:KD R,Hu N (wI (s.getD 0 0)) (.int 2) (.int 13) (.int 22) (.bool false) k=k [wI (bs0 (s.getD 0 0))] []:=fun k=>XF (N:=N) (s.getD 0 0) 2 13 22 false (by omega) (by omega) (by omega) k;have a3:∀k:KD R,Hu N (wI (yn.getD ((i+1)%16) 0)) (.int 7) (.int 18) (.int 3) (.bool true) k=k [wI (sg0 (yn.getD ((i+1)%16) 0))] []:=fun k=>XF (N:=N) (yn.getD ((i+1)%16) 0) 7 18 3 true (by omega) (by omega) (by omega) k;have a4:∀k:KD R,Hu N (wI (yn.getD ((i+14)%16) 0)) (.int 17) (.int 19) (.int 10) (.bool true) k=k [wI (sg1 (yn.getD ((i+14)%16) 0))] []:=fun k=>XF (N:=N) (yn.getD ((i+14)%16) 0) 17 19 10 true (by omega) (by omega) (by omega) k;unfold Ji;by_cases e2:16<=(i:Int)
 ·have e2n:16<=i:=by omega
  have hn2:(yn.set (i%16) (yn.getD (i%16) 0+(sg0 (yn.getD ((i+1)%16) 0)+yn.getD ((i+9)%16) 0+sg1 (yn.getD ((i+14)%16) 0)))).length=16:=by rw[di];exact hn
  have hG:HS i yn=yn.set (i%16) (yn.getD (i%16) 0+(sg0 (yn.getD ((i+1)%16) 0)+yn.getD ((i+9)%16) 0+sg1 (yn.getD ((i+14)%16) 0))):=by unfold HS;rw[if_pos e2n]
  simp only[AR,AF,AH,AJ,AL,AQ,Aa,Ac,AG,e1,e2,q1,q9,q14,c16,r16,AE,bz,and_self,bb,t0,t1,t2,t3,t4,t5,t6,t7,gk,gn yn hn,g0,g1,g2,g3,g4,g5,g6,g7,a1,a2,a3,a4,HX,XS,eQ,AB];simp only[gn _ hn2,HX,XS,z7,XT,XU,stepG,MP,hG];rfl
 ·have e2n:¬16<=i:=by omega
  have hG:HS i yn=yn:=by unfold HS;rw[if_neg e2n]
  simp only[AR,AF,AH,AJ,AL,AQ,Aa,Ac,AG,e1,e2,q1,c16,r16,AE,bz,and_self,bb,t0,t1,t2,t3,t4,t5,t6,t7,gk,gn yn hn,g0,g1,g2,g3,g4,g5,g6,g7,a1,a2,HX,XS,z7,XT,XU,AB];simp only[stepG,MP,hG];rfl
end
section
variable {R:Type} {N:Nat}
def nG (w:List C):Nat->List W32
 |0=>bp 16 0|i+1=>(nG w i).set i (JK ((w.drop (4*i)).take 4))
theorem NQ (w:List C):∀i,(nG w i).length=16
 |0=>rfl|i+1=>by simp[nG,NQ w i]
def aG (h s:List W32):Nat->List W32
 |0=>h|i+1=>(aG h s i).set i (h.getD i 0+s.getD i 0)
theorem MO (h s:List W32):∀i,(aG h s i).length=h.length
 |0=>rfl|i+1=>by simp[aG,MO h s i]
theorem Mm {l:List W32} {i j:Nat} {x:W32} (hi:i<l.length):(l.set i x).getD j 0=if i=j then x else l.getD j 0:=by rw[bq,bq,fy];by_cases h:i=j;{subst h;simp[hi]};{simp[h]}
theorem gZ (h s:List W32) (hh:h.length=8):∀i j,i<=j->i<=8->(aG h s i).getD j 0=h.getD j 0
 |0,_,_,_=>rfl|i+1,j,hj,hi=>by show((aG h s i).set i _).getD j 0=_;rw[Mm (by rw[MO];omega),if_neg (by omega),gZ h s hh i j (by omega) (by omega)]
def JU (h:List W32) (w:List C):List W32:=aG h (DG (nG w 16) h 64).2 8
theorem YL {h:List W32} (hh:h.length=8) (w:List C):(JU h w).length=8:=by unfold JU;rw[MO];exact hh
theorem q2s (h:List W32) (hh:h.length=8) (w:List C) (hw:w.length=64) (hb:∀c∈w,Dd c) (n:C) (hN:100<N) (k:KD R):
  PY N (.agg [.agg (h.map wI),.agg w,n]) k=k [.agg [.agg ((JU h w).map wI),.agg w,n]] []:=by
 rw[aW];unfold Vg;simp only[AR,q9e,AF,AH,Iu,AB];have l3:∀K:KD R,BR N (Lf N K) [.int 0,.agg [.agg (h.map wI),.agg w,n],AI (.arr 16 (.int .u32))] []=K [.agg [.agg (h.map wI),.agg w,n],.agg ((nG w 16).map wI)] []:=fun K=>by
  refine Ee (F:=Lf N K) (fun i=>[.int i,.agg [.agg (h.map wI),.agg w,n],.agg ((nG w i).map wI)]) (fun _=>[]) 16 _ ?_ ?_ (N:=N) (by omega)
  ·intro i hi rec;have e1:(i:Int)<16:=by omega
   have e2:IntKind.i64.wrap (4*(i:Int))=((4*i:Nat):Int):=by rw[wrap_i64 (by omega) (by omega)];omega
   have e3:(64-((4*i:Nat):Int)).toNat=64-4*i:=by omega
   have c1:((4*i:Nat):Int)<=64/\jc 64<=64:=⟨by omega,by decide⟩;have hv:∀k:KD R,NM N (.slice (eu (64-4*i) (iy (4*i) w))) k=k [wI (JK ((w.drop (4*i)).take 4))] []:=fun k=>by rw[z0v _ (by simp;omega) (fun c hc=>hb c (jl (jm hc))) (by omega),List.take_take];rw[show min 4 (64-4*i)=4 by omega]
   unfold Lf;simp only[AF,AH,AJ,AG,Ab,LP,e1,e2,e3,c1,hv,yI,AE,bz,and_self,bb,Bp (show i<4611686018427387904 by omega),AB];rfl
  ·intro rec;have e:¬((16:Nat):Int)<16:=by decide
   unfold Lf;simp only[AF,AH,AJ,AG,e,AE,AB]
 have l2:∀K:KD R,BR N (Ji N K) [.agg (ksW.map wI),.int 0,.agg [.agg (h.map wI),.agg w,n],.agg ((nG w 16).map wI),.agg (h.map wI)] []=K [.agg [.agg (h.map wI),.agg w,n],.agg ((DG (nG w 16) h 64).2.map wI)] []:=fun K=>by
  refine Ee (F:=Ji N K) (fun i=>[.agg (ksW.map wI),.int i,.agg [.agg (h.map wI),.agg w,n],.agg ((DG (nG w 16) h i).1.map wI),.agg ((DG (nG w 16) h i).2.map wI)]) (fun _=>[]) 64 _ ?_ ?_ (N:=N) (by omega);{intro i hi rec;have hl:=QU (NQ w 16) hh i;exact q8n _ _ _ i hi hl.1 hl.2 hN K rec}
  ·intro rec;have e:¬((64:Nat):Int)<64:=by decide
   unfold Ji;simp only[AF,AH,AJ,AL,AQ,AG,e,AE,AB]
 have l1:∀s:List W32,s.length=8->∀K:KD R,BR N (Le N K) [.int 0,.agg [.agg (h.map wI),.agg w,n],.agg (s.map wI)] []=K [.agg [.agg ((aG h s 8).map wI),.agg w,n]] []:=fun s hs K=>by
  refine Ee (F:=Le N K) (fun i=>[.int i,.agg [.agg ((aG h s i).map wI),.agg w,n],.agg (s.map wI)]) (fun _=>[]) 8 _ ?_ ?_ (N:=N) (by omega)
  ·intro i hi rec;have e1:(i:Int)<8:=by omega
   have g1:bj (.agg ((aG h s i).map wI)) i=wI (h.getD i 0):=by rw[Hk (by rw[MO];omega),gZ h s hh i i (bx _) (by omega)]
   have g2:bj (.agg (s.map wI)) i=wI (s.getD i 0):=Hk (by omega);unfold Le;simp only[AF,AH,AJ,AG,e1,Iu,IZ,g1,g2,HX,XS,eQ,AE,bz,and_self,bb,Bp (show i<4611686018427387904 by omega),AB];rfl
  ·intro rec;have e:¬((8:Nat):Int)<8:=by decide
   unfold Le;simp only[AF,AH,AJ,AG,e,AE,AB]
 rw[l3];simp only[AF,AH,Iu];rw[l2];simp only[AF,AH];rw[l1 _ (QU (NQ w 16) hh 64).2];rfl
end
def KU {R:Type} (N:Nat) (k2:KD R):KD R->KD R:=fun k3 J m1=>(bif decide (aq (U J 3)<ar ba (ar ba (8*aq (U J 1))+8))then(if 0<=aq (U J 3)/\aq (U J 3)<(↑(au (xo (U J 0))):Int)then(jn (fun I m2=>(k3 [U I 0,U I 1,bc (ar ay (ar ay (ar ay (aq (U I 2)*16)+aq (U I 4))-48)),bc (ar ba (aq (U I 3)+1))] [])) (fun k4=>(bif decide (97<=ar ay (↑(va (bt (xo (U J 0)) (av (aq (U J 3))) (pk 0))):Int))then(k4 [U J 0,U J 1,U J 2,U J 3,bc (ar ay (ar ay (↑(va (bt (xo (U J 0)) (av (aq (U J 3))) (pk 0))):Int)-39))] [])else(k4 [U J 0,U J 1,U J 2,U J 3,bc (ar ay (↑(va (bt (xo (U J 0)) (av (aq (U J 3))) (pk 0))):Int))] []))))else none)else(k2 [U J 2] []))
def WV (a0 a1:C) (k1:KD R):Option R:=jn (fun J m1=>(k1 [U J 0] [])) (fun k2=>(BR N (KU N k2) [a0,a1,bc 0,bc (ar ba (8*aq a1))] []))
def KV:=lid "" (@WV R N)
theorem cW {R N a0 a1 k}:@KV R N a0 a1 k=WV N a0 a1 k:=by unfold KV;rw[BQ]
def q6N:OvG R:=Bq [.str,.int .i64] (FH (KV N)) (DM (bm ay))
theorem vQ:okX 143 (@q6N R N):=CV BT N [] [(143,[([1,0,1,1],(Ct [(5,.d (.int .u64))])),
  ([4,1,0,1,1],(Cz [0,1] [(5,.d (.int .u64)),(6,.d (.int .i64))])),
  ([1,0,1,4,0,1,5,4,1,0,1,1],(Cz [0,1,5,6] [(7,.d (.int .u64))])),
  ([9],(Ct [(4,.d (.int .u64))]))])] (fun _ _=>cW)
def Lp {R:Type} (N:Nat) (k2:KD R):KD R->KD R:=fun k3 d3 m3=>(bif decide (aq (U d3 3)<8)then(if 0<=aq (U d3 3)/\aq (U d3 3)<(↑(au (ax (U d3 0))):Int)then(if 0<=aq (U d3 3)/\aq (U d3 3)<(↑(av (aq (U d3 1))):Int)then(if(av (aq (U d3 2))+1)*8<=140737488355328/\av (aq (U d3 2))+1<=9223372036854775807 then(gA (U d3 4) (if av (aq (U d3 2))+1=au (eu (av (aq (U d3 2))) (ax (U d3 5))++[bc (bn (ar ay (aq (bt (ax (U d3 0)) (av (aq (U d3 3))) dj)+aq (bj (U d3 4) (0+av (aq (U d3 3)))))) 4294967296)])then(k3 [U d3 0,nI (U d3 1),bc (↑(av (aq (U d3 2))+1):Int),bc (ar ba (aq (U d3 3)+1)),U d3 4,dc (eu (av (aq (U d3 2))) (ax (U d3 5))++[bc (bn (ar ay (aq (bt (ax (U d3 0)) (av (aq (U d3 3))) dj)+aq (bj (U d3 4) (0+av (aq (U d3 3)))))) 4294967296)])] [])else none))else none)else none)else none)else(gA (U d3 5) (k2 [nI (U d3 2),U d3 5] [])))
def KT (k2:KD R):KD R->KD R:=fun k3 I m2=>(bif decide (aq (U I 4)<64)then(if 0<=bn (ar ba (69-aq (U I 4))) 8/\bn (ar ba (69-aq (U I 4))) 8<(↑(av (aq (U I 2))):Int)then(if 0<=bn (ar ba (70-aq (U I 4))) 8/\bn (ar ba (70-aq (U I 4))) 8<(↑(av (aq (U I 2))):Int)then(if 0<=bn (ar ba (68-aq (U I 4))) 8/\bn (ar ba (68-aq (U I 4))) 8<(↑(av (aq (U I 2))):Int)then(Df N (bj (U I 5) (0+av (bn (ar ba (68-aq (U I 4))) 8))) (bc 6) (de true) (fun d3 m3=>(if 0<=bn (ar ba (68-aq (U I 4))) 8/\bn (ar ba (68-aq (U I 4))) 8<(↑(av (aq (U I 2))):Int)then(Df N (bj (U I 5) (0+av (bn (ar ba (68-aq (U I 4))) 8))) (bc 11) (de true) (fun d4 m4=>(if 0<=bn (ar ba (68-aq (U I 4))) 8/\bn (ar ba (68-aq (U I 4))) 8<(↑(av (aq (U I 2))):Int)then(Df N (bj (U I 5) (0+av (bn (ar ba (68-aq (U I 4))) 8))) (bc 25) (de true) (fun d5 m5=>(if 0<=bn (ar ba (71-aq (U I 4))) 8/\bn (ar ba (71-aq (U I 4))) 8<(↑(av (aq (U I 2))):Int)then(if 0<=bn (ar ba (68-aq (U I 4))) 8/\bn (ar ba (68-aq (U I 4))) 8<(↑(av (aq (U I 2))):Int)then(if 0<=bn (ar ba (68-aq (U I 4))) 8/\bn (ar ba (68-aq (U I 4))) 8<(↑(av (aq (U I 2))):Int)then(KV N (bj (U I 1) 1) (U I 4) (fun d6 m6=>(if 0<=aq (U I 4)/\aq (U I 4)<(↑(au (ax (U I 3))):Int)then(if 0<=bn (ar ba (65-aq (U I 4))) 8/\bn (ar ba (65-aq (U I 4))) 8<(↑(av (aq (U I 2))):Int)then(if 0<=bn (ar ba (66-aq (U I 4))) 8/\bn (ar ba (66-aq (U I 4))) 8<(↑(av (aq (U I 2))):Int)then(if 0<=bn (ar ba (64-aq (U I 4))) 8/\bn (ar ba (64-aq (U I 4))) 8<(↑(av (aq (U I 2))):Int)then(Df N (bj (U I 5) (0+av (bn (ar ba (64-aq (U I 4))) 8))) (bc 2) (de true) (fun d7 m7=>(if 0<=bn (ar ba (64-aq (U I 4))) 8/\bn (ar ba (64-aq (U I 4))) 8<(↑(av (aq (U I 2))):Int)then(Df N (bj (U I 5) (0+av (bn (ar ba (64-aq (U I 4))) 8))) (bc 13) (de true) (fun d8 m8=>(if 0<=bn (ar ba (64-aq (U I 4))) 8/\bn (ar ba (64-aq (U I 4))) 8<(↑(av (aq (U I 2))):Int)then(Df N (bj (U I 5) (0+av (bn (ar ba (64-aq (U I 4))) 8))) (bc 22) (de true) (fun d9 m9=>(if 0<=bn (ar ba (67-aq (U I 4))) 8/\bn (ar ba (67-aq (U I 4))) 8<(↑(av (aq (U I 2))):Int)then(if 0<=bn (ar ba (67-aq (U I 4))) 8/\bn (ar ba (67-aq (U I 4))) 8<(↑(av (aq (U I 2))):Int)then(if 0<=bn (ar ba (64-aq (U I 4))) 8/\bn (ar ba (64-aq (U I 4))) 8<(↑(av (aq (U I 2))):Int)then(if 0<=bn (ar ba (64-aq (U I 4))) 8/\bn (ar ba (64-aq (U I 4))) 8<(↑(av (aq (U I 2))):Int)then(if 0<=bn (ar ba (71-aq (U I 4))) 8/\bn (ar ba (71-aq (U I 4))) 8<(↑(av (aq (U I 2))):Int)then(bif df (au (ax (U I 3))) (au (ax (U I 3)))then(if au (ax (U I 5))=au (ax (cn (cn (U I 5) (0+av (bn (ar ba (67-aq (U I 4))) 8)) (bc (bn (ar ay (aq (bj (U I 5) (0+av (bn (ar ba (67-aq (U I 4))) 8)))+ar ay (ar ay (ar ay (ar ay (aq (bj (U I 5) (0+av (bn (ar ba (71-aq (U I 4))) 8)))+BV dz ay (BV dz ay (aq (U d3 0)) (aq (U d4 0))) (aq (U d5 0)))+ar ay (BV fi ay (aq (bj (U I 5) (0+av (bn (ar ba (68-aq (U I 4))) 8)))) (aq (bj (U I 5) (0+av (bn (ar ba (69-aq (U I 4))) 8))))+BV fi ay (ar ay (4294967295-aq (bj (U I 5) (0+av (bn (ar ba (68-aq (U I 4))) 8))))) (aq (bj (U I 5) (0+av (bn (ar ba (70-aq (U I 4))) 8))))))+aq (U d6 0))+aq (bt (ax (U I 3)) (av (aq (U I 4))) dj)))) 4294967296))) (0+av (bn (ar ba (71-aq (U I 4))) 8)) (bc (bn (ar ay (ar ay (ar ay (ar ay (ar ay (ar ay (aq (bj (U I 5) (0+av (bn (ar ba (71-aq (U I 4))) 8)))+BV dz ay (BV dz ay (aq (U d3 0)) (aq (U d4 0))) (aq (U d5 0)))+ar ay (BV fi ay (aq (bj (U I 5) (0+av (bn (ar ba (68-aq (U I 4))) 8)))) (aq (bj (U I 5) (0+av (bn (ar ba (69-aq (U I 4))) 8))))+BV fi ay (ar ay (4294967295-aq (bj (U I 5) (0+av (bn (ar ba (68-aq (U I 4))) 8))))) (aq (bj (U I 5) (0+av (bn (ar ba (70-aq (U I 4))) 8))))))+aq (U d6 0))+aq (bt (ax (U I 3)) (av (aq (U I 4))) dj))+BV dz ay (BV dz ay (aq (U d7 0)) (aq (U d8 0))) (aq (U d9 0)))+BV dz ay (BV dz ay (BV fi ay (aq (bj (cn (U I 5) (0+av (bn (ar ba (67-aq (U I 4))) 8)) (bc (bn (ar ay (aq (bj (U I 5) (0+av (bn (ar ba (67-aq (U I 4))) 8)))+ar ay (ar ay (ar ay (ar ay (aq (bj (U I 5) (0+av (bn (ar ba (71-aq (U I 4))) 8)))+BV dz ay (BV dz ay (aq (U d3 0)) (aq (U d4 0))) (aq (U d5 0)))+ar ay (BV fi ay (aq (bj (U I 5) (0+av (bn (ar ba (68-aq (U I 4))) 8)))) (aq (bj (U I 5) (0+av (bn (ar ba (69-aq (U I 4))) 8))))+BV fi ay (ar ay (4294967295-aq (bj (U I 5) (0+av (bn (ar ba (68-aq (U I 4))) 8))))) (aq (bj (U I 5) (0+av (bn (ar ba (70-aq (U I 4))) 8))))))+aq (U d6 0))+aq (bt (ax (U I 3)) (av (aq (U I 4))) dj)))) 4294967296))) (0+av (bn (ar ba (64-aq (U I 4))) 8)))) (aq (bj (U I 5) (0+av (bn (ar ba (65-aq (U I 4))) 8))))) (BV fi ay (aq (bj (cn (U I 5) (0+av (bn (ar ba (67-aq (U I 4))) 8)) (bc (bn (ar ay (aq (bj (U I 5) (0+av (bn (ar ba (67-aq (U I 4))) 8)))+ar ay (ar ay (ar ay (ar ay (aq (bj (U I 5) (0+av (bn (ar ba (71-aq (U I 4))) 8)))+BV dz ay (BV dz ay (aq (U d3 0)) (aq (U d4 0))) (aq (U d5 0)))+ar ay (BV fi ay (aq (bj (U I 5) (0+av (bn (ar ba (68-aq (U I 4))) 8)))) (aq (bj (U I 5) (0+av (bn (ar ba (69-aq (U I 4))) 8))))+BV fi ay (ar ay (4294967295-aq (bj (U I 5) (0+av (bn (ar ba (68-aq (U I 4))) 8))))) (aq (bj (U I 5) (0+av (bn (ar ba (70-aq (U I 4))) 8))))))+aq (U d6 0))+aq (bt (ax (U I 3)) (av (aq (U I 4))) dj)))) 4294967296))) (0+av (bn (ar ba (64-aq (U I 4))) 8)))) (aq (bj (U I 5) (0+av (bn (ar ba (66-aq (U I 4))) 8)))))) (BV fi ay (aq (bj (U I 5) (0+av (bn (ar ba (65-aq (U I 4))) 8)))) (aq (bj (U I 5) (0+av (bn (ar ba (66-aq (U I 4))) 8))))))) 4294967296))))then(k3 [U I 0,U I 1,nI (U I 2),bw (ax (U I 3)),bc (ar ba (aq (U I 4)+1)),cn (cn (U I 5) (0+av (bn (ar ba (67-aq (U I 4))) 8)) (bc (bn (ar ay (aq (bj (U I 5) (0+av (bn (ar ba (67-aq (U I 4))) 8)))+ar ay (ar ay (ar ay (ar ay (aq (bj (U I 5) (0+av (bn (ar ba (71-aq (U I 4))) 8)))+BV dz ay (BV dz ay (aq (U d3 0)) (aq (U d4 0))) (aq (U d5 0)))+ar ay (BV fi ay (aq (bj (U I 5) (0+av (bn (ar ba (68-aq (U I 4))) 8)))) (aq (bj (U I 5) (0+av (bn (ar ba (69-aq (U I 4))) 8))))+BV fi ay (ar ay (4294967295-aq (bj (U I 5) (0+av (bn (ar ba (68-aq (U I 4))) 8))))) (aq (bj (U I 5) (0+av (bn (ar ba (70-aq (U I 4))) 8))))))+aq (U d6 0))+aq (bt (ax (U I 3)) (av (aq (U I 4))) dj)))) 4294967296))) (0+av (bn (ar ba (71-aq (U I 4))) 8)) (bc (bn (ar ay (ar ay (ar ay (ar ay (ar ay (ar ay (aq (bj (U I 5) (0+av (bn (ar ba (71-aq (U I 4))) 8)))+BV dz ay (BV dz ay (aq (U d3 0)) (aq (U d4 0))) (aq (U d5 0)))+ar ay (BV fi ay (aq (bj (U I 5) (0+av (bn (ar ba (68-aq (U I 4))) 8)))) (aq (bj (U I 5) (0+av (bn (ar ba (69-aq (U I 4))) 8))))+BV fi ay (ar ay (4294967295-aq (bj (U I 5) (0+av (bn (ar ba (68-aq (U I 4))) 8))))) (aq (bj (U I 5) (0+av (bn (ar ba (70-aq (U I 4))) 8))))))+aq (U d6 0))+aq (bt (ax (U I 3)) (av (aq (U I 4))) dj))+BV dz ay (BV dz ay (aq (U d7 0)) (aq (U d8 0))) (aq (U d9 0)))+BV dz ay (BV dz ay (BV fi ay (aq (bj (cn (U I 5) (0+av (bn (ar ba (67-aq (U I 4))) 8)) (bc (bn (ar ay (aq (bj (U I 5) (0+av (bn (ar ba (67-aq (U I 4))) 8)))+ar ay (ar ay (ar ay (ar ay (aq (bj (U I 5) (0+av (bn (ar ba (71-aq (U I 4))) 8)))+BV dz ay (BV dz ay (aq (U d3 0)) (aq (U d4 0))) (aq (U d5 0)))+ar ay (BV fi ay (aq (bj (U I 5) (0+av (bn (ar ba (68-aq (U I 4))) 8)))) (aq (bj (U I 5) (0+av (bn (ar ba (69-aq (U I 4))) 8))))+BV fi ay (ar ay (4294967295-aq (bj (U I 5) (0+av (bn (ar ba (68-aq (U I 4))) 8))))) (aq (bj (U I 5) (0+av (bn (ar ba (70-aq (U I 4))) 8))))))+aq (U d6 0))+aq (bt (ax (U I 3)) (av (aq (U I 4))) dj)))) 4294967296))) (0+av (bn (ar ba (64-aq (U I 4))) 8)))) (aq (bj (U I 5) (0+av (bn (ar ba (65-aq (U I 4))) 8))))) (BV fi ay (aq (bj (cn (U I 5) (0+av (bn (ar ba (67-aq (U I 4))) 8)) (bc (bn (ar ay (aq (bj (U I 5) (0+av (bn (ar ba (67-aq (U I 4))) 8)))+ar ay (ar ay (ar ay (ar ay (aq (bj (U I 5) (0+av (bn (ar ba (71-aq (U I 4))) 8)))+BV dz ay (BV dz ay (aq (U d3 0)) (aq (U d4 0))) (aq (U d5 0)))+ar ay (BV fi ay (aq (bj (U I 5) (0+av (bn (ar ba (68-aq (U I 4))) 8)))) (aq (bj (U I 5) (0+av (bn (ar ba (69-aq (U I 4))) 8))))+BV fi ay (ar ay (4294967295-aq (bj (U I 5) (0+av (bn (ar ba (68-aq (U I 4))) 8))))) (aq (bj (U I 5) (0+av (bn (ar ba (70-aq (U I 4))) 8))))))+aq (U d6 0))+aq (bt (ax (U I 3)) (av (aq (U I 4))) dj)))) 4294967296))) (0+av (bn (ar ba (64-aq (U I 4))) 8)))) (aq (bj (U I 5) (0+av (bn (ar ba (66-aq (U I 4))) 8)))))) (BV fi ay (aq (bj (U I 5) (0+av (bn (ar ba (65-aq (U I 4))) 8)))) (aq (bj (U I 5) (0+av (bn (ar ba (66-aq (U I 4))) 8))))))) 4294967296))] [])else none)else none)else none)else none)else none)else none)else none)))else none)))else none)))else none)else none)else none)else none)))else none)else none)else none)))else none)))else none)))else none)else none)else none)else(gA (U I 5) (k2 [U I 0,nI (U I 2),U I 5] [])))
def Jl (k2:KD R):KD R->KD R:=fun k3 J m1=>(bif decide (aq (U J 4)<64)then(jn (fun I m2=>(bif df (au (ax (U I 4))) (au (ax (U I 4)))then(k3 [U I 0,U I 1,U I 2,bw (ax (U I 4)),bc (ar ba (aq (U I 3)+1))] [])else none)) (fun k4=>(bif decide (aq (U J 4)<16)then(if 0<=ar ba (4*aq (U J 4))/\ar ba (4*aq (U J 4))<(↑(au (ax (U J 1))):Int)then(if 0<=ar ba (ar ba (4*aq (U J 4))+1)/\ar ba (ar ba (4*aq (U J 4))+1)<(↑(au (ax (U J 1))):Int)then(if 0<=ar ba (ar ba (4*aq (U J 4))+2)/\ar ba (ar ba (4*aq (U J 4))+2)<(↑(au (ax (U J 1))):Int)then(if 0<=ar ba (ar ba (4*aq (U J 4))+3)/\ar ba (ar ba (4*aq (U J 4))+3)<(↑(au (ax (U J 1))):Int)then(bif df (au (ax (U J 3))) (au (ax (U J 3)))then(if(au (ax (U J 3))+1)*8<=140737488355328/\au (ax (U J 3))+1<=9223372036854775807 then(bif df (au (ax (U J 3))+1) (au (ax (U J 3)++[bc (ar ay (ar ay (ar ay (ar ay (ar ay (ar ay (ar ay (aq (bt (ax (U J 1)) (av (ar ba (4*aq (U J 4)))) dj))*256)+ar ay (aq (bt (ax (U J 1)) (av (ar ba (ar ba (4*aq (U J 4))+1))) dj)))*256)+ar ay (aq (bt (ax (U J 1)) (av (ar ba (ar ba (4*aq (U J 4))+2))) dj)))*256)+ar ay (aq (bt (ax (U J 1)) (av (ar ba (ar ba (4*aq (U J 4))+3))) dj))))]))then(k4 [U J 0,U J 1,U J 2,U J 4,bw (ax (U J 3)++[bc (ar ay (ar ay (ar ay (ar ay (ar ay (ar ay (ar ay (aq (bt (ax (U J 1)) (av (ar ba (4*aq (U J 4)))) dj))*256)+ar ay (aq (bt (ax (U J 1)) (av (ar ba (ar ba (4*aq (U J 4))+1))) dj)))*256)+ar ay (aq (bt (ax (U J 1)) (av (ar ba (ar ba (4*aq (U J 4))+2))) dj)))*256)+ar ay (aq (bt (ax (U J 1)) (av (ar ba (ar ba (4*aq (U J 4))+3))) dj))))])] [])else none)else none)else none)else none)else none)else none)else none)else(if 0<=ar ba (aq (U J 4)-15)/\ar ba (aq (U J 4)-15)<(↑(au (ax (U J 3))):Int)then(if 0<=ar ba (aq (U J 4)-2)/\ar ba (aq (U J 4)-2)<(↑(au (ax (U J 3))):Int)then(Df N (bt (ax (U J 3)) (av (ar ba (aq (U J 4)-15))) dj) (bc 7) (de true) (fun I m2=>(Df N (bt (ax (U J 3)) (av (ar ba (aq (U J 4)-15))) dj) (bc 18) (de true) (fun d3 m3=>(Df N (bt (ax (U J 3)) (av (ar ba (aq (U J 4)-15))) dj) (bc 3) (de false) (fun d4 m4=>(Df N (bt (ax (U J 3)) (av (ar ba (aq (U J 4)-2))) dj) (bc 17) (de true) (fun d5 m5=>(Df N (bt (ax (U J 3)) (av (ar ba (aq (U J 4)-2))) dj) (bc 19) (de true) (fun d6 m6=>(Df N (bt (ax (U J 3)) (av (ar ba (aq (U J 4)-2))) dj) (bc 10) (de false) (fun d7 m7=>(if 0<=ar ba (aq (U J 4)-16)/\ar ba (aq (U J 4)-16)<(↑(au (ax (U J 3))):Int)then(if 0<=ar ba (aq (U J 4)-7)/\ar ba (aq (U J 4)-7)<(↑(au (ax (U J 3))):Int)then(bif df (au (ax (U J 3))) (au (ax (U J 3)))then(if(au (ax (U J 3))+1)*8<=140737488355328/\au (ax (U J 3))+1<=9223372036854775807 then(bif df (au (ax (U J 3))+1) (au (ax (U J 3)++[bc (bn (ar ay (ar ay (ar ay (aq (bt (ax (U J 3)) (av (ar ba (aq (U J 4)-16))) dj)+BV dz ay (BV dz ay (aq (U I 0)) (aq (U d3 0))) (aq (U d4 0)))+aq (bt (ax (U J 3)) (av (ar ba (aq (U J 4)-7))) dj))+BV dz ay (BV dz ay (aq (U d5 0)) (aq (U d6 0))) (aq (U d7 0)))) 4294967296)]))then(k4 [U J 0,U J 1,U J 2,U J 4,bw (ax (U J 3)++[bc (bn (ar ay (ar ay (ar ay (aq (bt (ax (U J 3)) (av (ar ba (aq (U J 4)-16))) dj)+BV dz ay (BV dz ay (aq (U I 0)) (aq (U d3 0))) (aq (U d4 0)))+aq (bt (ax (U J 3)) (av (ar ba (aq (U J 4)-7))) dj))+BV dz ay (BV dz ay (aq (U d5 0)) (aq (U d6 0))) (aq (U d7 0)))) 4294967296)])] [])else none)else none)else none)else none)else none)))))))))))))else none)else none))))else(bif df (au (ax (U J 3))) (au (ax (U J 3)))then(k2 [U J 0,U J 2,bw (ax (U J 3))] [])else none))
def WT (a0 a1 a2:C) (k1:KD R):Option R:=jn (fun J m1=>(if List.isEmpty (ax (U J 0))=false then(jn (fun I m2=>(jn (fun d3 m3=>(gA (U d3 1) (k1 [nI (U d3 0),U d3 1] []))) (fun k2=>(gA (U I 2) (BR N (Lp N k2) [U I 0,nI (U I 1),bc 0,bc 0,U I 2,dc []] []))))) (fun k2=>(bif df (au (ax (U J 2))) (au (ax (U J 2)))then(gA (U J 0) (BR N (KT N k2) [U J 0,U J 1,bc (↑(au (ax (U J 0))):Int),bw (ax (U J 2)),bc 0,dc (ax (U J 0))] []))else none)))else none)) (fun k2=>(BR N (Jl N k2) [a1,a2,a0,bw [],bc 0] []))
def NX:=lid "" (@WT R N)
theorem cU {R N a0 a1 a2 k}:@NX R N a0 a1 a2 k=WT N a0 a1 a2 k:=by unfold NX;rw[BQ]
def q6J:OvG R:=Bq [Bf,.slice 8 (.int .u64),.slice 1 (.int .u8)] (Kx (NX N)) fun a K J m1=>K (V.sr (Key.l 1) [] 0 (av (aq (U J 0))) none 8 (bm ay)) [(Key.l 1,O.box (V.d (ca (au (ax (U J 1))) (bm ay)) (U J 1)))]
theorem q6K:okX 144 (@q6J R N):=CV (BJ (vQ N) <| BJ (q6P N) <| BT) N [(144,[(0,[(3,5)]),(12,[(115,3)]),(18,[(148,7),(153,7),(159,7)]),(19,[(185,7)]),(21,[(208,7),(213,7),(219,7)])])] [(144,[([1,0,1,1],⟨[1,3],[(7,.sl 8 (.int .u64) 5007)],[],[],[],[(.int .u64)]⟩),
  ([4,1,0,1,1],⟨[1,2,3],[(7,.sl 8 (.int .u64) 5007),(8,.d (.int .i64))],[],[],[],[(.int .u64)]⟩),
  ([0,1,5,4,1,0,1,1],⟨[1,2,3,8],[(7,.sl 8 (.int .u64) 5007)],[],[],[],[(.int .u64)]⟩),
  ([1,0,1,1,1,1,1],⟨[1,11],[],[],[],[],[(.int .u64)]⟩),
  ([4,1,0,1,1,1,1,1],⟨[1,3,11],[(7,.sl 8 (.int .u64) 5007),(12,.d (.int .i64))],[],[],[],[(.int .u64)]⟩),
  ([1,0,1,1,1,1,1,1,1],⟨[],[(24,.vec (.l 1000000000195) 8 (.int .u64))],[],[],[],[(.int .u64)]⟩),
  ([4,1,0,1,1,1,1,1,1,1],⟨[1,11],[(24,.vec (.l 1000000000195) 8 (.int .u64)),(25,.d (.int .i64))],[],[],[],[(.int .u64)]⟩),
  ([9],⟨[],[(6,.vec (.l 1) 8 (.int .u64))],[],[(.l 1,.box (.arr (.int .u64)))],[],[(.int .u64)]⟩)])] (fun _ _=>cU)
def Ll {R:Type} (N:Nat) (k2:KD R):KD R->KD R:=fun k3 d5 m5=>(bif decide (0<=aq (U d5 1))then(if 0<=ar ba (fc (aq (U d5 1)) 4)/\ar ba (fc (aq (U d5 1)) 4)<(↑(av (aq (U d5 0))):Int)then(if 0<=aq (U d5 1)/\aq (U d5 1)<32 then(if 0<=ar ba (fc (aq (U d5 1)) 4)/\ar ba (fc (aq (U d5 1)) 4)<(↑(av (aq (U d5 0))):Int)then(if 0<=ar ba (fc (aq (U d5 1)) 4)/\ar ba (fc (aq (U d5 1)) 4)<(↑(av (aq (U d5 0))):Int)then(if au (ax (U d5 4))=au (ax (cn (U d5 4) (0+av (ar ba (fc (aq (U d5 1)) 4))) (bc (ar ay (fc (aq (bj (U d5 4) (0+av (ar ba (fc (aq (U d5 1)) 4))))) 256)))))then(k3 [nI (U d5 0),bc (ar ba (aq (U d5 1)-1)),U d5 2,cn (U d5 3) (av (aq (U d5 1))) (bc (ar cq (bn (aq (bj (U d5 4) (0+av (ar ba (fc (aq (U d5 1)) 4))))) 256))),cn (U d5 4) (0+av (ar ba (fc (aq (U d5 1)) 4))) (bc (ar ay (fc (aq (bj (U d5 4) (0+av (ar ba (fc (aq (U d5 1)) 4))))) 256)))] [])else none)else none)else none)else none)else none)else(k2 [U d5 2,U d5 3] []))
def NV (k2:KD R):KD R->KD R:=fun k3 d4 m4=>(bif decide (0<(↑(au (ax (U d4 1))):Int))then(if jc 0<=0/\jc 0<=64/\64<=(↑(au (ax (U d4 1))):Int)then(NX N (U d4 0) (bw (eu (av (aq (U d4 2))) (iy 0 (ax (U d4 4))))) (bw (cut (ax (U d4 1)) 0 64)) (fun d5 m5=>(if jc 0<=64/\64<=(↑(au (ax (U d4 1))):Int)/\(↑(au (ax (U d4 1))):Int)<=(↑(au (ax (U d4 1))):Int)then(gA (U d5 1) (k3 [U d4 0,bw (cut (ax (U d4 1)) 64 (↑(au (ax (U d4 1))):Int)),nI (U d5 0),U d4 3,U d5 1] []))else none)))else none)else(gA (U d4 4) (k2 [nI (U d4 2),U d4 3,U d4 4] [])))
def Lm (k2:KD R):KD R->KD R:=fun k3 d3 m3=>(bif decide (aq (U d3 3)<8)then(KV N (bj (U d3 0) 0) (U d3 3) (fun d4 m4=>(if 0<=aq (U d3 3)/\aq (U d3 3)<(↑(av (aq (U d3 2))):Int)then(bif df (au (ax (U d3 1))) (au (ax (U d3 1)))then(if au (ax (U d3 5))=au (ax (cn (U d3 5) (0+av (aq (U d3 3))) (U d4 0)))then(k3 [U d3 0,bw (ax (U d3 1)),nI (U d3 2),bc (ar ba (aq (U d3 3)+1)),U d3 4,cn (U d3 5) (0+av (aq (U d3 3))) (U d4 0)] [])else none)else none)else none)))else(bif df (au (ax (U d3 1))) (au (ax (U d3 1)))then(gA (U d3 5) (k2 [U d3 0,bw (ax (U d3 1)),nI (U d3 2),U d3 4,U d3 5] []))else none))
def KR {R:Type} (N:Nat) (k2:KD R):KD R->KD R:=fun k3 I m2=>(bif decide (0<=aq (U I 6))then(if 0<=aq (U I 6)/\aq (U I 6)<(↑(av (aq (U I 2))):Int)then(bif df (au (ax (U I 4))) (au (ax (U I 4)))then(k3 [U I 0,nI (U I 1),nI (U I 2),nI (U I 3),bw (ax (U I 4)),bc (ar ay (fc (aq (U I 5)) 256)),bc (ar ba (aq (U I 6)-1)),U I 7,cn (U I 8) (av (aq (U I 1))+av (aq (U I 6))) (bc (ar cq (bn (aq (U I 5)) 256)))] [])else none)else none)else(bif df (au (ax (U I 4))) (au (ax (U I 4)))then(k2 [U I 0,nI (U I 1),nI (U I 2),nI (U I 3),bw (ax (U I 4)),U I 7,U I 8] [])else none))
def Ln {R:Type} (N:Nat) (k2:KD R):KD R->KD R:=fun k3 J m1=>(bif !decide (bn (↑(au (ax (U J 2))):Int) 64=56)then(bif df (au (ax (U J 2))) (au (ax (U J 2)))then(if(au (ax (U J 2))+1)*1<=140737488355328/\au (ax (U J 2))+1<=9223372036854775807 then(bif df (au (ax (U J 2))+1) (au (ax (U J 2)++[bc 0]))then(k3 [U J 0,U J 1,bw (ax (U J 2)++[bc 0]),U J 3] [])else none)else none)else none)else(bif df (au (ax (U J 2))) (au (ax (U J 2)))then(k2 [U J 0,U J 1,bw (ax (U J 2)),U J 3] [])else none))
def WS (a0 a1:C) (k1:KD R):Option R:=bif df (au (ax a1)) (au (ax a1))then(if(au (ax a1)+1)*1<=140737488355328/\au (ax a1)+1<=9223372036854775807 then(jn (fun J m1=>(jn (fun I m2=>(bif df (au (ax (U I 4))) (au (ax (U I 4)))then(if(au (ax (U I 4))+au (eu (av (aq (U I 2))) (iy (av (aq (U I 1))) (ax (U I 6)))))*1<=140737488355328/\au (ax (U I 4))+au (eu (av (aq (U I 2))) (iy (av (aq (U I 1))) (ax (U I 6))))<=9223372036854775807 then(jn (fun d3 m3=>(jn (fun d4 m4=>(jn (fun d5 m5=>(k1 [U d5 1] [])) (fun k2=>(gA (U d4 2) (BR N (Ll N k2) [nI (U d4 0),bc 31,U d4 1,AI (ca 32 (bm cq)),U d4 2] []))))) (fun k2=>(gA (U d3 4) (BR N (NV N k2) [U d3 0,bw (ax (U d3 1)),nI (U d3 2),U d3 3,U d3 4] []))))) (fun k2=>(bif df (au (ax (U I 4))+au (eu (av (aq (U I 2))) (iy (av (aq (U I 1))) (ax (U I 6))))) (au (ax (U I 4)++eu (av (aq (U I 2))) (iy (av (aq (U I 1))) (ax (U I 6)))))then(BR N (Lm N k2) [U I 0,bw (ax (U I 4)++eu (av (aq (U I 2))) (iy (av (aq (U I 1))) (ax (U I 6)))),bc (↑(av 8):Int),bc 0,U I 5,dc (bp 8 (AI (bm ay)))] [])else none)))else none)else none)) (fun k2=>(bif df (au (ax (U J 2))) (au (ax (U J 2)))then(BR N (KR N k2) [U J 1,bc 0,bc (↑(av 8):Int),bc (↑(av 8):Int),bw (ax (U J 2)),bc (ar ay (ar ay (↑(au (ax (U J 0))):Int)*8)),bc 7,U J 3,dc (bp 8 (AI (bm cq)))] [])else none)))) (fun k2=>(bif df (au (ax a1)+1) (au (ax a1++[bc 128]))then(BR N (Ln N k2) [a1,a0,bw (ax a1++[bc 128]),AI (ca 32 (bm cq))] [])else none)))else none)else none
def NW:=lid "" (@WS R N)
theorem cT {R N a0 a1 k}:@NW R N a0 a1 k=WS N a0 a1 k:=by unfold NW;rw[BQ]
def q6H:OvG R:=Bq [Bf,.slice 1 (.int .u8)] (FH (NW N)) (DM (ca 32 (bm cq)))
theorem q6I:okX 127 (@q6H R N):=CV (BJ (vQ N) <| BJ (q6K N) <| BT) N [(127,[(0,[(2,5)]),(13,[(45,9)]),(19,[(1000009,17)])])] [(127,[([0,1,1,1],⟨[1,2,4],[(5,.sl 1 (.int .u8) 5005)],[],[],[],[(.int .u64)]⟩),
  ([4,0,1,1,1],⟨[1,2,4],[(5,.sl 1 (.int .u8) 5005)],[],[],[],[(.int .u64)]⟩),
  ([1,0,1,1,1,1,1,1],⟨[2,4,7],[(5,.sl 1 (.int .u8) 5005)],[],[],[],[(.int .u64)]⟩),
  ([4,1,0,1,1,1,1,1,1],⟨[2,4,7],[(5,.sl 1 (.int .u8) 5005),(6,.d (.int .u64)),(8,.d (.int .i64))],[],[],[],[(.int .u64)]⟩),
  ([1,0,1,1,1,1,1,1,1,1,1],⟨[2,4],[(5,.sl 1 (.int .u8) 5005),(9,.vec (.l 1000000000075) 8 (.int .u64))],[],[],[],[(.int .u64)]⟩),
  ([4,1,0,1,1,1,1,1,1,1,1,1],⟨[2,4],[(5,.sl 1 (.int .u8) 5005),(9,.vec (.l 1000000000075) 8 (.int .u64)),(10,.d (.int .i64))],[],[],[],[(.int .u64)]⟩),
  ([0,1,1,1,1,1,1,1,1,1,1],⟨[4],[(9,.vec (.l 1000000000075) 8 (.int .u64))],[],[],[],[(.int .u64)]⟩),
  ([1,0,1,1,1,1,1,1,1,1,1,1,1,1],⟨[4,11],[],[],[],[],[(.int .u64)]⟩),
  ([4,1,0,1,1,1,1,1,1,1,1,1,1,1,1],⟨[4,11],[(9,.vec (.l 1000000000075) 8 (.int .u64)),(12,.d (.int .i64))],[],[],[],[(.int .u64)]⟩),
  ([9],⟨[],[(4,.as (.ptr (.l 4) [] (.arr 32 (.int .u8))))],[],[(.l 4,.box (.d (.arr 32 (.int .u8))))],[],[(.int .u64)]⟩),
  ([4,0,1,1,1,1,1,1,1,1,1,1],⟨[2,4],[(5,.d (.slice 1 (.int .u8))),(9,.vec (.l 1000000000075) 8 (.int .u64))],[],[],[],[(.int .u64)]⟩)])] (fun _ _=>cT)
def Lq {R:Type} (N:Nat) (k2:KD R):KD R->KD R:=fun k3 J m1=>(bif decide (aq (U J 2)<(↑(au (ax (U J 0))):Int))then(if 0<=aq (U J 2)/\aq (U J 2)<(↑(au (ax (U J 0))):Int)then(bif df (au (ax (U J 1))) (au (ax (U J 1)))then(if(au (ax (U J 1))+4)*1<=140737488355328/\au (ax (U J 1))+4<=9223372036854775807 then(if 0<=aq (U J 2)/\aq (U J 2)<(↑(au (ax (U J 0))):Int)then(bif df (au (ax (U J 1))+4) (au (ax (U J 1)++[bc (ar cq (ar ba (fc (↑(au (ax (bt (ax (U J 0)) (av (aq (U J 2))) dj))):Int) 16777216))),bc (ar cq (ar ba (fc (↑(au (ax (bt (ax (U J 0)) (av (aq (U J 2))) dj))):Int) 65536))),bc (ar cq (ar ba (fc (↑(au (ax (bt (ax (U J 0)) (av (aq (U J 2))) dj))):Int) 256))),bc (ar cq (↑(au (ax (bt (ax (U J 0)) (av (aq (U J 2))) dj))):Int))]))then(if(au (ax (U J 1)++[bc (ar cq (ar ba (fc (↑(au (ax (bt (ax (U J 0)) (av (aq (U J 2))) dj))):Int) 16777216))),bc (ar cq (ar ba (fc (↑(au (ax (bt (ax (U J 0)) (av (aq (U J 2))) dj))):Int) 65536))),bc (ar cq (ar ba (fc (↑(au (ax (bt (ax (U J 0)) (av (aq (U J 2))) dj))):Int) 256))),bc (ar cq (↑(au (ax (bt (ax (U J 0)) (av (aq (U J 2))) dj))):Int))])+au (ax (bt (ax (U J 0)) (av (aq (U J 2))) dj)))*1<=140737488355328/\au (ax (U J 1)++[bc (ar cq (ar ba (fc (↑(au (ax (bt (ax (U J 0)) (av (aq (U J 2))) dj))):Int) 16777216))),bc (ar cq (ar ba (fc (↑(au (ax (bt (ax (U J 0)) (av (aq (U J 2))) dj))):Int) 65536))),bc (ar cq (ar ba (fc (↑(au (ax (bt (ax (U J 0)) (av (aq (U J 2))) dj))):Int) 256))),bc (ar cq (↑(au (ax (bt (ax (U J 0)) (av (aq (U J 2))) dj))):Int))])+au (ax (bt (ax (U J 0)) (av (aq (U J 2))) dj))<=9223372036854775807 then(bif df (au (ax (U J 1)++[bc (ar cq (ar ba (fc (↑(au (ax (bt (ax (U J 0)) (av (aq (U J 2))) dj))):Int) 16777216))),bc (ar cq (ar ba (fc (↑(au (ax (bt (ax (U J 0)) (av (aq (U J 2))) dj))):Int) 65536))),bc (ar cq (ar ba (fc (↑(au (ax (bt (ax (U J 0)) (av (aq (U J 2))) dj))):Int) 256))),bc (ar cq (↑(au (ax (bt (ax (U J 0)) (av (aq (U J 2))) dj))):Int))])+au (ax (bt (ax (U J 0)) (av (aq (U J 2))) dj))) (au (ax (U J 1)++[bc (ar cq (ar ba (fc (↑(au (ax (bt (ax (U J 0)) (av (aq (U J 2))) dj))):Int) 16777216))),bc (ar cq (ar ba (fc (↑(au (ax (bt (ax (U J 0)) (av (aq (U J 2))) dj))):Int) 65536))),bc (ar cq (ar ba (fc (↑(au (ax (bt (ax (U J 0)) (av (aq (U J 2))) dj))):Int) 256))),bc (ar cq (↑(au (ax (bt (ax (U J 0)) (av (aq (U J 2))) dj))):Int))]++ax (bt (ax (U J 0)) (av (aq (U J 2))) dj)))then(k3 [U J 0,bw (ax (U J 1)++[bc (ar cq (ar ba (fc (↑(au (ax (bt (ax (U J 0)) (av (aq (U J 2))) dj))):Int) 16777216))),bc (ar cq (ar ba (fc (↑(au (ax (bt (ax (U J 0)) (av (aq (U J 2))) dj))):Int) 65536))),bc (ar cq (ar ba (fc (↑(au (ax (bt (ax (U J 0)) (av (aq (U J 2))) dj))):Int) 256))),bc (ar cq (↑(au (ax (bt (ax (U J 0)) (av (aq (U J 2))) dj))):Int))]++ax (bt (ax (U J 0)) (av (aq (U J 2))) dj)),bc (ar ba (aq (U J 2)+1))] [])else none)else none)else none)else none)else none)else none)else none)else(bif df (au (ax (U J 1))) (au (ax (U J 1)))then(k2 [bw (ax (U J 1))] [])else none))
def WU (a0 a1:C) (k1:KD R):Option R:=jn (fun J m1=>(bif df (au (ax (U J 0))) (au (ax (U J 0)))then(k1 [bw (ax (U J 0))] [])else none)) (fun k2=>(BR N (Lq N k2) [a1,bw [a0,bc (ar cq (↑(au (ax a1)):Int))],bc 0] []))
def Px:=lid "" (@WU R N)
theorem cV {R N a0 a1 k}:@Px R N a0 a1 k=WU N a0 a1 k:=by unfold Px;rw[BQ]
def q6L:OvG R:=Bq [.int .u8,.slice 24 (.slice 1 (.int .u8))] (FH (Px N)) fun a K J m1=>K (V.ts 1 (bm cq) (ax (U J 0))) []
theorem q6M:okX 128 (@q6L R N):=CV BT N [(128,[(1,[(12,4)])])] [(128,[([1,0,1,1],(Ct [(5,.sl 1 (.int .u8) 5005)])),
  ([4,1,0,1,1],(Cz [1] [(5,.sl 1 (.int .u8) 5005),(6,.d (.int .i64))])),
  ([9],(Ct [(4,.sl 1 (.int .u8) 5004)]))])] (fun _ _=>cV) fun a K=>(show _=jn (fun J m1=>(bif df (au (ax (U J 0))) (au (ax (U J 0)))then
  (K (V.ts 1 (bm cq) (ax (U J 0))) [])
 else
  none)) _ by kernel_rfl).trans (congrArg (fun k=>jn k _) (funext fun _=>funext fun _=>by simp only[bh,cond_true]))
def WQ (a0 a1 a2:C) (k1:KD R):Option R:=Px N a1 a2 (fun J m1=>(NW N a0 (bw (ax (U J 0))) (fun I m2=>(k1 [U I 0] []))))
def Pv:=lid "" (@WQ R N)
theorem cR {R N a0 a1 a2 k}:@Pv R N a0 a1 a2 k=WQ N a0 a1 a2 k:=by unfold Pv;rw[BQ]
def q6D:OvG R:=Bq [Bf,.int .u8,.slice 24 (.slice 1 (.int .u8))] (Kx (Pv N)) (DM (ca 32 (bm cq)))
theorem q6E:okX 112 (@q6D R N):=CV (BJ (q6I N) <| BJ (q6M N) <| BT) N [(112,[(0,[(3,5)]),(1,[(11,7)])])] [(112,[([9],⟨[],[(6,.as (.ptr (.l 6) [] (.arr 32 (.int .u8))))],[],[(.l 6,.box (.d (.arr 32 (.int .u8))))],[],[]⟩)])] (fun _ _=>cR)
section
variable {R:Type} {N:Nat}
def lB (b:Int):Int:=if 97<=b then IntKind.u64.wrap (b-39)else b
def KG (s:List UInt8) (n:Nat):Nat->Int
 |0=>0|i+1=>IntKind.u64.wrap (IntKind.u64.wrap (IntKind.u64.wrap (KG s n i*16)+lB (IntKind.u64.wrap ((s.getD (8*n+i) (pk 0)).toNat:Int)))-48)
theorem iR (s:C) (n:Nat) (h1:8*n+8<=s.toStr.length) (h2:n<=1000) (hN:100<N) (k:KD R):KV N s (.int n) k=k [.int (KG s.toStr n 8)] []:=by
 have q1:IntKind.i64.wrap (8*(n:Int))=8*n:=wrap_i64 (by omega) (by omega);have q2:IntKind.i64.wrap (8*(n:Int)+8)=8*n+8:=wrap_i64 (by omega) (by omega);have lp:∀K:KD R,BR N (KU N K) [s,.int n,.int 0,.int (8*n+(0:Nat))] []=K [.int (KG s.toStr n 8)] []:=fun K=>by
  refine Ee (F:=KU N K) (fun i=>[s,.int n,.int (KG s.toStr n i),.int (8*n+(i:Nat))]) (fun _=>[]) 8 _ ?_ ?_ (N:=N) (by omega)
  ·intro i hi rec;have e1:8*(n:Int)+i<8*n+8:=by omega
   have e2:0<=8*(n:Int)+i/\8*(n:Int)+i<(s.toStr.length:Int):=by omega
   have e3:IntKind.i64.wrap (8*(n:Int)+i+1)=8*n+((i+1:Nat):Int):=by rw[wrap_i64 (by omega) (by omega)];omega
   have e4:(8*(n:Int)+i).toNat=8*n+i:=by omega
   unfold KU;simp only[AR,AF,AH,AJ,AL,AQ,AG,q1,q2,e1,e3,e4,AE,AB];refine(if_pos e2).trans ?_;simp only[KG,lB];by_cases z:97<=IntKind.u64.wrap ((bt s.toStr (8*n+i) (pk 0)).toNat:Int);{refine(congrArg (fun b=>cond b _ _) (decide_eq_true z)).trans ?_;rw[if_pos z];rfl};{refine(congrArg (fun b=>cond b _ _) (decide_eq_false z)).trans ?_;rw[if_neg z];rfl}
  ·intro rec;unfold KU;have e:¬8*(n:Int)+((8:Nat):Int)<8*n+8:=by omega
   simp only[AF,AH,AJ,AL,AG,q1,q2,e,AE,AB]
 rw[cW];unfold WV;simp only[AR,AG,q1,AB];rw[show(8*(n:Int))=8*n+(0:Nat) by omega];exact(lp _).trans rfl
structure GB (t:C):Prop where
 l0:(t.get 0).toStr.length=64
 l1:(t.get 1).toStr.length=512
 w0:∀i,i<8->KG (t.get 0).toStr i 8=((([1779033703,3144134277,1013904242,2773480762,1359893119,2600822924,528734635,1541459225]:List W32).getD i 0).toNat:Int)
 w1:∀i,i<64->KG (t.get 1).toStr i 8=((ksW.getD i 0).toNat:Int)
theorem Km (x:Int):IntKind.u64.wrap x=x%18446744073709551616:=by simp[ar,ny,lr]
theorem Vx (x:W32):dx 64 (x.toNat:Int)=x.setWidth 64:=by rw[oc];apply BitVec.eq_of_toNat_eq;simp
theorem x64 (x y:W32):BV dz ay (x.toNat:Int) (y.toNat:Int)=((x^^^y).toNat:Int):=by show IntKind.u64.wrap (((dx 64 (x.toNat:Int))^^^(dx 64 (y.toNat:Int))).toNat:Int)=_;rw[Vx,Vx,<-BitVec.setWidth_xor,tr,Km];have:=DK (x^^^y);omega
theorem a64 (x y:W32):BV fi ay (x.toNat:Int) (y.toNat:Int)=((x&&&y).toNat:Int):=by show IntKind.u64.wrap (((dx 64 (x.toNat:Int))&&&(dx 64 (y.toNat:Int))).toNat:Int)=_;rw[Vx,Vx,<-BitVec.setWidth_and,tr,Km];have:=DK (x&&&y);omega
theorem q5n (x:W32):IntKind.u64.wrap (4294967295-(x.toNat:Int))=((~~~x).toNat:Int):=by have:=DK x;rw[Km,BitVec.toNat_not];omega
theorem q56 (e f g:W32):(e&&&f)+(~~~e&&&g)=g^^^(e&&&(f^^^g)):=by
 have h:(e&&&f)&&&(~~~e&&&g)=0:=by apply mw;intro i hi;simp only[pn,uq,BitVec.getLsbD_zero];cases e.getLsbD i <;> simp
 rw[BitVec.add_eq_or_of_and_eq_zero _ _ h];apply mw;intro i hi;simp only[pn,ve,ur,uq,hi,decide_true,Bool.true_and];cases e.getLsbD i <;> cases f.getLsbD i <;> cases g.getLsbD i <;> rfl
theorem q45 (a b c:W32):(a&&&b)^^^(a&&&c)^^^(b&&&c)=(a&&&b)|||(c&&&(a|||b)):=by apply mw;intro i hi;simp only[pn,ve,ur];cases a.getLsbD i <;> cases b.getLsbD i <;> cases c.getLsbD i <;> rfl
theorem bD {x:Int} {v:W32} (h0:0<=x) (h1:x<18446744073709551616) (h:x%4294967296=(v.toNat:Int)):bn (IntKind.u64.wrap x) 4294967296=(v.toNat:Int):=by rw[Km,Int.emod_eq_of_lt h0 h1,ep h0];exact h
end
section
variable {R:Type} {N:Nat}
def QR (w:List C) (l:List W32) (i:Nat):W32:=
 if i<16 then JK ((w.drop (4*i)).take 4)else l.getD (i-16) 0+(sg0 (l.getD (i-15) 0)+l.getD (i-7) 0+sg1 (l.getD (i-2) 0))
def Cw (w:List C):Nat->List W32
 |0=>[]|i+1=>Cw w i++[QR w (Cw w i) i]
theorem Ly (w:List C):∀i,(Cw w i).length=i
 |0=>rfl|i+1=>by simp[Cw,Ly w i]
theorem TM (w:List C) (i:Nat):∀j,i<j->(Cw w j).getD i 0=QR w (Cw w i) i
 |0,h=>by omega
 |j+1,h=>by simp only[Cw,bq];by_cases e:i=j;{subst e;rw[gh (by rw[Ly];exact bx _),Ly,Nat.sub_self];rfl};{rw[ft (by rw[Ly];omega),<-bq];exact TM w i j (by omega)}
theorem Wt (w:List C) (i j k:Nat) (hj:i<j) (hk:i<k):(Cw w j).getD i 0=(Cw w k).getD i 0:=by rw[TM w i j hj,TM w i k hk]
theorem z0w (a b c d:C) (ha:Dd a) (hb:Dd b) (hc:Dd c) (hd:Dd d):((JK [a,b,c,d]).toNat:Int)=((a.toInt*256+b.toInt)*256+c.toInt)*256+d.toInt:=by
 have key:∀(x:W32) (y:C) (m:Nat),Dd y->x.toNat<m->m<=16777216->((x <<< 8|||dx 32 y.toInt).toNat:Int)=(x.toNat:Int)*256+y.toInt:=by
  intro x y m hy hx hm;obtain⟨_,h1,h2⟩:=hy;obtain⟨n,hn⟩:=kv h1;rw[hn]at h2 ⊢;have e1:(dx 32 (n:Int)).toNat=n:=by rw[oc,uu];omega
  rw[BitVec.toNat_or,BitVec.toNat_shiftLeft,Nat.shiftLeft_eq,e1];rw[show(2:Nat)^8=256 from rfl,show(2:Nat)^32=4294967296 from rfl,tw (by omega)];have:=Nat.two_pow_add_eq_or_of_lt (b:=n) (i:=8) (by omega) x.toNat;rw[Nat.mul_comm,show(256:Nat)=2^8 from rfl,<-this];omega
 have e0:=key 0 a 1 ha (by decide) (by decide);have z0:((0:W32).toNat:Int)=0:=rfl;rw[z0]at e0;have b0:=ha.2;have b1:=hb.2;have b2:=hc.2;have b3:=hd.2;have e1:=key ((0:W32) <<< 8|||dx 32 a.toInt) b 256 hb (by omega) (by decide);have e2:=key (((0:W32) <<< 8|||dx 32 a.toInt) <<< 8|||dx 32 b.toInt) c 65536 hc (by omega) (by decide);have e3:=key ((((0:W32) <<< 8|||dx 32 a.toInt) <<< 8|||dx 32 b.toInt) <<< 8|||dx 32 c.toInt) d 16777216 hd (by omega) (by decide);show((((((0:W32) <<< 8|||dx 32 a.toInt) <<< 8|||dx 32 b.toInt) <<< 8|||dx 32 c.toInt) <<< 8|||dx 32 d.toInt).toNat:Int)=_;omega
theorem q9x {b:List C} {i:Nat} (h:4*i+4<=b.length):(b.drop (4*i)).take 4=[b.getD (4*i) .nil,b.getD (4*i+1) .nil,b.getD (4*i+2) .nil,b.getD (4*i+3) .nil]:=by
 apply fb;intro j;rw[List.getElem?_take];split
 ·rename_i hj;rw[List.getElem?_drop];have hl:4*i+j<b.length:=by omega
  rw[bo hl]
  match j,hj with
  |0,_=>simp[bq,bo (show 4*i<b.length by omega)]|1,_=>simp[bq,bo (show 4*i+1<b.length by omega)]|2,_=>simp[bq,bo (show 4*i+2<b.length by omega)]|3,_=>simp[bq,bo (show 4*i+3<b.length by omega)]
 ·rename_i hj;rw[List.getElem?_eq_none (by simp;omega)]
theorem q9p (a b c d:Int) (ha:0<=a/\a<256) (hb:0<=b/\b<256) (hc:0<=c/\c<256) (hd:0<=d/\d<256):
  IntKind.u64.wrap (IntKind.u64.wrap (IntKind.u64.wrap (IntKind.u64.wrap (IntKind.u64.wrap (IntKind.u64.wrap (IntKind.u64.wrap a*256)+IntKind.u64.wrap b)*256)+IntKind.u64.wrap c)*256)+IntKind.u64.wrap d)=((a*256+b)*256+c)*256+d:=by
 simp only[Km];omega
theorem q9q (a x b y:W32):bn (IntKind.u64.wrap (IntKind.u64.wrap (IntKind.u64.wrap ((a.toNat:Int)+(x.toNat:Int))+(b.toNat:Int))+(y.toNat:Int))) 4294967296=((a+(x+b+y)).toNat:Int):=by have h1:=DK a;have h2:=DK x;have h3:=DK b;have h4:=DK y;simp only[Km];rw[ep (by omega)];simp only[ka];omega
theorem q3f (t:C) (h b:List C) (hb:b.length=64) (hbb:∀c∈b,Dd c) (hN:1000<N) (K:KD R):
  BR N (Jl N K) [.slice h,.slice b,t,.slice [],.int 0] []=K [.slice h,t,.slice ((Cw b 64).map wI)] []:=by
 refine Ee (F:=Jl N K) (fun i=>[.slice h,.slice b,t,.slice ((Cw b i).map wI),.int i]) (fun _=>[]) 64 _ ?_ ?_ (N:=N) (by omega)
 ·intro i hi rec;have e1:(i:Int)<64:=by omega
  have g1:(i+1)*8<=140737488355328/\i+1<=9223372036854775807:=by omega
  have hl:((Cw b i).map wI).length=i:=by rw[fg,Ly]
  by_cases z:(i:Int)<16
  ·have zn:i<16:=by omega
   have p0:IntKind.i64.wrap (4*(i:Int))=((4*i:Nat):Int):=by rw[wrap_i64 (by omega) (by omega)];omega
   have p1:IntKind.i64.wrap (((4*i:Nat):Int)+1)=((4*i+1:Nat):Int):=by rw[wrap_i64 (by omega) (by omega)];omega
   have p2:IntKind.i64.wrap (((4*i:Nat):Int)+2)=((4*i+2:Nat):Int):=by rw[wrap_i64 (by omega) (by omega)];omega
   have p3:IntKind.i64.wrap (((4*i:Nat):Int)+3)=((4*i+3:Nat):Int):=by rw[wrap_i64 (by omega) (by omega)];omega
   have c0:((4*i:Nat):Int)<((64:Nat):Int):=by omega
   have c1:((4*i+1:Nat):Int)<((64:Nat):Int):=by omega
   have c2:((4*i+2:Nat):Int)<((64:Nat):Int):=by omega
   have c3:((4*i+3:Nat):Int)<((64:Nat):Int):=by omega
   have y0:=hbb _ (Eb (show 4*i<b.length by omega));have y1:=hbb _ (Eb (show 4*i+1<b.length by omega));have y2:=hbb _ (Eb (show 4*i+2<b.length by omega));have y3:=hbb _ (Eb (show 4*i+3<b.length by omega));have hs:(Cw b (i+1)).map wI=(Cw b i).map wI++[.int ((((b.getD (4*i) .nil).toInt*256+(b.getD (4*i+1) .nil).toInt)*256+(b.getD (4*i+2) .nil).toInt)*256+(b.getD (4*i+3) .nil).toInt)]:=by simp only[Cw,QR,if_pos zn,pt,dt,xu,wI];rw[q9x (by omega),z0w _ _ _ _ y0 y1 y2 y3]
   have hv:=q9p _ _ _ _ y0.2 y1.2 y2.2 y3.2;unfold Jl;simp only[AR,AF,AH,AJ,AL,AQ,AG,AO,e1,z,p0,p1,p2,p3,hb,c0,c1,c2,c3,hl,g1,AE,bz,and_self,bh,bb,br,cg,cr,bf,Bp (show i<4611686018427387904 by omega),AB];rw[hv,<-hs]
  ·have zn:¬i<16:=by omega
   have p15:IntKind.i64.wrap ((i:Int)-15)=((i-15:Nat):Int):=by rw[wrap_i64 (by omega) (by omega)];omega
   have p2:IntKind.i64.wrap ((i:Int)-2)=((i-2:Nat):Int):=by rw[wrap_i64 (by omega) (by omega)];omega
   have p16:IntKind.i64.wrap ((i:Int)-16)=((i-16:Nat):Int):=by rw[wrap_i64 (by omega) (by omega)];omega
   have p7:IntKind.i64.wrap ((i:Int)-7)=((i-7:Nat):Int):=by rw[wrap_i64 (by omega) (by omega)];omega
   have c15:((i-15:Nat):Int)<(i:Int):=by omega
   have c2:((i-2:Nat):Int)<(i:Int):=by omega
   have c16:((i-16:Nat):Int)<(i:Int):=by omega
   have c7:((i-7:Nat):Int)<(i:Int):=by omega
   have gw:∀j,j<i->(ox wI (Cw b i)).getD j .nil=wI ((Cw b i).getD j 0):=fun j hj=>by rw[bq,db,bq,bo (by rw[Ly];exact hj)];rfl
   have g15:=gw (i-15) (by omega);have g2:=gw (i-2) (by omega);have g16:=gw (i-16) (by omega);have g7:=gw (i-7) (by omega);have r1:∀(x:W32) (k:KD R),Df N (wI x) (.int 7) (.bool true) k=k [wI (GA x 7)] []:=fun x k=>IW x 7 (by omega) (by omega) true (by omega) k;have r2:∀(x:W32) (k:KD R),Df N (wI x) (.int 18) (.bool true) k=k [wI (GA x 18)] []:=fun x k=>IW x 18 (by omega) (by omega) true (by omega) k;have r3:∀(x:W32) (k:KD R),Df N (wI x) (.int 3) (.bool false) k=k [wI (x >>> 3)] []:=fun x k=>IW x 3 (by omega) (by omega) false (by omega) k;have r4:∀(x:W32) (k:KD R),Df N (wI x) (.int 17) (.bool true) k=k [wI (GA x 17)] []:=fun x k=>IW x 17 (by omega) (by omega) true (by omega) k;have r5:∀(x:W32) (k:KD R),Df N (wI x) (.int 19) (.bool true) k=k [wI (GA x 19)] []:=fun x k=>IW x 19 (by omega) (by omega) true (by omega) k;have r6:∀(x:W32) (k:KD R),Df N (wI x) (.int 10) (.bool false) k=k [wI (x >>> 10)] []:=fun x k=>IW x 10 (by omega) (by omega) false (by omega) k;have hs:(Cw b (i+1)).map wI=(Cw b i).map wI++[wI ((Cw b i).getD (i-16) 0+(sg0 ((Cw b i).getD (i-15) 0)+(Cw b i).getD (i-7) 0+sg1 ((Cw b i).getD (i-2) 0)))]:=by simp only[Cw,QR,if_neg zn,pt,dt,xu]
   unfold Jl;simp only[AR,AF,AH,AJ,AL,AQ,AG,AO,e1,z,p15,p2,p16,p7,c15,c2,c16,c7,hl,g1,g15,g2,g16,g7,r1,r2,r3,r4,r5,r6,HX,x64,AE,bz,and_self,bh,bb,br,cg,cr,bf,Bp (show i<4611686018427387904 by omega),AB];rw[q9q,hs];rfl
 ·intro rec;unfold Jl;have e:¬((64:Nat):Int)<64:=by decide
  simp only[AF,AH,AJ,AL,AQ,AG,AO,e,AE,bh,AB]
end
section
variable {R:Type} {N:Nat}
theorem sM (w:List C):∀i j,i<=16->j<i->(nG w i).getD j 0=JK ((w.drop (4*j)).take 4)
 |0,j,_,h=>by omega
 |i+1,j,hi,h=>by show((nG w i).set i _).getD j 0=_;rw[Mm (by rw[NQ];omega)];by_cases e:i=j;{subst e;rw[if_pos rfl]};{rw[if_neg e];exact sM w i j (by omega) (by omega)}
theorem sR (w:List C) (h:List W32) (hh:h.length=8):∀i,i<=64->∀j,(j<i\/j<16)->i<=j+16->(DG (nG w 16) h i).1.getD (j%16) 0=(Cw w 64).getD j 0
 |0,_,j,hj,_=>by
  have hj:j<16:=by omega
  show(nG w 16).getD (j%16) 0=_;rw[tw hj,sM w 16 j (by omega) hj,TM w j 64 (by omega),QR,if_pos hj]
 |i+1,hi,j,hj,hij=>by
  have ih:=sR w h hh i (by omega);have hl:=(QU (NQ w 16) hh i).1;show(HS i (DG (nG w 16) h i).1).getD (j%16) 0=_;unfold HS;by_cases z:16<=i
  ·rw[if_pos z,Mm (by omega)];by_cases e:i%16=j%16
   ·have e':j=i:=by omega
    subst e';rw[if_pos rfl];have i0:=ih (j-16) (by omega) (by omega);have i1:=ih (j-15) (by omega) (by omega);have i7:=ih (j-7) (by omega) (by omega);have i2:=ih (j-2) (by omega) (by omega);rw[show(j-16)%16=j%16 by omega]at i0;rw[show(j-15)%16=(j+1)%16 by omega]at i1;rw[show(j-7)%16=(j+9)%16 by omega]at i7;rw[show(j-2)%16=(j+14)%16 by omega]at i2;rw[i0,i1,i7,i2,TM w j 64 (by omega),QR,if_neg (by omega),Wt w (j-16) j 64 (by omega) (by omega),Wt w (j-15) j 64 (by omega) (by omega),Wt w (j-7) j 64 (by omega) (by omega),Wt w (j-2) j 64 (by omega) (by omega)]
   ·rw[if_neg e];exact ih j (by omega) (by omega)
  ·rw[if_neg z];exact ih j (by omega) (by omega)
def Xe (i:Nat) (v s:List W32):Prop:=v.length=8/\∀k,k<8->v.getD ((64-i+k)%8) 0=s.getD k 0
theorem q5O (h s e f g K w:W32):IntKind.u64.wrap (IntKind.u64.wrap (IntKind.u64.wrap (IntKind.u64.wrap ((h.toNat:Int)+(s.toNat:Int))+IntKind.u64.wrap (((e&&&f).toNat:Int)+((~~~e&&&g).toNat:Int)))+(K.toNat:Int))+(w.toNat:Int))=(h.toNat:Int)+s.toNat+(e&&&f).toNat+(~~~e&&&g).toNat+K.toNat+w.toNat:=by have h1:=DK h;have h2:=DK s;have h3:=DK (e&&&f);have h4:=DK (~~~e&&&g);have h5:=DK K;have h6:=DK w;simp only[Km];omega
theorem tS (h s e f g K w:W32):((h.toNat:Int)+s.toNat+(e&&&f).toNat+(~~~e&&&g).toNat+K.toNat+w.toNat)%4294967296=((h+s+(g^^^(e&&&(f^^^g)))+K+w).toNat:Int):=by rw[<-q56];simp only[ka];omega
theorem q4r (d h s e f g K w:W32):bn (IntKind.u64.wrap ((d.toNat:Int)+((h.toNat:Int)+s.toNat+(e&&&f).toNat+(~~~e&&&g).toNat+K.toNat+w.toNat))) 4294967296=((d+(h+s+(g^^^(e&&&(f^^^g)))+K+w)).toNat:Int):=by have h0:=DK d;have h1:=DK h;have h2:=DK s;have h3:=DK (e&&&f);have h4:=DK (~~~e&&&g);have h5:=DK K;have h6:=DK w;have ho:=tS h s e f g K w;refine bD (by omega) (by omega) ?_;rw[ka];omega
theorem q3m (z m h s e f g K w:W32):bn (IntKind.u64.wrap (IntKind.u64.wrap (((h.toNat:Int)+s.toNat+(e&&&f).toNat+(~~~e&&&g).toNat+K.toNat+w.toNat)+(z.toNat:Int))+(m.toNat:Int))) 4294967296=((h+s+(g^^^(e&&&(f^^^g)))+K+w+z+m).toNat:Int):=by
 have h0:=DK z;have h1:=DK h;have h2:=DK s;have h3:=DK (e&&&f);have h4:=DK (~~~e&&&g);have h5:=DK K;have h6:=DK w;have h7:=DK m;have ho:=tS h s e f g K w;have e1:IntKind.u64.wrap (((h.toNat:Int)+s.toNat+(e&&&f).toNat+(~~~e&&&g).toNat+K.toNat+w.toNat)+(z.toNat:Int))=((h.toNat:Int)+s.toNat+(e&&&f).toNat+(~~~e&&&g).toNat+K.toNat+w.toNat)+(z.toNat:Int):=by simp only[Km];omega
 rw[e1];refine bD (by omega) (by omega) ?_;simp only[ka]at ho ⊢;omega
theorem q3e (t:C) (ht:GB t) (hC:C) (b:List C) (vW:List W32) (i:Nat) (hi:i<64) (hv:vW.length=8) (hN:1000<N) (K rec:KD R):
  KT N K rec [hC,t,.int 8,.slice ((Cw b 64).map wI),.int i,.agg (vW.map wI)] []=
   rec [hC,t,.int 8,.slice ((Cw b 64).map wI),.int ((i+1:Nat):Int),.agg (((vW.set ((67-i)%8) (vW.getD ((67-i)%8) 0+(vW.getD ((71-i)%8) 0+bs1 (vW.getD ((68-i)%8) 0)+(vW.getD ((70-i)%8) 0^^^(vW.getD ((68-i)%8) 0&&&(vW.getD ((69-i)%8) 0^^^vW.getD ((70-i)%8) 0)))+ksW.getD i 0+(Cw b 64).getD i 0))).set ((71-i)%8)
    (vW.getD ((71-i)%8) 0+bs1 (vW.getD ((68-i)%8) 0)+(vW.getD ((70-i)%8) 0^^^(vW.getD ((68-i)%8) 0&&&(vW.getD ((69-i)%8) 0^^^vW.getD ((70-i)%8) 0)))+ksW.getD i 0+(Cw b 64).getD i 0+bs0 (vW.getD ((64-i)%8) 0)+((vW.getD ((64-i)%8) 0&&&vW.getD ((65-i)%8) 0)|||(vW.getD ((66-i)%8) 0&&&(vW.getD ((64-i)%8) 0|||vW.getD ((65-i)%8) 0))))).map wI)] []:=by
 have e1:(i:Int)<64:=by omega
 have e8:av 8=8:=rfl;have q64:IntKind.i64.wrap (64-(i:Int))=((64-i:Nat):Int):=by rw[wrap_i64 (by omega) (by omega)];omega
 have q65:IntKind.i64.wrap (65-(i:Int))=((65-i:Nat):Int):=by rw[wrap_i64 (by omega) (by omega)];omega
 have q66:IntKind.i64.wrap (66-(i:Int))=((66-i:Nat):Int):=by rw[wrap_i64 (by omega) (by omega)];omega
 have q67:IntKind.i64.wrap (67-(i:Int))=((67-i:Nat):Int):=by rw[wrap_i64 (by omega) (by omega)];omega
 have q68:IntKind.i64.wrap (68-(i:Int))=((68-i:Nat):Int):=by rw[wrap_i64 (by omega) (by omega)];omega
 have q69:IntKind.i64.wrap (69-(i:Int))=((69-i:Nat):Int):=by rw[wrap_i64 (by omega) (by omega)];omega
 have q70:IntKind.i64.wrap (70-(i:Int))=((70-i:Nat):Int):=by rw[wrap_i64 (by omega) (by omega)];omega
 have q71:IntKind.i64.wrap (71-(i:Int))=((71-i:Nat):Int):=by rw[wrap_i64 (by omega) (by omega)];omega
 have c8:∀a:Nat,bn (a:Int) 8=((a%8:Nat):Int):=fun a=>zQ a 8;have r8:∀a:Nat,((a%8:Nat):Int)<((8:Nat):Int):=fun a=>by omega
 have gv:∀a:Nat,bj (.agg (vW.map wI)) (a%8)=wI (vW.getD (a%8) 0):=fun a=>Hk (by omega);have gs:∀(x:W32) (m a:Nat),bj (.agg ((vW.set m x).map wI)) (a%8)=wI ((vW.set m x).getD (a%8) 0):=fun x m a=>Hk (by rw[di];omega);have z8P:∀x:W32,(vW.set ((67-i)%8) x).getD ((64-i)%8) 0=vW.getD ((64-i)%8) 0:=fun x=>by rw[Mm (by omega),if_neg (by omega)]
 have hw:(ox wI (Cw b 64)).length=64:=by rw[fg,Ly]
 have gw:(ox wI (Cw b 64)).getD i .nil=wI ((Cw b 64).getD i 0):=by rw[bq,db,bq,bo (by rw[Ly];exact hi)];rfl
 have r1:∀(x:W32) (k:KD R),Df N (wI x) (.int 6) (.bool true) k=k [wI (GA x 6)] []:=fun x k=>IW x 6 (by omega) (by omega) true (by omega) k;have r2:∀(x:W32) (k:KD R),Df N (wI x) (.int 11) (.bool true) k=k [wI (GA x 11)] []:=fun x k=>IW x 11 (by omega) (by omega) true (by omega) k;have r3:∀(x:W32) (k:KD R),Df N (wI x) (.int 25) (.bool true) k=k [wI (GA x 25)] []:=fun x k=>IW x 25 (by omega) (by omega) true (by omega) k;have r4:∀(x:W32) (k:KD R),Df N (wI x) (.int 2) (.bool true) k=k [wI (GA x 2)] []:=fun x k=>IW x 2 (by omega) (by omega) true (by omega) k;have r5:∀(x:W32) (k:KD R),Df N (wI x) (.int 13) (.bool true) k=k [wI (GA x 13)] []:=fun x k=>IW x 13 (by omega) (by omega) true (by omega) k;have r6:∀(x:W32) (k:KD R),Df N (wI x) (.int 22) (.bool true) k=k [wI (GA x 22)] []:=fun x k=>IW x 22 (by omega) (by omega) true (by omega) k;have rt:∀k:KD R,KV N (t.get 1) (.int i) k=k [wI (ksW.getD i 0)] []:=fun k=>by rw[iR _ i (by rw[ht.l1];omega) (by omega) (by omega),ht.w1 i hi];rfl
 unfold KT;simp only[AF,AH,AJ,AL,AQ,Aa,AG,AO,Ab,e1,e8,q64,q65,q66,q67,q68,q69,q70,q71,c8,r8,gv,hw,gw,r1,r2,r3,r4,r5,r6,rt,HX,x64,a64,q5n,q5O,q4r,eQ,gs,z8P,q45,q3m,AE,bz,and_self,bh,bf,bb,di,fg,Bp (show i<4611686018427387904 by omega),AB];refine(if_pos ⟨trivial,by omega⟩).trans ?_;rfl
theorem q8o (w:List C) (h:List W32) (hh:h.length=8) (i:Nat) (hi:i<64) (v:List W32) (hv:Xe i v (DG (nG w 16) h i).2):
  Xe (i+1) ((v.set ((67-i)%8) (v.getD ((67-i)%8) 0+(v.getD ((71-i)%8) 0+bs1 (v.getD ((68-i)%8) 0)+(v.getD ((70-i)%8) 0^^^(v.getD ((68-i)%8) 0&&&(v.getD ((69-i)%8) 0^^^v.getD ((70-i)%8) 0)))+ksW.getD i 0+(Cw w 64).getD i 0))).set ((71-i)%8)
    (v.getD ((71-i)%8) 0+bs1 (v.getD ((68-i)%8) 0)+(v.getD ((70-i)%8) 0^^^(v.getD ((68-i)%8) 0&&&(v.getD ((69-i)%8) 0^^^v.getD ((70-i)%8) 0)))+ksW.getD i 0+(Cw w 64).getD i 0+bs0 (v.getD ((64-i)%8) 0)+((v.getD ((64-i)%8) 0&&&v.getD ((65-i)%8) 0)|||(v.getD ((66-i)%8) 0&&&(v.getD ((64-i)%8) 0|||v.getD ((65-i)%8) 0)))))
   (DG (nG w 16) h (i+1)).2:=by
 obtain⟨hl,hp⟩:=hv;have p0:=hp 0 (by omega);have p1:=hp 1 (by omega);have p2:=hp 2 (by omega);have p3:=hp 3 (by omega);have p4:=hp 4 (by omega);have p5:=hp 5 (by omega);have p6:=hp 6 (by omega);have p7:=hp 7 (by omega);rw[show 64-i+0=64-i by omega]at p0;rw[show 64-i+1=65-i by omega]at p1;rw[show 64-i+2=66-i by omega]at p2;rw[show 64-i+3=67-i by omega]at p3;rw[show 64-i+4=68-i by omega]at p4;rw[show 64-i+5=69-i by omega]at p5;rw[show 64-i+6=70-i by omega]at p6;rw[show 64-i+7=71-i by omega]at p7;have hn:(HS i (DG (nG w 16) h i).1).getD (i%16) 0=(Cw w 64).getD i 0:=sR w h hh (i+1) (by omega) i (by omega) (by omega);have hs:(DG (nG w 16) h (i+1)).2=[MP i (HS i (DG (nG w 16) h i).1) (DG (nG w 16) h i).2+bs0 ((DG (nG w 16) h i).2.getD 0 0)+(((DG (nG w 16) h i).2.getD 0 0&&&(DG (nG w 16) h i).2.getD 1 0)|||((DG (nG w 16) h i).2.getD 2 0&&&((DG (nG w 16) h i).2.getD 0 0|||(DG (nG w 16) h i).2.getD 1 0))),(DG (nG w 16) h i).2.getD 0 0,(DG (nG w 16) h i).2.getD 1 0,(DG (nG w 16) h i).2.getD 2 0,(DG (nG w 16) h i).2.getD 3 0+MP i (HS i (DG (nG w 16) h i).1) (DG (nG w 16) h i).2,(DG (nG w 16) h i).2.getD 4 0,(DG (nG w 16) h i).2.getD 5 0,(DG (nG w 16) h i).2.getD 6 0]:=rfl;have ha:MP i (HS i (DG (nG w 16) h i).1) (DG (nG w 16) h i).2=v.getD ((71-i)%8) 0+bs1 (v.getD ((68-i)%8) 0)+(v.getD ((70-i)%8) 0^^^(v.getD ((68-i)%8) 0&&&(v.getD ((69-i)%8) 0^^^v.getD ((70-i)%8) 0)))+ksW.getD i 0+(Cw w 64).getD i 0:=by unfold MP;rw[hn,p4,p5,p6,p7]
 rw[hs,ha,<-p0,<-p1,<-p2,<-p3,<-p4,<-p5,<-p6];refine⟨by rw[di,di];exact hl,fun k hk=>?_⟩;generalize v.getD ((71-i)%8) 0+bs1 (v.getD ((68-i)%8) 0)+(v.getD ((70-i)%8) 0^^^(v.getD ((68-i)%8) 0&&&(v.getD ((69-i)%8) 0^^^v.getD ((70-i)%8) 0)))+ksW.getD i 0+(Cw w 64).getD i 0=one;rw[Mm (by rw[di];omega),Mm (by omega)]
 match k,hk with
 |0,_=>rw[if_pos (by omega)];rfl|1,_=>rw[if_neg (by omega),if_neg (by omega),show(64-(i+1)+1)%8=(64-i)%8 by omega];rfl|2,_=>rw[if_neg (by omega),if_neg (by omega),show(64-(i+1)+2)%8=(65-i)%8 by omega];rfl|3,_=>rw[if_neg (by omega),if_neg (by omega),show(64-(i+1)+3)%8=(66-i)%8 by omega];rfl|4,_=>rw[if_neg (by omega),if_pos (by omega)];rfl|5,_=>rw[if_neg (by omega),if_neg (by omega),show(64-(i+1)+5)%8=(68-i)%8 by omega];rfl|6,_=>rw[if_neg (by omega),if_neg (by omega),show(64-(i+1)+6)%8=(69-i)%8 by omega];rfl|7,_=>rw[if_neg (by omega),if_neg (by omega),show(64-(i+1)+7)%8=(70-i)%8 by omega];rfl
theorem rX {F:KD R->List C->List Es->Option R} (n:Nat) (inv:Nat->List C->Prop) (r:Option R)
  (step:∀i st,i<n->inv i st->∃st',inv (i+1) st'/\∀rec:KD R,F rec st []=rec st' [])
  (stop:∀st,inv n st->∀rec:KD R,F rec st []=r):∀(m i N:Nat) (st:List C),i+m=n->m<N->inv i st->BR N F st []=r
 |0,i,N,st,hi,hN,h=>by
  obtain⟨N,rfl⟩:∃a,N=a+1:=⟨N-1,by omega⟩;have e:i=n:=by omega
  subst e;rw[Dl];exact stop st h _
 |m+1,i,N,st,hi,hN,h=>by obtain⟨N,rfl⟩:∃a,N=a+1:=⟨N-1,by omega⟩;obtain⟨st',h1,h2⟩:=step i st (by omega) h;rw[Dl,h2];exact rX n inv r step stop m (i+1) N st' (by omega) (by omega) h1
theorem rC {l:List W32} (h:l.length=8):l=[l.getD 0 0,l.getD 1 0,l.getD 2 0,l.getD 3 0,l.getD 4 0,l.getD 5 0,l.getD 6 0,l.getD 7 0]:=by
 match l,h with
 | [_,_,_,_,_,_,_,_],_=>rfl
theorem q3d (t:C) (ht:GB t) (hC:C) (b:List C) (h:List W32) (hh:h.length=8) (hN:1000<N) (K:KD R):
  BR N (KT N K) [hC,t,.int 8,.slice ((Cw b 64).map wI),.int (0:Nat),.agg (h.map wI)] []=K [hC,.int 8,.agg ((DG (nG b 16) h 64).2.map wI)] []:=by
 refine rX (F:=KT N K) 64 (fun i st=>∃v,Xe i v (DG (nG b 16) h i).2/\st=[hC,t,.int 8,.slice ((Cw b 64).map wI),.int i,.agg (v.map wI)]) _ ?_ ?_ 64 0 N _ (by omega) (by omega) ⟨h,⟨hh,fun k hk=>?_⟩,rfl⟩;{rintro i st hi ⟨v,hv,rfl⟩;exact⟨_,⟨_,q8o b h hh i hi v hv,rfl⟩,fun rec=>q3e t ht hC b v i hi hv.1 hN K rec⟩}
 ·rintro st ⟨v,hv,rfl⟩ rec;have e:v=(DG (nG b 16) h 64).2:=by have hl:=(QU (NQ b 16) hh 64).2;rw[rC hv.1,rC hl];have hp:=hv.2;have p0:=hp 0 (by omega);have p1:=hp 1 (by omega);have p2:=hp 2 (by omega);have p3:=hp 3 (by omega);have p4:=hp 4 (by omega);have p5:=hp 5 (by omega);have p6:=hp 6 (by omega);have p7:=hp 7 (by omega);simp only[Nat.sub_self,bf,Nat.zero_mod,Nat.reduceMod]at p0 p1 p2 p3 p4 p5 p6 p7;rw[p0,p1,p2,p3,p4,p5,p6,p7]
  unfold KT;have e64:¬((64:Nat):Int)<64:=by decide
  simp only[AF,AH,AJ,AL,AQ,Aa,AG,AO,e64,AE,e,AB];rfl
 ·have:(64-0+k)%8=k:=by omega
  rw[this];rfl
theorem q3c (h s:List W32) (hh:h.length=8) (hs:s.length=8) (hN:1000<N) (K:KD R):
  BR N (Lp N K) [.slice (h.map wI),.int 8,.int (0:Nat),.int (0:Nat),.agg (s.map wI),.agg []] []=K [.int 8,.agg ((aG h s 8).map wI)] []:=by
 have key:=Ee (F:=Lp N K) (fun i=>[.slice (h.map wI),.int 8,.int (i:Nat),.int (i:Nat),.agg (s.map wI),.agg (((aG h s 8).take i).map wI)]) (fun _=>[]) 8 (K [.int 8,.agg ((aG h s 8).map wI)] []) ?_ ?_ (N:=N) (by omega);{exact key}
 ·intro i hi rec;have e1:(i:Int)<8:=by omega
  have e8:av 8=8:=rfl;have e2:(i:Int)<((8:Nat):Int):=by omega
  have g1:(i+1)*8<=140737488355328/\i+1<=9223372036854775807:=by omega
  have hl8:(aG h s 8).length=8:=by rw[MO];exact hh
  have hlt:(ox wI ((aG h s 8).take i)).length=i:=by rw[fg,jh,hl8];omega
  have htk:eu i (ox wI ((aG h s 8).take i))=ox wI ((aG h s 8).take i):=ez (by rw[hlt];exact bx _);have hgh:(h.map wI).getD i .nil=wI (h.getD i 0):=by rw[bq,db,bq,bo (by omega)];rfl
  have hgs:bj (.agg (s.map wI)) i=wI (s.getD i 0):=Hk (by omega);have hlm:(h.map wI).length=8:=by rw[fg];exact hh
  have hag:∀j m,j<m->m<=8->(aG h s m).getD j 0=h.getD j 0+s.getD j 0:=by
   intro j m hj hm
   induction m with
   |zero=>omega|succ m ih=>
    show((aG h s m).set m _).getD j 0=_;rw[Mm (by rw[MO];omega)];by_cases e:m=j;{subst e;rw[if_pos rfl]};{rw[if_neg e];exact ih (by omega) (by omega)}
  have y0K:bn (IntKind.u64.wrap (((h.getD i 0).toNat:Int)+((s.getD i 0).toNat:Int))) 4294967296=((h.getD i 0+s.getD i 0).toNat:Int):=by have h1:=DK (h.getD i 0);have h2:=DK (s.getD i 0);refine bD (by omega) (by omega) ?_;rw[ka];omega
  have ht:ox wI ((aG h s 8).take (i+1))=ox wI ((aG h s 8).take i)++[wI (h.getD i 0+s.getD i 0)]:=by rw[ng,bo (by omega),pt];have:=hag i 8 hi (by omega);rw[bq,bo (by omega)]at this;simp only[jg]at this;rw[this];rfl
  unfold Lp;simp only[AF,AH,AJ,AL,AQ,Aa,AG,AO,Ab,e1,e2,e8,hlm,g1,hlt,htk,hgh,hgs,y0K,HX,AE,bz,and_self,bf,bb,br,cg,cr,Bp (show i<4611686018427387904 by omega),AB];rw[ht];rfl
 ·intro rec;unfold Lp;have e:¬((8:Nat):Int)<8:=by decide
  have hl8:(aG h s 8).length=8:=by rw[MO];exact hh
  simp only[AF,AH,AJ,AL,AQ,Aa,AG,AO,e,AE,ez (Nat.le_of_eq hl8),AB];rfl
theorem Z6 (t:C) (ht:GB t) (h:List W32) (b:List C) (hh:h.length=8) (hb:b.length=64) (hbb:∀c∈b,Dd c) (hN:1000<N) (k:KD R):NX N t (.slice (h.map wI)) (.slice b) k=k [.int 8,.agg ((JU h b).map wI)] []:=by
 have hlm:(h.map wI).length=8:=by rw[fg];exact hh
 have ne:(h.map wI).isEmpty=false:=by cases h with|nil=>simp at hh|cons=>rfl
 rw[cU];unfold WT;simp only[AR,AB];refine(q3f t (h.map wI) b hb hbb hN _).trans ?_;simp only[AF,AH,AJ,AO,Ab,ne,hlm,bh,AE,AB];refine(q3d t ht _ b h hh hN _).trans ?_;simp only[AF,AH,AJ,AG,if_true,AB];refine(q3c h _ hh (QU (NQ b 16) hh 64).2 hN _).trans ?_;simp only[AF,AH,AJ,AG,if_true,AB];rfl
end
section
variable {R:Type} {N:Nat}
def feed (p:List W32 × List C) (b:C):List W32 × List C:=
 if p.2.length=63 then(JU p.1 (p.2++[b]),[])else(p.1,p.2++[b])
theorem nD:∀(x:List C) (h:List W32) (q:List C),q.length+x.length<64->x.foldl feed (h,q)=(h,q++x)
 | [],h,q,_=>by simp
 |b::x,h,q,hl=>by
  have hl':q.length+(x.length+1)<64:=by simpa using hl
  have e:feed (h,q) b=(h,q++[b]):=by unfold feed;rw[if_neg (by show ¬q.length=63;omega)]
  rw[oe,e,nD x h (q++[b]) (by simp;omega)];simp
theorem Ys:∀(x:List C) (h:List W32) (q:List C),q.length+x.length=64->q.length<64->x.foldl feed (h,q)=(JU h (q++x),[])
 | [],h,q,hl,hq=>by simp at hl;omega
 |b::x,h,q,hl,hq=>by
  have hl':q.length+(x.length+1)=64:=by simpa using hl
  by_cases e63:q.length=63;{have hx:x=[]:=fl (by omega);subst hx;simp only[oe,wz,feed];rw[if_pos e63]}
  ·have e:feed (h,q) b=(h,q++[b]):=by unfold feed;rw[if_neg (by show ¬q.length=63;exact e63)]
   rw[oe,e,Ys x h (q++[b]) (by simp;omega) (by simp;omega)];simp
structure Hb (m:C) (h:List W32) (q:List C) (n:Int):Prop where
 ex:∃w:List C,m= .agg [.agg (h.map wI),.agg w,.int n]/\w.length=64/\w.take q.length=q/\∀c∈w,Dd c
 hl:h.length=8
 nn:W64 n
 ql:n%64=(q.length:Int)
theorem q1X {h:List W32} (hh:h.length=8):∀(x:List C) (q:List C),(x.foldl feed (h,q)).1.length=8:=by
 have key:∀(x:List C) (p:List W32 × List C),p.1.length=8->(x.foldl feed p).1.length=8:=by
  intro x
  induction x with
  |nil=>intro p hp;exact hp|cons b x ih=>
   intro p hp;rw[oe];refine ih _ ?_;unfold feed;split;{exact YL hp _};{exact hp}
 exact fun x q=>key x (h,q) hh
theorem put_eq (l:List C) (m:C) (h:List W32) (q:List C) (n:Int) (hm:Hb m h q n) (hb:∀c∈l,Dd c) (hN:l.length+100<N):
  ∃m' n',Hb m' (l.foldl feed (h,q)).1 (l.foldl feed (h,q)).2 n'/\n'=(n+l.length)%18446744073709551616/\∀k:KD R,Lg N (.slice l) m k=k [m'] []:=by
 obtain⟨d,⟨m',h1,rfl⟩,h2⟩:=Lb (R:=R) (F:=fun k2=>KM N k2)
  (fun j st=>∃(x:List C) (m:C) (h':List W32) (q':List C) (n':Int),st=[.slice x,m]/\Hb m h' q' n'/\x.length<=j/\(∀c∈x,Dd c)/\x.foldl feed (h',q')=l.foldl feed (h,q)/\(n'+x.length)%18446744073709551616=(n+l.length)%18446744073709551616)
  (fun d=>∃m',Hb m' (l.foldl feed (h,q)).1 (l.foldl feed (h,q)).2 ((n+l.length)%18446744073709551616)/\d=[m'])
  (fun j st hst=>by
   obtain⟨x,m,h',q',n',rfl,⟨⟨w,rfl,hw,hwq,hwb⟩,hh,hn,hq⟩,hx,hbx,hf,hne⟩:=hst;have y0L:q'.length<64:=by have:=hn.1;omega
   by_cases e:0<(x.length:Int)
   ·left;have r:bn n' 64=(q'.length:Int):=by rw[ep hn.1];exact hq
    obtain⟨p,hp⟩:∃p,min x.length (64-q'.length)=p:=⟨_,rfl⟩;have tq:(64-(q'.length:Int)).toNat=64-q'.length:=by omega
    have cw:(Dk w q'.length (64-q'.length) x).length=64:=by rw[UM (by omega)];exact hw
    have c1:0<64-q'.length:=by omega
    have c2:0<=(p:Int)/\(p:Int)<=(x.length:Int)/\(x.length:Int)<=(x.length:Int):=by omega
    have c3:0<=(q'.length:Int)/\(q'.length:Int)<=64/\jc 64<=64:=⟨by omega,by omega,by decide⟩;have wp:IntKind.u64.wrap (p:Int)=(p:Int):=wrap_u64 (by omega) (by omega);have wn:IntKind.u64.wrap (n'+(p:Int))=(n'+p)%18446744073709551616:=by simp[ar,ny,lr]
    have hxs:x=x.take p++x.drop p:=(kc p x).symm;have z9Z:cut x (p:Int) (x.length:Int)=x.drop p:=by simp[cut]
    have tk:(x.take (64-q'.length))=x.take p:=by rcases Nat.le_total x.length (64-q'.length)with h1|h1;{rw[ez h1,ez (by omega)]};{rw[show p=64-q'.length by omega]}
    have cpy:Dk w q'.length (64-q'.length) x=(q'++x.take p)++w.drop (q'.length+p):=by unfold Dk;rw[hwq,tk,show min x.length (64-q'.length)=p from hp]
    have cb:∀c∈Dk w q'.length (64-q'.length) x,Dd c:=by rw[cpy];intro c hc;rcases eh.1 hc with hc|hc;{rcases eh.1 hc with hc|hc;{rw[<-hwq]at hc;exact hwb c (jm hc)};{exact hbx c (jm hc)}};{exact hwb c (jl hc)}
    have lp:(x.take p).length=p:=by simp;omega
    have ld:(x.drop p).length<j+0\/(x.drop p).length<x.length:=.inr (by simp;omega);have e2:bn ((n'+(p:Int))%18446744073709551616) 64=(n'+p)%64:=by rw[ep (by omega)];omega
    by_cases z:(n'+(p:Int))%64=0
    ·have z9w:q'.length+p=64:=by omega
     have hcw:Dk w q'.length (64-q'.length) x=q'++x.take p:=by rw[cpy,ue (by omega)];simp
     refine⟨_,(x.drop p).length,by simp;omega,⟨x.drop p,_,JU h' (q'++x.take p),[],(n'+p)%18446744073709551616,rfl,⟨⟨q'++x.take p,rfl,by simp;omega,by simp,by rw[<-hcw];exact cb⟩,YL hh _,⟨by omega,by omega⟩,by simp;omega⟩,bx _,fun c hc=>hbx c (jl hc),?_,by simp;omega⟩,fun k rec=>?_⟩;{rw[<-hf,hxs,gz,kc,Ys _ _ _ (by omega) y0L]};{unfold KM;simp only[AR,AF,AH,AG,AO,Ab,Iu,LP,Mn,IZ,Kf,Kg,e,r,tq,bb,hp,c1,c2,c3,wp,wn,e2,z,z9Z,hcw,decide_true,cond_true,and_self,if_true,q2s h' hh (q'++x.take p) (by simp;omega) (by rw[<-hcw];exact cb) _ (show 100<N by omega)]}
    ·have y0j:q'.length+p<64:=by omega
     have hpx:p=x.length:=by omega
     refine⟨_,(x.drop p).length,by simp;omega,⟨x.drop p,_,h',q'++x.take p,(n'+p)%18446744073709551616,rfl,⟨⟨Dk w q'.length (64-q'.length) x,rfl,cw,?_,cb⟩,hh,⟨by omega,by omega⟩,by simp;omega⟩,bx _,fun c hc=>hbx c (jl hc),?_,by simp;omega⟩,fun k rec=>?_⟩;{rw[cpy,xa]};{have e9:(x.take p).foldl feed (h',q')=(h',q'++x.take p):=nD _ _ _ (by rw[lp];exact y0j);rw[<-hf,<-e9,<-gz,kc]};{unfold KM;simp only[AR,AF,AH,AG,AO,Ab,Iu,LP,Mn,IZ,Kf,Kg,e,r,tq,bb,hp,c1,c2,c3,wp,wn,e2,z,z9Z,AE,and_self,AB]}
   ·right;have hx0:x=[]:=fl (by omega);subst hx0;have en:n'=(n+l.length)%18446744073709551616:=by have:=hn.1;have:=hn.2;simp at hne;omega
    refine⟨_,⟨.agg [.agg (h'.map wI),.agg w,.int n'],?_,rfl⟩,fun k rec=>?_⟩;{rw[<-hf,<-en];exact⟨⟨w,rfl,hw,hwq,hwb⟩,hh,hn,hq⟩}
    ·unfold KM;simp only[AF,AH,AO,e,AE])
  l.length l.length [.slice l,m] N (bx _) ⟨l,m,h,q,n,rfl,hm,bx _,hb,rfl,rfl⟩ (by omega)
 refine⟨m',_,h1,rfl,fun k=>?_⟩;rw[aX];unfold Vh;simp only[AR,AB];exact(h2 _).trans rfl
end
section
variable {R:Type} {N:Nat}
theorem XE {l:List C} {i:Nat} (hi:i<l.length):l.take (i+1)=l.take i++[l.getD i .nil]:=by rw[ng,bo hi,bq,bo hi];rfl
def Fm (l:List C):List C:=l.flatMap ax
def Kt (B:Nat) (l:List C):Prop:=∀x∈l,x= .slice x.elems/\(∀c∈x.elems,Dd c)/\x.elems.length<=B
theorem v3 (l:List C) (m:C) (h:List W32) (q:List C) (n:Int) (hm:Hb m h q n) (B:Nat) (hb:Kt B l) (hl:l.length<N) (hN:B+100<N) (hN2:N<4611686018427387904):
  ∃m' n',Hb m' ((Fm l).foldl feed (h,q)).1 ((Fm l).foldl feed (h,q)).2 n'/\n'=(n+(Fm l).length)%18446744073709551616/\∀k:KD R,NK N (.slice l) m k=k [m'] []:=by
 obtain⟨d,⟨m',h1,rfl⟩,h2⟩:=Ga (R:=R) (F:=fun k2=>NJ N k2) l.length
  (fun i st=>∃m:C,Hb m ((Fm (l.take i)).foldl feed (h,q)).1 ((Fm (l.take i)).foldl feed (h,q)).2 ((n+(Fm (l.take i)).length)%18446744073709551616)/\st=[.slice l,.int l.length,.int i,m])
  (fun d=>∃m',Hb m' ((Fm l).foldl feed (h,q)).1 ((Fm l).foldl feed (h,q)).2 ((n+(Fm l).length)%18446744073709551616)/\d=[m'])
  (fun i st hi hst=>by
   obtain⟨m,hm,rfl⟩:=hst;have e1:(i:Int)<(l.length:Int):=by omega
   obtain⟨y1,y2,y3⟩:=hb _ (Eb hi);obtain⟨m2,n2,h2,hn2,h3⟩:=put_eq (R:=R) (N:=N) (l.getD i .nil).elems m _ _ _ hm y2 (by omega);have ec:Fm (l.take (i+1))=Fm (l.take i)++(l.getD i .nil).elems:=by rw[XE hi];unfold Fm;rw[mi];simp
   refine⟨_,⟨m2,?_,rfl⟩,fun k rec=>?_⟩
   ·rw[ec,gz];have en:n2=(n+((Fm (l.take i)++(l.getD i .nil).elems).length:Nat))%18446744073709551616:=by rw[hn2,br];omega
    rw[<-en];exact h2
   ·unfold NJ;simp only[AF,AH,AJ,AL,AG,AO,e1,AE,bz,and_self,bb,Bp (show i<4611686018427387904 by omega),AB];rw[y1,h3];simp only[AF])
  (fun st hst=>by
   obtain⟨m,hm,rfl⟩:=hst;rw[dh]at hm;refine⟨_,⟨m,hm,rfl⟩,fun k rec=>?_⟩;unfold NJ;simp only[AF,AH,AJ,AL,AG,eg,AE,AB])
  (N:=N) (by omega) (st:=[.slice l,.int l.length,.int (0:Nat),m]) ⟨m,by
   have:=hm.nn;have e:(n+((Fm (l.take 0)).length:Nat))%18446744073709551616=n:=by have:(Fm (l.take 0)).length=0:=rfl;rw[this];have:=hm.nn.1;have:=hm.nn.2;omega
   rw[e];exact hm,rfl⟩
 refine⟨m',_,h1,rfl,fun k=>?_⟩;rw[aV];unfold Vf;simp only[AR,AO,AB];exact(h2 _).trans rfl
def b4 (n:Int):List C:=[bc (ar cq (jv n (2^24))),bc (ar cq (jv n (2^16))),bc (ar cq (jv n (2^8))),bc (ar cq n)]
theorem ZC (n:C) (k:KD R):KN N n k=k [.slice (b4 n.toInt)] []:=by rw[aZ];unfold Vj;rfl
theorem Ky (n:Int):(b4 n).length=4:=rfl
theorem Xu (x:Int):Dd (.int (ar cq x)):=by refine⟨rfl,?_,?_⟩;{show 0<=ar cq x;rw[wrap_u8];omega};{show ar cq x<256;rw[wrap_u8];omega}
theorem UC (n:Int):∀c∈b4 n,Dd c:=by intro c hc;simp only[b4,ij,qx,or_false]at hc;rcases hc with rfl|rfl|rfl|rfl <;> exact Xu _
def EF (n:Int):List C:=.int 128::bp (63-((n+8)%64).toNat) (.int 0)
def FD (n:Int):List C:=b4 (IntKind.u32.wrap (jv (n*8%18446744073709551616) (2^32)))++b4 (IntKind.u32.wrap (n*8%18446744073709551616))
theorem PC (n:Int):∀c∈EF n,Dd c:=by intro c hc;rcases ij.1 hc with rfl|hc;{exact⟨rfl,by decide,by decide⟩};{rw[ti hc];exact⟨rfl,by decide,by decide⟩}
theorem rI (n:Int):∀c∈FD n,Dd c:=by intro c hc;rcases eh.1 hc with hc|hc;{exact UC _ c hc};{exact UC _ c hc}
def LG (h:List W32):C:=.agg (h.flatMap fun x=>b4 x.toNat)
theorem YZ:∀(h:List W32),(h.flatMap fun x=>b4 x.toNat).length=4*h.length
 | []=>rfl|x::h=>by rw[kg,br,YZ h,Ky,cg];omega
theorem F5 (A:List C) (z:C) (n:Nat) (y:List C) (hy:y.length<=n):Dk (A++bp n z) A.length n y=A++(y++bp (n-y.length) z):=by unfold Dk;rw[xa,ez hy,Nat.min_eq_left hy,<-List.drop_drop,List.drop_left,List.drop_replicate,gd]
theorem q18 (f:W32->List C) (H:List W32) (i:Nat) (hi:i<H.length):(H.take (i+1)).flatMap f=(H.take i).flatMap f++f (H.getD i 0):=by
 have et:H.take (i+1)=H.take i++[H.getD i 0]:=by rw[ng,bo hi,bq,bo hi];rfl
 rw[et,mi];simp
def Oc (H:List W32) (i:Nat):List C:=((H.take i).flatMap fun x=>b4 x.toNat)++bp (32-4*i) (.int 0)
theorem q0H (H:List W32) (hh:H.length=8) (i:Nat) (hi:i<8):Dk (Oc H i) (4*i) (32-4*i) (b4 (H.getD i 0).toNat)=Oc H (i+1):=by
 have la:((H.take i).flatMap fun x=>b4 x.toNat).length=4*i:=by rw[YZ,jh];omega
 have key:=F5 ((H.take i).flatMap fun x=>b4 x.toNat) (.int 0) (32-4*i) (b4 (H.getD i 0).toNat) (by rw[Ky];omega);rw[la,Ky]at key;unfold Oc;rw[key,q18 _ H i (by omega),gd,show 32-4*i-4=32-4*(i+1) by omega]
theorem q0G (H:List W32) (hh:H.length=8):dc (Oc H 8)=LG H:=by unfold Oc LG;rw[ez (by omega)];simp
theorem q4s (m:C) (h:List W32) (q:List C) (n:Int) (hm:Hb m h q n) (hN:1000<N) (k:KD R):
  PX N m k=k [LG ((FD n).foldl feed ((EF n).foldl feed (h,q))).1,m] []:=by
 obtain⟨⟨w,rfl,hw,hwq,hwb⟩,hh,hn,hq⟩:=hm;have hm:Hb (.agg [.agg (h.map wI),.agg w,.int n]) h q n:=⟨⟨w,rfl,hw,hwq,hwb⟩,hh,hn,hq⟩;have w8:IntKind.u64.wrap (n+8)=(n+8)%18446744073709551616:=by simp[ar,ny,lr]
 have r:bn ((n+8)%18446744073709551616) 64=(n+8)%64:=by rw[ep (by omega)];omega
 have wl:IntKind.u64.wrap (n*8)=n*8%18446744073709551616:=by simp[ar,ny,lr]
 obtain⟨z,hz⟩:∃z:Nat,(n+8)%64=z:=⟨((n+8)%64).toNat,by omega⟩;have hz64:z<64:=by omega
 have e1:IntKind.u64.wrap (64-(z:Int))=64-z:=wrap_u64 (by omega) (by omega);have tz:(64-(z:Int)).toNat=63-z+1:=by omega
 have ef:eu (63-z+1) (iy 0 (List.set (bp (63-z+1) (AI (bm cq))) 0 (bc 128)))=EF n:=by rw[jf,List.replicate_succ];show eu (63-z+1) (bc 128::bp (63-z) (AI (bm cq)))=_;rw[ez (by simp)];unfold EF;rw[hz];rfl
 obtain⟨m1,n1,hm1,_,h1⟩:=put_eq (R:=R) (N:=N) (EF n) _ _ _ _ hm (PC n) (by simp[EF];omega);obtain⟨m2,n2,hm2,_,h2⟩:=put_eq (R:=R) (N:=N) (FD n) _ _ _ _ hm1 (rI n) (by simp[FD,Ky];omega);obtain⟨⟨w2,rfl,_,_,_⟩,hh2,_,_⟩:=hm2;generalize hH:((FD n).foldl feed ((EF n).foldl feed (h,q))).1=H at*;have z32:AI (.arr 32 (.int .u8))= .agg (bp 32 (.int 0)):=rfl;have lp:∀K:KD R,BR N (Ld N K) [.agg (H.map wI),.int 0,.agg [.agg (h.map wI),.agg w,.int n],AI (.arr 32 (.int .u8)),.agg (bp 32 (.int 0))] []=K [.agg [.agg (h.map wI),.agg w,.int n],AI (.arr 32 (.int .u8)),LG H] []:=fun K=>by
  have key:=Ee (F:=Ld N K) (fun i=>[.agg (H.map wI),.int i,.agg [.agg (h.map wI),.agg w,.int n],AI (.arr 32 (.int .u8)),.agg (Oc H i)]) (fun _=>[]) 8 (K [.agg [.agg (h.map wI),.agg w,.int n],AI (.arr 32 (.int .u8)),LG H] []) ?_ ?_ (N:=N) (by omega);{exact key}
  ·intro i hi rec;have e1:(i:Int)<8:=by omega
   have e2:IntKind.i64.wrap (4*(i:Int))=((4*i:Nat):Int):=by rw[wrap_i64 (by omega) (by omega)];omega
   have e3:(32-((4*i:Nat):Int)).toNat=32-4*i:=by omega
   have c1:0<32-4*i:=by omega
   have c2:((4*i:Nat):Int)<=32/\jc 32<=32:=⟨by omega,by decide⟩;have gi:bj (.agg (H.map wI)) i=wI (H.getD i 0):=Hk (by omega);have ec:=q0H H hh2 i hi;unfold Ld;simp only[AF,AH,AJ,AL,AQ,AG,AO,Ab,e1,e2,e3,c1,c2,gi,ZC,HX,ec,AE,bz,and_self,bb,Bp (show i<4611686018427387904 by omega),AB]
  ·intro rec;have e:¬((8:Nat):Int)<8:=by decide
   unfold Ld;simp only[AF,AH,AJ,AL,AQ,AG,e,AE,q0G H hh2,AB]
 rw[aU];unfold Ve;simp only[Mn,AG,w8,r,e1,wl,hz,tz,ef,AB];refine(if_pos (by omega)).trans ?_;refine(if_pos ⟨by decide,by omega⟩).trans ?_;rw[h1];have m32:min (av 32) 64=32:=rfl;simp only[AF,ZC,AG,AO,bh,cond_true,Ky,m32,AB];refine(if_pos (by omega)).trans ?_;have h2':=h2;unfold FD at h2';rw[h2'];simp only[AR,AF,Iu,z32,AB];exact(lp _).trans rfl
end
section
variable {R:Type} {N:Nat}
def ivW:List W32:=[1779033703,3144134277,1013904242,2773480762,1359893119,2600822924,528734635,1541459225]
theorem q5j:∃m,Hb m ivW [] 0/\∀k:KD R,PZ N k=k [m] []:=by refine⟨.agg [.agg (ivW.map wI),.agg (bp 64 (.int 0)),.int 0],⟨⟨bp 64 (.int 0),rfl,by simp,rfl,fun c hc=>?_⟩,rfl,⟨by decide,by decide⟩,rfl⟩,fun k=>?_⟩;{rw[ti hc];exact⟨rfl,by decide,by decide⟩};{rw[aY];unfold Vi;rfl}
def ES (x:C):List C:=b4 (IntKind.u32.wrap (x.elems.length:Int))++x.elems
def Fg (d:C) (l:List C):List C:=[d,.int (IntKind.u8.wrap (l.length:Int))]++l.flatMap ES
def QS (p:List C):C:=LG ((FD p.length).foldl feed ((EF p.length).foldl feed (p.foldl feed (ivW,[])))).1
theorem p9 (d:C) (hd:Dd d) (l:List C) (B:Nat) (hb:Kt B l) (hl:l.length+1000<N) (hN:B+1000<N) (hN2:N<4611686018427387904) (hm:(Fg d l).length<4611686018427387904) (k:KD R):
  PV N d (.slice l) k=k [QS (Fg d l)] []:=by
 obtain⟨m0,hm0,h0⟩:=q5j (R:=R) (N:=N);have p1:Kt 10 [bw [d,bc (IntKind.u8.wrap (l.length:Int))]]:=fun x hx=>by rw[List.mem_singleton.1 hx];refine⟨rfl,fun c hc=>?_,by simp[AO]⟩;simp only[AO,ij,qx,or_false]at hc;rcases hc with rfl|rfl;{exact hd};{exact Xu _}
 obtain⟨m1,n1,hm1,hn1,h1⟩:=v3 (R:=R) (N:=N) [bw [d,bc (IntKind.u8.wrap (l.length:Int))]] m0 ivW [] 0 hm0 10 p1 (by simp;omega) (by omega) hN2;have c1:Fm [bw [d,bc (IntKind.u8.wrap (l.length:Int))]]=[d,bc (IntKind.u8.wrap (l.length:Int))]:=rfl;rw[c1]at hm1 hn1
 obtain⟨dd,⟨m2,hm2,rfl⟩,h2⟩:=Ga (R:=R) (F:=fun k2=>NI N k2) l.length
  (fun i st=>∃m:C,Hb m (([d,bc (IntKind.u8.wrap (l.length:Int))]++(l.take i).flatMap ES).foldl feed (ivW,[])).1 (([d,bc (IntKind.u8.wrap (l.length:Int))]++(l.take i).flatMap ES).foldl feed (ivW,[])).2 ((([d,bc (IntKind.u8.wrap (l.length:Int))]++(l.take i).flatMap ES).length:Nat)%18446744073709551616)/\st=[.slice l,.int l.length,.int i,AI (.arr 32 (.int .u8)),m])
  (fun dd=>∃m',Hb m' ((Fg d l).foldl feed (ivW,[])).1 ((Fg d l).foldl feed (ivW,[])).2 (((Fg d l).length:Nat)%18446744073709551616)/\dd=[AI (.arr 32 (.int .u8)),m'])
  (fun i st hi hst=>by
   obtain⟨m,hm,rfl⟩:=hst;have e1:(i:Int)<(l.length:Int):=by omega
   obtain⟨y1,y2,y3⟩:=hb _ (Eb hi);have pp:Kt (B+4) [bw (b4 (IntKind.u32.wrap ((l.getD i .nil).elems.length:Int))),l.getD i .nil]:=fun x hx=>by simp only[ij,qx,or_false]at hx;rcases hx with rfl|rfl;{exact⟨rfl,UC _,by rw[AO,Ky];omega⟩};{exact⟨y1,y2,by omega⟩}
   obtain⟨m2,n2,h2,hn2,h3⟩:=v3 (R:=R) (N:=N) _ m _ _ _ hm (B+4) pp (by simp;omega) (by omega) hN2;have cc:Fm [bw (b4 (IntKind.u32.wrap ((l.getD i .nil).elems.length:Int))),l.getD i .nil]=ES (l.getD i .nil):=by unfold Fm ES;rw[kg,kg,List.flatMap_nil,List.append_nil,AO]
   have ec:(l.take (i+1)).flatMap ES=(l.take i).flatMap ES++ES (l.getD i .nil):=by rw[XE hi,mi];simp
   rw[cc]at h2 hn2;refine⟨_,⟨m2,?_,rfl⟩,fun k rec=>?_⟩
   ·rw[ec,<-gd,gz];have en:n2=((([d,bc (IntKind.u8.wrap (l.length:Int))]++(l.take i).flatMap ES++ES (l.getD i .nil)).length:Nat):Int)%18446744073709551616:=by rw[hn2];generalize [d,bc (IntKind.u8.wrap (l.length:Int))]++(l.take i).flatMap ES=z;generalize ES (l.getD i .nil)=y;rw[br];omega
    rw[<-en];exact h2
   ·unfold NI;simp only[AF,AH,AJ,AL,AQ,AG,AO,e1,AE,bz,and_self,bb,ZC,h3,Bp (show i<4611686018427387904 by omega),AB])
  (fun st hst=>by
   obtain⟨m,hm,rfl⟩:=hst;rw[dh]at hm;refine⟨_,⟨m,hm,rfl⟩,fun k rec=>?_⟩;unfold NI;simp only[AF,AH,AJ,AL,AQ,AG,eg,AE,AB])
  (N:=N) (by omega) (st:=[.slice l,.int l.length,.int (0:Nat),AI (.arr 32 (.int .u8)),m1]) ⟨m1,by
   have e:([d,bc (IntKind.u8.wrap (l.length:Int))]++(l.take 0).flatMap ES)=[d,bc (IntKind.u8.wrap (l.length:Int))]:=rfl;rw[e];have en:n1=((([d,bc (IntKind.u8.wrap (l.length:Int))]).length:Nat):Int)%18446744073709551616:=by rw[hn1];simp
   rw[<-en];exact hm1,rfl⟩
 have ln:(((Fg d l).length:Nat):Int)%18446744073709551616=((Fg d l).length:Int):=by omega
 rw[ln]at hm2;rw[aQ];unfold Vc;simp only[h0,AF,AO,h1,AR,AB];refine(h2 _).trans ?_;simp only[AH,q4s m2 _ _ _ hm2 (show 1000<N by omega),AF];rfl
end
section
variable {R:Type} {N:Nat}
abbrev z32:C:=AI (.arr 32 (.int .u8))
theorem q2f (l:List C) (i:Nat):bj (.agg l) i=l.getD i .nil:=rfl
theorem eK (l:List C) (i:Nat) (x:C):cn (.agg l) i x= .agg (l.set i x):=rfl
theorem VK (i m r:Nat) (hi:i=4*m+r) (hr:r<4) (hm:m<8) (c h:List C) (hc:c.length=32) (hh:h.length=8) (x:Nat) (hx:x<4294967296) (hg:h.getD m .nil= .int (x:Int)) (K rec:KD R):
  Ll N K rec [.int 8,.int (i:Int),z32,.agg c,.agg h] []=rec [.int 8,.int ((i:Int)-1),z32,.agg (c.set i (.int ((x%256:Nat):Int))),.agg (h.set m (.int ((x / 256:Nat):Int)))] []:=by
 have z2:(i:Int)<32:=by omega
 have e8:av 8=8:=rfl;have q:fc (i:Int) 4=(m:Int):=by rw[im (by omega)];omega
 have q2:IntKind.i64.wrap (m:Int)=(m:Int):=wrap_i64 (by omega) (by omega);have c1:(m:Int)<((8:Nat):Int):=by omega
 have w1:IntKind.i64.wrap ((i:Int)-1)=(i:Int)-1:=wrap_i64 (by omega) (by omega);have m1:IntKind.u8.wrap (bn (x:Int) 256)=((x%256:Nat):Int):=by rw[ep (by omega),wrap_u8];omega
 have m2:IntKind.u64.wrap (fc (x:Int) 256)=((x / 256:Nat):Int):=by rw[im (by omega),wrap_u64 (by omega) (by omega)];omega
 unfold Ll;simp only[AF,AH,AJ,AL,AQ,AG,Ab,bz,z2,e8,q,q2,c1,w1,q2f,eK,bf,bb,hg,m1,m2,AE,and_self,di,AB];rfl
theorem q8U (A B:List C) (n:Nat) (hA:A.length=n) (a b c d a' b' c' d':C):((((A++[a,b,c,d]++B).set (n+3) d').set (n+2) c').set (n+1) b').set n a'=A++[a',b',c',d']++B:=by
 subst hA;apply fb;intro i;simp only[gd];by_cases h:i<A.length;{simp[fy,ft h,show ¬A.length=i by omega,show ¬A.length+1=i by omega,show ¬A.length+2=i by omega,show ¬A.length+3=i by omega]}
 ·obtain⟨j,rfl⟩:∃j,i=A.length+j:=⟨i-A.length,by omega⟩
  match j with
  |0=>simp[fy]|1=>simp[fy]|2=>simp[fy]|3=>simp[fy]|j+4=>simp[fy,gh]
theorem UB (x:Nat) (hx:x<4294967296):b4 (x:Int)=[.int ((x / 256 / 256 / 256%256:Nat):Int),.int ((x / 256 / 256%256:Nat):Int),.int ((x / 256%256:Nat):Int),.int ((x%256:Nat):Int)]:=by unfold b4;simp only[wrap_u8];rw[jk _ (by decide),jk _ (by decide),jk _ (by decide)];simp only[show(2:Int)^24=16777216 by decide,show(2:Int)^16=65536 by decide,show(2:Int)^8=256 by decide];rw[show((x:Int) / 16777216)%256=((x / 256 / 256 / 256%256:Nat):Int) by omega,show((x:Int) / 65536)%256=((x / 256 / 256%256:Nat):Int) by omega,show((x:Int) / 256)%256=((x / 256%256:Nat):Int) by omega,show(x:Int)%256=((x%256:Nat):Int) by omega]
theorem pU (hW:List W32) (hh8:hW.length=8) (K:KD R):∀(m M:Nat) (h:List C),m<=8->h.length=8->(∀j,j<m->h.getD j .nil=wI (hW.getD j 0))->4*m+1<M->
  BR M (Ll N K) [.int 8,.int (4*(m:Int)-1),z32,.agg (bp (4*m) (.int 0)++(hW.drop m).flatMap fun x=>b4 x.toNat),.agg h] []=K [z32,LG hW] []
 |0,M,h,_,hl,_,hM=>by
  obtain⟨M,rfl⟩:∃a,M=a+1:=⟨M-1,by omega⟩;rw[Dl];unfold Ll;have e:¬(0:Int)<=4*((0:Nat):Int)-1:=by omega
  simp only[AF,AH,AJ,AL,AQ,AG,e,AE,AB];rfl
 |m+1,M,h,hm,hl,hg,hM=>by
  obtain⟨M,rfl⟩:∃a,M=a+1+1+1+1:=⟨M-4,by omega⟩;have hx:=DK (hW.getD m 0);have g:=hg m (by omega);obtain⟨x,hxx⟩:∃x,(hW.getD m 0).toNat=x:=⟨_,rfl⟩;have hr:bp (4*(m+1)) (bc 0)=bp (4*m) (.int 0)++[.int 0,.int 0,.int 0,.int 0]:=by rw[show 4*(m+1)=4*m+4 by omega,<-List.replicate_append_replicate];rfl
  have hd:(hW.drop m).flatMap (fun x=>b4 x.toNat)=b4 (x:Int)++(hW.drop (m+1)).flatMap fun x=>b4 x.toNat:=by rw[List.drop_eq_getElem_cons (by omega),kg];rw[bq,bo (by omega)]at hxx;simp only[jg]at hxx;rw[hxx]
  rw[hxx]at hx;have hgx:h.getD m .nil= .int (x:Int):=by rw[g,<-hxx];rfl
  have lc:(bp (4*m) (bc 0)++[bc 0,.int 0,.int 0,.int 0]++(hW.drop (m+1)).flatMap fun x=>b4 x.toNat).length=32:=by simp only[br,List.length_replicate,YZ,List.length_drop,hh8,cg,cr];omega
  have z8P:∀(l:List C) (v:C),l.length=8->(l.set m v).getD m .nil=v:=fun l v hl=>by rw[bq,List.getElem?_set_self (by omega)];rfl
  rw[hr];have i3:(4*((m+1:Nat):Int)-1)=((4*m+3:Nat):Int):=by omega
  have i2:(((4*m+3:Nat):Int)-1)=((4*m+2:Nat):Int):=by omega
  have i1:(((4*m+2:Nat):Int)-1)=((4*m+1:Nat):Int):=by omega
  have i0:(((4*m+1:Nat):Int)-1)=((4*m:Nat):Int):=by omega
  rw[i3,Dl,VK (4*m+3) m 3 rfl (by omega) (by omega) _ _ lc hl x hx hgx,i2,Dl,VK (4*m+2) m 2 rfl (by omega) (by omega) _ _ (by rw[di];exact lc) (by rw[di];exact hl) (x / 256) (by omega) (z8P _ _ hl),i1,
   Dl,VK (4*m+1) m 1 rfl (by omega) (by omega) _ _ (by rw[di,di];exact lc) (by rw[di,di];exact hl) (x / 256 / 256) (by omega) (z8P _ _ (by rw[di];exact hl)),i0,
   Dl,VK (4*m) m 0 rfl (by omega) (by omega) _ _ (by rw[di,di,di];exact lc) (by rw[di,di,di];exact hl) (x / 256 / 256 / 256) (by omega) (z8P _ _ (by rw[di,di];exact hl)),
   q8U _ _ (4*m) (by simp),gd,<-UB x hx,<-hd]
  have e:(((4*m:Nat):Int)-1)=4*(m:Int)-1:=by omega
  rw[e];refine pU hW hh8 K m M _ (by omega) (by simp only[di];exact hl) (fun j hj=>?_) (by omega);rw[<-hg j (by omega)];simp only[bq,List.getElem?_set_ne (show m≠j by omega)]
theorem pV (t:C) (ht:GB t) (hN:1000<N) (K:KD R):∀(q M:Nat) (b:List C) (h:List W32),b.length=64*q->h.length=8->(∀c∈b,Dd c)->q<M->
  BR M (NV N K) [t,.slice b,.int 8,z32,.agg (h.map wI)] []=K [.int 8,z32,.agg ((b.foldl feed (h,[])).1.map wI)] []
 |0,M,b,h,hb,hh,_,hM=>by obtain⟨M,rfl⟩:∃a,M=a+1:=⟨M-1,by omega⟩;have hb0:b=[]:=fl (by omega);subst hb0;rw[Dl];unfold NV;simp only[AF,AH,AJ,AL,AQ,AO,AG,cr,eg,AE,wz,AB];rfl
 |q+1,M,b,h,hb,hh,hbb,hM=>by
  obtain⟨M,rfl⟩:∃a,M=a+1:=⟨M-1,by omega⟩;have z':0<(b.length:Int):=by omega
  have c1:64<=(b.length:Int):=by omega
  have c2:jc 0<=0/\jc 0<=64/\64<=(b.length:Int):=⟨by decide,by decide,c1⟩;have c3:jc 0<=64/\64<=(b.length:Int)/\(b.length:Int)<=(b.length:Int):=⟨by decide,c1,Int.le_refl _⟩;have e8:av 8=8:=rfl;have th:eu 8 (iy 0 (h.map wI))=h.map wI:=by rw[jf];exact ez (by rw[fg];omega)
  have k1:cut b 0 64=b.take 64:=by simp[cut]
  have k2:cut b 64 (b.length:Int)=b.drop 64:=by simp[cut]
  have bl:∀k:KD R,NX N t (.slice (h.map wI)) (.slice (b.take 64)) k=k [.int 8,.agg ((JU h (b.take 64)).map wI)] []:=fun k=>
   Z6 t ht h (b.take 64) hh (by simp;omega) (fun c hc=>hbb c (jm hc)) hN k
  have ff:b.foldl feed (h,[])=(b.drop 64).foldl feed (JU h (b.take 64),[]):=by
   conv=>lhs;rw[<-kc 64 b]
   rw[gz,Ys (b.take 64) h [] (by simp;omega) (by simp)];rfl
  rw[Dl,ff,<-pV t ht hN K q M (b.drop 64) (JU h (b.take 64)) (by simp;omega) (YL hh _) (fun c hc=>hbb c (jl hc)) (by omega)];unfold NV;simp only[AF,AH,AJ,AL,AQ,AO,AG,Ab,z',c2,c3,e8,k1,k2,th,bl,AE,and_self,bb,AB];rfl
def ivL (i:Nat):List C:=((ivW.take i).map wI)++bp (8-i) (AI (.int .u64))
theorem q2W:∀i,i<8->(ivL i).set i (wI (ivW.getD i 0))=ivL (i+1)
 |0,_=>rfl|1,_=>rfl|2,_=>rfl|3,_=>rfl|4,_=>rfl|5,_=>rfl|6,_=>rfl|7,_=>rfl|i+8,h=>by omega
theorem q3g (t:C) (ht:GB t) (b:List C) (hN:1000<N) (K:KD R):
  BR N (Lm N K) [t,.slice b,.int 8,.int 0,z32,.agg (bp 8 (AI (.int .u64)))] []=K [t,.slice b,.int 8,z32,.agg (ivW.map wI)] []:=by
 have key:=Ee (F:=Lm N K) (fun i=>[t,.slice b,.int 8,.int (i:Nat),z32,.agg (ivL i)]) (fun _=>[]) 8 (K [t,.slice b,.int 8,z32,.agg (ivW.map wI)] []) ?_ ?_ (N:=N) (by omega);{exact key}
 ·intro i hi rec;have e1:(i:Int)<8:=by omega
  have e8:av 8=8:=rfl;have e2:(i:Int)<((8:Nat):Int):=by omega
  have rt:∀k:KD R,KV N (t.get 0) (.int i) k=k [wI (ivW.getD i 0)] []:=fun k=>by rw[iR _ i (by rw[ht.l0];omega) (by omega) (by omega),ht.w0 i hi];rfl
  unfold Lm;simp only[AF,AH,AJ,AL,AQ,Aa,AG,AO,Ab,e1,e2,e8,rt,eK,bf,AE,bz,and_self,bb,bh,di,q2W i hi,Bp (show i<4611686018427387904 by omega),AB];rfl
 ·intro rec;have e:¬((8:Nat):Int)<8:=by decide
  unfold Lm;simp only[AF,AH,AJ,AL,AQ,Aa,AG,AO,Ab,e,AE,bh,AB];rfl
end
section
variable {R:Type} {N:Nat}
theorem q3j (t p1:C) (p:List C) (n:Nat) (hp:p.length=n) (hn:n<=4398046511104) (hN:1000<N) (K:KD R):
  BR N (Ln N K) [p1,t,.slice (p++[.int 128]),z32] []=K [p1,t,.slice (p++EF n),z32] []:=by
 obtain⟨m,hm⟩:∃m,63-(((n:Int)+8)%64).toNat=m:=⟨_,rfl⟩;have hm2:m<64:=by omega
 have key:=Ee (F:=Ln N K) (fun i=>[p1,t,.slice (p++.int 128::bp i (.int 0)),z32]) (fun _=>[]) m (K [p1,t,.slice (p++EF n),z32] []) ?_ ?_ (N:=N) (by omega);{exact key}
 ·intro i hi rec;have hl:(p++bc 128::bp i (bc 0)).length=n+1+i:=by simp[hp];omega
  have z:¬((n+1+i:Nat):Int).tmod 64=56:=by rw[ep (by omega)];omega
  have g1:(n+1+i+1)*1<=140737488355328/\n+1+i+1<=9223372036854775807:=by omega
  have e:(p++bc 128::bp i (bc 0))++[bc 0]=p++bc 128::bp (i+1) (bc 0):=by rw[List.replicate_succ',gd];rfl
  have hl2:(p++bc 128::bp (i+1) (bc 0)).length=n+1+i+1:=by simp[hp];omega
  unfold Ln;simp only[AF,AH,AJ,AL,AO,hl,z,g1,e,hl2,AE,bh,and_self,AB]
 ·intro rec;have hl:(p++bc 128::bp m (bc 0)).length=n+1+m:=by simp[hp];omega
  have z:((n+1+m:Nat):Int).tmod 64=56:=by rw[ep (by omega)];omega
  have e:EF n=bc 128::bp m (bc 0):=by unfold EF;rw[hm]
  rw[e];unfold Ln;simp only[AF,AH,AJ,AL,AO,hl,z,AE,bh]
theorem q3i (t:C) (b e:List C) (x:Nat) (hx:x<18446744073709551616) (i:Nat) (hi:i<8) (K rec:KD R):
  KR N K rec [t,.int 0,.int 8,.int 8,.slice b,.int (x:Int),.int (i:Int),z32,.agg e] []=rec [t,.int 0,.int 8,.int 8,.slice b,.int ((x / 256:Nat):Int),.int ((i:Int)-1),z32,.agg (e.set i (.int ((x%256:Nat):Int)))] []:=by
 have c1:(i:Int)<((8:Nat):Int):=by omega
 have e8:av 8=8:=rfl;have w1:IntKind.i64.wrap ((i:Int)-1)=(i:Int)-1:=wrap_i64 (by omega) (by omega);have m1:IntKind.u8.wrap (bn (x:Int) 256)=((x%256:Nat):Int):=by rw[ep (by omega),wrap_u8];omega
 have m2:IntKind.u64.wrap (fc (x:Int) 256)=((x / 256:Nat):Int):=by rw[im (by omega),wrap_u64 (by omega) (by omega)];omega
 have t0:av 0=0:=rfl;unfold KR;simp only[AF,AH,AJ,AL,AQ,Aa,Ac,Ah,Ai,AO,AG,c1,e8,t0,w1,m1,m2,eK,bf,bz,AE,bh,and_self,bb,AB];rfl
theorem rH (n:Nat) (hn:n<=4398046511104):FD n=[.int ((n*8 / 256 / 256 / 256 / 256 / 256 / 256 / 256%256:Nat):Int),.int ((n*8 / 256 / 256 / 256 / 256 / 256 / 256%256:Nat):Int),.int ((n*8 / 256 / 256 / 256 / 256 / 256%256:Nat):Int),.int ((n*8 / 256 / 256 / 256 / 256%256:Nat):Int),.int ((n*8 / 256 / 256 / 256%256:Nat):Int),.int ((n*8 / 256 / 256%256:Nat):Int),.int ((n*8 / 256%256:Nat):Int),.int ((n*8%256:Nat):Int)]:=by
 unfold FD;have e1:IntKind.u32.wrap (jv ((n:Int)*8%18446744073709551616) (2^32))=((n*8 / 4294967296:Nat):Int):=by rw[jk _ (by decide),wrap_u32,show(2:Int)^32=4294967296 by decide];omega
 have e2:IntKind.u32.wrap ((n:Int)*8%18446744073709551616)=((n*8%4294967296:Nat):Int):=by rw[wrap_u32];omega
 rw[e1,e2,UB _ (by omega),UB _ (by omega)];obtain⟨y,hy⟩:∃y,n*8=y:=⟨_,rfl⟩;rw[hy];have f1:y / 4294967296=y / 256 / 256 / 256 / 256:=by omega
 have f2:y%4294967296%256=y%256:=by omega
 have f3:y%4294967296 / 256%256=y / 256%256:=by omega
 have f4:y%4294967296 / 256 / 256%256=y / 256 / 256%256:=by omega
 have f5:y%4294967296 / 256 / 256 / 256%256=y / 256 / 256 / 256%256:=by omega
 rw[f1,f2,f3,f4,f5];rfl
theorem q3h (t:C) (b:List C) (n:Nat) (hn:n<=4398046511104) (hN:1000<N) (K:KD R):
  BR N (KR N K) [t,.int 0,.int 8,.int 8,.slice b,.int ((n*8:Nat):Int),.int 7,z32,.agg (bp 8 (AI (.int .u8)))] []=K [t,.int 0,.int 8,.int 8,.slice b,z32,.agg (FD n)] []:=by
 obtain⟨M,hM⟩:∃M,N=M+1+1+1+1+1+1+1+1+1:=⟨N-9,by omega⟩;obtain⟨F,hF⟩:∃F,KR N K=F:=⟨_,rfl⟩;have one:∀(e:List C) (x:Nat) (_:x<18446744073709551616) (i:Nat) (_:i<8) (rec:KD R),F rec [t,.int 0,.int 8,.int 8,.slice b,.int (x:Int),.int (i:Int),z32,.agg e] []=rec [t,.int 0,.int 8,.int 8,.slice b,.int ((x / 256:Nat):Int),.int ((i:Int)-1),z32,.agg (e.set i (.int ((x%256:Nat):Int)))] []:=fun e x hx i hi rec=>by rw[<-hF];exact q3i t b e x hx i hi K rec
 have stop:∀(e:List C) (x:Int) (rec:KD R),F rec [t,.int 0,.int 8,.int 8,.slice b,.int x,.int (-1),z32,.agg e] []=K [t,.int 0,.int 8,.int 8,.slice b,z32,.agg e] []:=fun e x rec=>by
  rw[<-hF];have e0:¬(0:Int)<=-1:=by decide
  have e8:av 8=8:=rfl;have t0:av 0=0:=rfl;unfold KR;simp only[AF,AH,AJ,AL,AQ,Aa,Ac,Ah,Ai,AO,AG,e0,e8,t0,AE,bh,AB];rfl
 rw[hF,hM,rH n hn];have s7:(7:Int)=((7:Nat):Int):=rfl;have s6:((7:Nat):Int)-1=((6:Nat):Int):=rfl;have s5:((6:Nat):Int)-1=((5:Nat):Int):=rfl;have s4:((5:Nat):Int)-1=((4:Nat):Int):=rfl;have s3:((4:Nat):Int)-1=((3:Nat):Int):=rfl;have s2:((3:Nat):Int)-1=((2:Nat):Int):=rfl;have s1:((2:Nat):Int)-1=((1:Nat):Int):=rfl;have s0:((1:Nat):Int)-1=((0:Nat):Int):=rfl;have sm:((0:Nat):Int)-1= -1:=rfl;obtain⟨y,hy⟩:∃y,n*8=y:=⟨_,rfl⟩;rw[hy,s7,Dl,one _ y (by omega) 7 (by omega),s6,Dl,one _ (y / 256) (by omega) 6 (by omega),s5,Dl,one _ (y / 256 / 256) (by omega) 5 (by omega),s4,Dl,one _ (y / 256 / 256 / 256) (by omega) 4 (by omega),s3,Dl,one _ (y / 256 / 256 / 256 / 256) (by omega) 3 (by omega),s2,Dl,one _ (y / 256 / 256 / 256 / 256 / 256) (by omega) 2 (by omega),s1,Dl,one _ (y / 256 / 256 / 256 / 256 / 256 / 256) (by omega) 1 (by omega),s0,Dl,one _ (y / 256 / 256 / 256 / 256 / 256 / 256 / 256) (by omega) 0 (by omega),sm,Dl,stop];rfl
theorem o8 (t:C) (ht:GB t) (p:List C) (hb:∀c∈p,Dd c) (hp:p.length<=4398046511104) (hN:p.length+1000<N) (k:KD R):NW N t (.slice p) k=k [QS p] []:=by
 obtain⟨n,hn⟩:∃n,p.length=n:=⟨_,rfl⟩;have lf:(EF n).length=1+(63-(((n:Int)+8)%64).toNat):=by simp[EF];omega
 have ll:(FD n).length=8:=by rw[rH n (by omega)];rfl
 obtain⟨q,hq⟩:∃q,(p++EF n++FD n).length=64*q:=⟨(p++EF n++FD n).length / 64,by simp only[br,lf,ll,hn];omega⟩;have hq2:q<N:=by simp only[br,lf,ll,hn]at hq;omega
 have hbb:∀c∈p++EF n++FD n,Dd c:=fun c hc=>by rcases eh.1 hc with hc|hc;{rcases eh.1 hc with hc|hc;{exact hb c hc};{exact PC _ c hc}};{exact rI _ c hc}
 have hH:((p++EF n++FD n).foldl feed (ivW,[])).1.length=8:=q1X rfl _ _;have y0M:QS p=LG ((p++EF n++FD n).foldl feed (ivW,[])).1:=by unfold QS;rw[hn,gz,gz]
 have w8:IntKind.u64.wrap (IntKind.u64.wrap (n:Int)*8)=((n*8:Nat):Int):=by simp only[Km];omega
 have g1:(n+1)*1<=140737488355328/\n+1<=9223372036854775807:=by omega
 have g2:((p++EF n).length+8)*1<=140737488355328/\(p++EF n).length+8<=9223372036854775807:=by simp only[br,lf,hn];omega
 have te:eu 8 (iy 0 (FD n))=FD n:=by rw[jf];exact ez (by omega)
 have e8:av 8=8:=rfl;have t0:av 0=0:=rfl;rw[cT];unfold WS;simp only[AR,AO,hn,bh,AE,g1,and_self,br,cg,cr,bf,AB];refine(q3j t (.slice p) p n hn (by omega) (by omega) _).trans ?_;simp only[AF,AH,AJ,AL,AO,bh,cond_true,e8,hn,w8];refine(q3h t (p++EF n) n (by omega) (by omega) _).trans ?_;simp only[AF,AH,AJ,AL,AQ,Aa,Ac,AO,Ab,AG,e8,t0,te,ll,AB];rw[if_pos g2];refine(q3g t ht _ (by omega) _).trans ?_;simp only[AF,AH,AJ,AL,AQ,Aa,AO,Ab,AG,e8,if_true,AB];refine(pV t ht (by omega) _ q N (p++EF n++FD n) ivW hq rfl hbb hq2).trans ?_;simp only[AF,AH,AJ,Ab,AG,e8,if_true,AB];rw[y0M]
 have key:=pU (N:=N) _ hH (fun d5 m5=>k [U d5 1] []) 8 N (((p++EF n++FD n).foldl feed (ivW,[])).1.map wI) (by omega) (by rw[fg];exact hH) (fun j hj=>by
  rw[bq,db,bq,bo (by omega)];rfl) (by omega)
 have e0:(bp (4*8) (bc 0)++(((p++EF n++FD n).foldl feed (ivW,[])).1.drop 8).flatMap fun x=>b4 x.toNat)=bp 32 (.int 0):=by rw[ue (by omega)];rfl
 rw[e0]at key;exact key
end
end Go.Proofs.YteealakhniofoaaGreatDoor
