/-
 What the functions on the way compute, part 5.
 Conditions: none.
-/
import Derived.Test.YteealakhniofoaaGreatDoorKd
set_option linter.all false
noncomputable section
set_option maxRecDepth 100000
set_option maxHeartbeats 4000000
open Go.E.C renaming agg->dc,bool->de,elems->ax,get->bj,int->bc,nil->dj,set->cn,slice->bw,toBool->dg,toInt->aq
open Go.E.Key renaming g->dp,l->ch
open Go.E.O renaming box->dy,dead->fk
open Go.E.Ty renaming arr->ca,int->bm
open Go.E.V renaming agg->mf,ptr->xh,sr->oq
open Go.IntKind renaming i64->ba,u64->ay,u8->cq,wrap->ar
open Int renaming lt_irrefl->eg,natCast_nonneg->bz,toNat->av,toNat_natCast->bb,toNat_zero->bu
open List renaming append_nil->tv,drop->iy,getD->bt,getElem?_eq_getElem->bo,length->au,length_append->br,length_cons->cg,length_nil->cr,length_take->jh,mem_singleton->fj,replicate->bp,take->eu,take_length->dh,take_succ_cons->vf
open List.cons renaming injEq->nf
open Nat renaming beq->df,beq_refl->bh,zero_add->bf
namespace Go.Proofs.YteealakhniofoaaGreatDoor
open Go Go.E
variable {R:Type} (N:Nat)
def q0k:List Sh:=[.as (.ptr (.g (.l 1)) [] Ba),.d tTx]
def q0n:List (Key × OSh):=[(.l 1,.box (.agg Ba [.as (.ptr (.g (.l 2)) [] BN),.as (.ptr (.g (.l 5)) [] Bz),.d (.int .u64),.d (.int .u64),.vec (.g (.l 7)) 240 AV,.vec (.g (.l 8)) 2368 tTx,.vec (.g (.l 9)) 40 AW])),(.l 2,.box (.agg BN [.vec (.g (.l 3)) 8 (.int .u64),.vec (.g (.l 4)) 8 (.int .u64),.d (.int .u64)])),(.l 3,.box (.arr (.int .u64))),(.l 4,.box (.arr (.int .u64))),(.l 5,.box (.agg Bz [.as (.mp (.g (.l 6)))])),(.l 6,.map (.arr 32 (.int .u8)) AP),(.l 7,.box (.arr AV)),(.l 8,.box (.arr tTx)),(.l 9,.box (.arr AW))]
def UR (a0 b0 b1 b2 b3 b4 b5 b6 b7 b8 b9 b10 b11 b12 b13:C) (m0:Es) (k1:KD R):Option R:=if au (ax b8)=au (ax b8)then(gA b9 (gM AP m0 (gA b10 (gA b11 (gA b12 (RB N a0 b0 b1 (nI b2) (nI b3) (nI b4) (nI b5) (nI b6) b7 b8 b9 b10 b11 b12 dj (unE (dE AP m0)) (fun J m1=>(jn (fun I m2=>(gL (av (aq (U I 6))) 40 (jn (fun d3 m3=>(gA (U d3 9) (gA (U d3 10) (gM AP (dm m3 0) (gA (U d3 11) (gA (U d3 12) (gA (U d3 13) (k1 [U d3 0,U d3 1,U d3 2,nI (U d3 3),nI (U d3 4),nI (U d3 5),nI (U d3 6),nI (U d3 7),U d3 8,nI (U d3 14),U d3 9,nI (U d3 15),U d3 10,nI (U d3 16),U d3 11,nI (U d3 17),U d3 12,nI (U d3 18),U d3 13] [unE (dE AP (dm m3 0))])))))))) (fun k2=>(bif decide (0<ar ba ((↑(av (aq (U I 6))+1):Int)-1024))then(if 0<=ar ba ((↑(av (aq (U I 6))+1):Int)-1024)/\ar ba ((↑(av (aq (U I 6))+1):Int)-1024)<=(↑(av (aq (U I 6))+1):Int)/\(↑(av (aq (U I 6))+1):Int)<=(↑(av (aq (U I 6))+1):Int)then(gA (U I 10) (gA (U I 11) (gM AP (dm m2 0) (gA (U I 12) (gA (U I 13) (if au (eu (av ((↑(av (aq (U I 6))+1):Int)-ar ba ((↑(av (aq (U I 6))+1):Int)-1024))) (iy (0+av (ar ba ((↑(av (aq (U I 6))+1):Int)-1024))) (eu (av (aq (U I 6))) (ax (U I 14))++[cn (cn (cn (cn (cn (dc [bc 0,bc 0,bc 0,bc 0,bc 0]) 0 (U I 3)) 1 (bj (U I 0) 0)) 2 (bj (U I 0) 1)) 3 (bj (U I 0) 6)) 4 (U I 1)])))=au (eu (av ((↑(av (aq (U I 6))+1):Int)-ar ba ((↑(av (aq (U I 6))+1):Int)-1024))) (iy (0+av (ar ba ((↑(av (aq (U I 6))+1):Int)-1024))) (eu (av (aq (U I 6))) (ax (U I 14))++[cn (cn (cn (cn (cn (dc [bc 0,bc 0,bc 0,bc 0,bc 0]) 0 (U I 3)) 1 (bj (U I 0) 0)) 2 (bj (U I 0) 1)) 3 (bj (U I 0) 6)) 4 (U I 1)])))then(k2 [U I 1,U I 2,U I 3,nI (U I 4),nI (U I 5),bc (↑(au (eu (av ((↑(av (aq (U I 6))+1):Int)-ar ba ((↑(av (aq (U I 6))+1):Int)-1024))) (iy (0+av (ar ba ((↑(av (aq (U I 6))+1):Int)-1024))) (eu (av (aq (U I 6))) (ax (U I 14))++[cn (cn (cn (cn (cn (dc [bc 0,bc 0,bc 0,bc 0,bc 0]) 0 (U I 3)) 1 (bj (U I 0) 0)) 2 (bj (U I 0) 1)) 3 (bj (U I 0) 6)) 4 (U I 1)])))):Int),nI (U I 7),nI (U I 8),U I 9,U I 10,U I 11,U I 12,U I 13,dc (eu (av ((↑(av (aq (U I 6))+1):Int)-ar ba ((↑(av (aq (U I 6))+1):Int)-1024))) (iy (0+av (ar ba ((↑(av (aq (U I 6))+1):Int)-1024))) (eu (av (aq (U I 6))) (ax (U I 14))++[cn (cn (cn (cn (cn (dc [bc 0,bc 0,bc 0,bc 0,bc 0]) 0 (U I 3)) 1 (bj (U I 0) 0)) 2 (bj (U I 0) 1)) 3 (bj (U I 0) 6)) 4 (U I 1)]))),nI (U I 15),nI (U I 16),nI (U I 17),nI (U I 18),nI (U I 19),nI (U I 15),nI (U I 16),nI (U I 17),nI (U I 18),nI (U I 19),nI (U I 15),nI (U I 16),nI (U I 17),nI (U I 18),nI (U I 19)] [unE (dE AP (dm m2 0))])else none))))))else none)else(gA (U I 10) (gA (U I 11) (gM AP (dm m2 0) (gA (U I 12) (gA (U I 13) (if av (aq (U I 6))+1=au (eu (av (aq (U I 6))) (ax (U I 14))++[cn (cn (cn (cn (cn (dc [bc 0,bc 0,bc 0,bc 0,bc 0]) 0 (U I 3)) 1 (bj (U I 0) 0)) 2 (bj (U I 0) 1)) 3 (bj (U I 0) 6)) 4 (U I 1)])then(k2 [U I 1,U I 2,U I 3,nI (U I 4),nI (U I 5),bc (↑(av (aq (U I 6))+1):Int),nI (U I 7),nI (U I 8),U I 9,U I 10,U I 11,U I 12,U I 13,dc (eu (av (aq (U I 6))) (ax (U I 14))++[cn (cn (cn (cn (cn (dc [bc 0,bc 0,bc 0,bc 0,bc 0]) 0 (U I 3)) 1 (bj (U I 0) 0)) 2 (bj (U I 0) 1)) 3 (bj (U I 0) 6)) 4 (U I 1)]),nI (U I 15),nI (U I 16),nI (U I 17),nI (U I 18),nI (U I 19),nI (U I 15),nI (U I 16),nI (U I 17),nI (U I 18),nI (U I 19),nI (U I 15),nI (U I 16),nI (U I 17),nI (U I 18),nI (U I 19)] [unE (dE AP (dm m2 0))])else none))))))))))) (fun k2=>(bif decide (aq (U J 0)=0)then(gA (U J 10) (gA (U J 12) (gM AP (dm m1 0) (gA (U J 14) (gA (U J 16) (gA (U J 18) (Qy N a0 (U J 1) (U J 2) (nI (U J 3)) (nI (U J 4)) (nI (U J 5)) (nI (U J 6)) (nI (U J 7)) (U J 8) (U J 10) (U J 12) (U J 14) (U J 16) (U J 18) dj (unE (dE AP (dm m1 0))) (fun I m2=>(gA (U I 10) (gA (U I 12) (gM AP (dm m2 0) (gA (U I 14) (gA (U I 16) (gA (U I 18) (k2 [a0,U I 0,U I 1,U I 2,nI (U I 3),nI (U I 4),nI (U I 5),nI (U I 6),nI (U I 7),U I 8,U I 10,U I 12,U I 14,U I 16,U I 18,nI (U J 9),nI (U J 11),nI (U J 13),nI (U J 15),nI (U J 17),nI (U J 9),nI (U J 11),nI (U J 13),nI (U J 15),nI (U J 17)] [unE (dE AP (dm m2 0))])))))))))))))))else(gA (U J 10) (gA (U J 12) (gM AP (dm m1 0) (gA (U J 14) (gA (U J 16) (gA (U J 18) (k2 [a0,U J 0,U J 1,U J 2,nI (U J 3),nI (U J 4),nI (U J 5),nI (U J 6),nI (U J 7),U J 8,U J 10,U J 12,U J 14,U J 16,U J 18,nI (U J 9),nI (U J 11),nI (U J 13),nI (U J 15),nI (U J 17),nI (U J 9),nI (U J 11),nI (U J 13),nI (U J 15),nI (U J 17)] [unE (dE AP (dm m1 0))])))))))))))))))))else none
def Qz:=lid "" (@UR R N)
theorem YR {R N a0 b0 b1 b2 b3 b4 b5 b6 b7 b8 b9 b10 b11 b12 b13 m0 k}:@Qz R N a0 b0 b1 b2 b3 b4 b5 b6 b7 b8 b9 b10 b11 b12 b13 m0 k=UR N a0 b0 b1 b2 b3 b4 b5 b6 b7 b8 b9 b10 b11 b12 b13 m0 k:=by unfold Qz;rw[BQ]
def q0l:OvG R:=Cu q0k q0n (fun ds ms=>Qz N (U ds 0) (U ds 1) (U ds 2) (U ds 3) (U ds 4) (U ds 5) (U ds 6) (U ds 7) (U ds 8) (U ds 9) (U ds 10) (U ds 11) (U ds 12) (U ds 13) (U ds 14) (dm ms 0)) fun ds ms K J m1=>K (V.d (bm ba) (U J 0)) [(dp (ch 1),
  dy
   (mf Ba
    [xh (dp (ch 2)) [] BN,xh (dp (ch 5)) [] Bz,V.d (bm ay) (U J 1),
     V.d (bm ay) (U J 2),
     oq (ch 1000000000234) [] 0 (av (aq (U J 3))) none 240 AV,
     oq (ch 1000000000266) [] 0 (av (aq (U J 4))) none 2368 tTx,
     oq (ch 1000000000298) [] 0 (av (aq (U J 5))) none 40 AW])),
 (dp (ch 2),
  dy
   (mf BN
    [oq (ch 1000000000106) [] 0 (av (aq (U J 6))) none 8 (bm ay),
     oq (ch 1000000000138) [] 0 (av (aq (U J 7))) none 8 (bm ay),
     V.d (bm ay) (U J 8)])),
 (dp (ch 3),fk (ca (av (aq (U J 9))) (bm ay))),
 (ch 1000000000106,dy (V.d (ca (au (ax (U J 10))) (bm ay)) (U J 10))),
 (dp (ch 4),fk (ca (av (aq (U J 11))) (bm ay))),
 (ch 1000000000138,dy (V.d (ca (au (ax (U J 12))) (bm ay)) (U J 12))),
 (dp (ch 5),dy (mf Bz [V.mp (dp (ch 6))])),
 (dp (ch 6),O.map (ca 32 (bm cq)) AP (dE AP (dm m1 0))),
 (dp (ch 7),fk (ca (av (aq (U J 13))) AV)),
 (ch 1000000000234,dy (V.d (ca (au (ax (U J 14))) AV) (U J 14))),
 (dp (ch 8),fk (ca (av (aq (U J 15))) tTx)),
 (ch 1000000000266,dy (V.d (ca (au (ax (U J 16))) tTx) (U J 16))),
 (dp (ch 9),fk (ca (av (aq (U J 17))) AW)),
 (ch 1000000000298,dy (V.d (ca (au (ax (U J 18))) AW) (U J 18)))]
theorem q0m:okX 47 (@q0l R N):=Cv (BJ (q0u N) <| BJ (q0i N) <| BJ (U2 N) <| BT) N [(47,[(0,[(3,5)]),(7,[(51,100)])])] [(47,[([1,0,1,1],⟨[0,3],[(5,.d (.int .i64))],[.g (.l 1),.g (.l 2),.g (.l 3),.g (.l 4),.g (.l 5),.g (.l 6),.g (.l 7),.g (.l 8),.g (.l 9)],[],[],[(.int .u64),AV,tTx,AW]⟩),
  ([1,1,0,1,1,1,1],⟨[0,5],[],[.g (.l 1),.g (.l 2),.g (.l 3),.g (.l 4),.g (.l 5),.g (.l 6),.g (.l 7),.g (.l 8),.g (.l 9)],[],[],[(.int .u64),AV,tTx,AW]⟩),
  ([9],⟨[],[(4,.d (.int .i64))],[.g (.l 1),.g (.l 2),.g (.l 3),.g (.l 4),.g (.l 5),.g (.l 6),.g (.l 7),.g (.l 8),.g (.l 9)],[],[],[(.int .u64),AV,tTx,AW]⟩)])] (fun _ _ _=>YR)
section
variable {R:Type} {N:Nat}
structure CS where
 least:C
 ya:C
 kept:C
 has:C
 yd:C
 yc:List C
 yb:List C
 evs:List C
 book:Es
def CS.out (s:CS) (n:Nat) (e:Int) (j:Nat->C):List C:=[.int e,s.least,s.ya,.int s.yc.length,.int s.yb.length,.int s.evs.length,.int n,.int n,s.kept,j 0,s.has,j 1,s.yd,j 2,.agg s.yc,j 3,.agg s.yb,j 4,.agg s.evs]
def jL (a b c d e:C):Nat->C
 |0=>a|1=>b|2=>c|3=>d|_=>e
def CS.JI (s:CS) (kept has yd:C):CS:={s with kept:=kept,has:=has,yd:=yd}
theorem Ab (l:List C):ax (.agg l)=l:=rfl
theorem Hz {n:Nat} (h:n<4611686018427387904):IntKind.i64.wrap ((n:Int)-1)=(n:Int)-1:=wrap_i64 (by omega) (by omega)
section
variable (s:CS) (n:Nat) (t:C)
def Gc:Int × CS:=
 if(PH n (t.get 1) s.has).toInt<(t.get 3).toInt then(23,s)else
  if(Ew n (t.get 1) (t.get 2) s.yd).1≠0 then((Ew n (t.get 1) (t.get 2) s.yd).1,s.JI s.kept s.has (Ew n (t.get 1) (t.get 2) s.yd).2)else
   ((IL n (t.get 1) (t.get 3) s.kept s.has (.int ((n:Int)-1))).1,s.JI (IL n (t.get 1) (t.get 3) s.kept s.has (.int ((n:Int)-1))).2.1 (IL n (t.get 1) (t.get 3) s.kept s.has (.int ((n:Int)-1))).2.2 (Ew n (t.get 1) (t.get 2) s.yd).2)
theorem q54 (hn:n<4611686018427387904):∃j,∀k:KD R,RB N t s.least s.ya (.int s.yc.length) (.int s.yb.length) (.int s.evs.length) (.int n) (.int n) s.kept s.has s.yd (.agg s.yc) (.agg s.yb) (.agg s.evs) .nil s.book k=
  k ((Gc s n t).2.out n (Gc s n t).1 j) [(Gc s n t).2.book]:=by
 refine⟨jL (.int s.has.elems.length) (.int s.yd.elems.length) (.int s.yc.length) (.int s.yb.length) (.int s.evs.length),fun k=>?_⟩;rw[kK];unfold YS Gc;simp only[AG,bb,Ab,eq_self,if_true,has_eq,q5U,Jh,q48,Ae,Af,Hz hn,AF,AH,AJ,AL,AQ,Aa,Ac,Ah,AB];by_cases h1:(PH n (t.get 1) s.has).toInt<(t.get 3).toInt;{simp only[h1,AE,AB];rfl};by_cases h2:(Ew n (t.get 1) (t.get 2) s.yd).1=0;{simp only[h1,h2,AE,ne_eq,not_true];rfl};{simp only[h1,h2,AE,ne_eq,not_false_iff,AB];rfl}
end
structure TxG (t:C):Prop where
 yk:C.wf (.slice 1 (.int .u8)) (t.get 9)
 y0O:Nx (t.get 10)
 no:0<=(t.get 6).toInt/\(t.get 6).toInt<4294967296
 kind:(t.get 0).toInt=1\/(t.get 0).toInt=2
structure GR (s:CS):Prop where
 b:∀b∈s.yc,Tj b
 n:s.yc.length<=16
structure Fr (s s':CS):Prop where
 least:s'.least=s.least
 ya:s'.ya=s.ya
 yb:s'.yb=s.yb
 evs:s'.evs=s.evs
 has:s'.has.elems.length=s.has.elems.length
 yd:s'.yd.elems.length=s.yd.elems.length
theorem Fr.refl (s:CS):Fr s s:=⟨rfl,rfl,rfl,rfl,rfl,rfl⟩
theorem Fr.trans {a b c:CS} (h:Fr a b) (g:Fr b c):Fr a c:=⟨g.least.trans h.least,g.ya.trans h.ya,g.yb.trans h.yb,g.evs.trans h.evs,g.has.trans h.has,g.yd.trans h.yd⟩
theorem uT {s:CS} (h:GR s) (n:Nat) (t:C):GR (Gc s n t).2/\Fr s (Gc s n t).2/\(Gc s n t).2.yc=s.yc/\(Gc s n t).2.book=s.book:=by unfold Gc;split;{exact⟨h,.refl s,rfl,rfl⟩};split;{exact⟨⟨h.b,h.n⟩,⟨rfl,rfl,rfl,rfl,rfl,tY _ _ _ _⟩,rfl,rfl⟩};{exact⟨⟨h.b,h.n⟩,⟨rfl,rfl,rfl,rfl,q49 _ _ _ _ _ _,tY _ _ _ _⟩,rfl,rfl⟩}
structure Act (s s':CS) (e:Int):Prop where
 FK:GR s'
 fr:Fr s s'
 non:s'.yd=s.yd
theorem q43 (id:Int) (hid:W64 id) (who rts:C) (yk:List C) (ht:(rts.get 1).toInt<=8) (hr:C.wf (.slice 1 (.int .u8)) (.slice yk)) (yj:C):∃(e:Int) (b':C),(∀k:KD R,OP N (mkB (.int id) who rts yk zz zz (.int 0) (.int 0) (stZ id)) (.int 0) yj k=k [.int e,b'] [])/\
  (e=0->Tj b'/\True)/\True:=by
 exact⟨_,_,fun k=>q44 (q9c id) (.int 0) yj k,fun _=>⟨trivial,trivial⟩,trivial⟩
def Pos (c:C):Prop:=∀i,0<=(c.get i).toInt
theorem Qb (x:Int):0<=IntKind.u64.wrap x:=by
 have m1:IntKind.u64.min=0:=by decide
 have:=wrap_within ay x;omega
theorem q2g (l:List C) (i j:Nat) (v:C):(l.set i v).getD j .nil=if i=j/\i<l.length then v else l.getD j .nil:=by simp only[List.getD_eq_getElem?_getD,List.getElem?_set];by_cases h:i=j;{subst h;by_cases h2:i<l.length;{simp[h2]};{simp[h2]}};{simp[h]}
theorem Pos.set {c v:C} (h:Pos c) (hv:0<=v.toInt) (i:Nat):Pos (c.set i v):=fun j=>by
 have hj:=h j;cases c with
 |agg l=>
  show 0<=((l.set i v).getD j .nil).toInt;rw[q2g];split;{exact hv};{exact hj}
 |_=>exact hj
theorem q9k (a b:Int):0<=(FP a b).1:=by unfold FP;split;{exact Int.le_refl 0};{exact Qb _}
theorem Pos.Cn {b2 b3:C} (h:Pos b3) (n:Nat) (a x:C):Pos (DN n a x b2 b3).2.2:=by unfold DN;split;{split;{exact h.set (v:=.int _) (q9k _ _) _};{exact h}};{exact h}
theorem Pos.q2m {b2 b3:C} (h:Pos b3) (n:Nat) (a x:C):Pos (Jc n a x b2 b3).2.2:=by unfold Jc;split;{split;{exact h.set (v:=.int _) (Qb _) _};{exact h}};{exact h}
def k6 (s:CS) (_:Nat) (_:C) (s':CS) (_:Int):Prop:=s'.book=s.book/\(Pos s.has->Pos s'.has)
section
variable {s:CS} (hs:GR s) {n:Nat} (hn:n<4611686018427387904) {t:C} (ht:TxG t)
include hs hn ht
theorem q5Q:∃(e:Int) (s':CS) (j:Nat->C),Act s s' e/\(e≠0->s'=s)/\k6 s n t s' e/\∀k:KD R,RA N t s.least s.ya (.int s.yc.length) (.int s.yb.length) (.int s.evs.length) (.int n) (.int n) s.kept s.has s.yd (.agg s.yc) (.agg s.yb) (.agg s.evs) .nil s.book k=
  k (s'.out n e j) [s'.book]:=by
 have same:Act s s 1:=⟨hs,.refl s,rfl⟩
 let JJ:=jL (.int s.has.elems.length) (.int s.yd.elems.length) (.int s.yc.length) (.int s.yb.length) (.int s.evs.length)
 by_cases h1:(16:Int)<=(s.yc.length:Int);{refine⟨4,s,JJ,⟨hs,.refl s,rfl⟩,fun _=>rfl,⟨rfl,id⟩,fun k=>?_⟩;rw[LD];unfold Jw;simp only[AG,bb,Ab,eq_self,AE,Ae,Af,h1,AB];rfl};by_cases h2:(t.get 4).toInt<0\/(n:Int)-1<=(t.get 4).toInt
 ·refine⟨1,s,JJ,⟨hs,.refl s,rfl⟩,fun _=>rfl,⟨rfl,id⟩,fun k=>?_⟩;rw[LD];unfold Jw;by_cases h3:(t.get 4).toInt<0;{simp only[AR,AG,bb,Ab,eq_self,AE,Ae,Af,h1,h3,AX,AF,AH,AJ,AL,AQ,Aa,Ac,Ah,Ai,Aj,Ak,Al,Ao,Ap,Aq,Ar,Au,Av,Aw,Ax,Ay,AB];rfl}
  ·have h4:(n:Int)-1<=(t.get 4).toInt:=by omega
   simp only[AR,AG,bb,Ab,eq_self,AE,Ae,Af,Jh,Hz hn,h1,h3,h4,AX,AF,AH,AJ,AL,AQ,Aa,Ac,Ah,Ai,Aj,Ak,Al,Ao,Ap,Aq,Ar,Au,Av,Aw,Ax,Ay,AB];rfl
 have h3:¬(t.get 4).toInt<0:=fun h=>h2 (.inl h);have h4:¬(n:Int)-1<=(t.get 4).toInt:=fun h=>h2 (.inr h);obtain⟨rl,hrl⟩:∃rl,t.get 9= .slice rl:=⟨_,ht.yk.1⟩;have hr:=hrl ▸ ht.yk;have hid:W64 (IntKind.u32.wrap (s.yc.length:Int)):=by
  have m1:IntKind.u32.min=0:=by decide
  have m2:IntKind.u32.max=4294967295:=by decide
  have:=wrap_within IntKind.u32 (s.yc.length:Int);exact⟨by omega,by omega⟩
 obtain⟨e1,b1,yo,z84,hnok⟩:=q5h (R:=R) (N:=N) (IntKind.u32.wrap (s.yc.length:Int)) hid (cn (cn (AI (ca 2 (bm ba))) 0 (bj t 1)) 1 (bj t 4)) (t.get 8) rl hr;have hlen:(s.yc.length+1)*240<=140737488355328/\s.yc.length+1<=9223372036854775807:=by have:=hs.n;omega
 have grow:∀(s':CS) (b:C),GR s'->Tj b->s'.yc.length<=15->GR {s' with yc:=s'.yc++[b]}:=fun s' b g hb h=>⟨fun x hx=>by
  rcases List.mem_append.1 hx with h|h;{exact g.b x h}
  ·rw[fj.1 h];exact hb,by show(s'.yc++[b]).length<=16;simp;omega⟩
 by_cases h5:e1=0
 case neg=>
  refine⟨e1,s,JJ,⟨hs,.refl s,rfl⟩,fun _=>rfl,⟨rfl,id⟩,fun k=>?_⟩;rw[LD];unfold Jw;simp only[AR,AG,bb,Ab,eq_self,AE,Ae,Af,Jh,Hz hn,h1,h3,h4,hrl,yo,h5,AX,AF,AH,AJ,AL,AQ,Aa,Ac,Ah,Ai,Aj,Ak,Al,Ao,Ap,Aq,Ar,Au,Av,Aw,Ax,Ay,AB];rfl
 subst h5;obtain⟨z9t,hb1,y0k⟩:=z84 rfl;by_cases h6:0<(t.get 5).toInt
 case neg=>
  refine⟨0,{s with yc:=s.yc++[b1]},JJ,⟨grow s b1 hs hb1 (by omega),⟨rfl,rfl,rfl,rfl,rfl,rfl⟩,rfl⟩,fun h=>absurd rfl h,⟨rfl,id⟩,fun k=>?_⟩;rw[LD];unfold Jw;simp only[AR,AG,bb,Ab,eq_self,AE,Ae,Af,Jh,Hz hn,h1,h3,h4,h6,hrl,yo,hlen,and_self,dh,br,cg,cr,bf,AX,AF,AH,AJ,AL,AQ,Aa,Ac,Ah,Ai,Aj,Ak,Al,Ao,Ap,Aq,Ar,Au,Av,Aw,Ax,Ay,AB];simp[CS.out,JJ,jL]
 obtain⟨e2,b2,z8F,z90,hmok⟩:=q43 (R:=R) (N:=N) (IntKind.u32.wrap (s.yc.length:Int)) hid (cn (cn (AI (ca 2 (bm ba))) 0 (bj t 1)) 1 (bj t 4)) (t.get 8) rl y0k hr (t.get 5);rw[<-z9t]at z8F;by_cases h7:e2=0
 case neg=>
  refine⟨e2,s,JJ,⟨hs,.refl s,rfl⟩,fun _=>rfl,⟨rfl,id⟩,fun k=>?_⟩;rw[LD];unfold Jw;simp only[AR,AG,bb,Ab,eq_self,AE,Ae,Af,Jh,Hz hn,h1,h3,h4,h6,h7,hrl,yo,z8F,AX,AF,AH,AJ,AL,AQ,Aa,Ac,Ah,Ai,Aj,Ak,Al,Ao,Ap,Aq,Ar,Au,Av,Aw,Ax,Ay,AB];rfl
 subst h7;obtain⟨hb2,_⟩:=z90 rfl;by_cases h8:(DN n (t.get 1) (t.get 5) s.kept s.has).1=0
 case neg=>
  refine⟨(DN n (t.get 1) (t.get 5) s.kept s.has).1,s,JJ,⟨hs,.refl s,rfl⟩,fun _=>rfl,⟨rfl,id⟩,fun k=>?_⟩;rw[LD];unfold Jw;simp only[AR,AG,bb,Ab,eq_self,AE,Ae,Af,Jh,Zd,Zc n (t.get 1) (t.get 5) s.kept s.has h8,Hz hn,h1,h3,h4,h6,h8,hrl,yo,z8F,AX,AF,AH,AJ,AL,AQ,Aa,Ac,Ah,Ai,Aj,Ak,Al,Ao,Ap,Aq,Ar,Au,Av,Aw,Ax,Ay,AB];rfl
 refine⟨0,{(s.JI (DN n (t.get 1) (t.get 5) s.kept s.has).2.1 (DN n (t.get 1) (t.get 5) s.kept s.has).2.2 s.yd)with yc:=s.yc++[b2]},JJ,⟨grow (s.JI _ _ _) b2 ⟨hs.b,hs.n⟩ hb2 (by show s.yc.length<=15;omega),⟨rfl,rfl,rfl,rfl,pL _ _ _ _ _,rfl⟩,rfl⟩,fun h=>absurd rfl h,⟨rfl,fun h=>h.Cn n (t.get 1) (t.get 5)⟩,fun k=>?_⟩;rw[LD];unfold Jw;simp only[AR,AG,bb,Ab,eq_self,AE,Ae,Af,Jh,Zd,Hz hn,h1,h3,h4,h6,h8,hrl,yo,z8F,hlen,and_self,dh,br,cg,cr,bf,AX,AF,AH,AJ,AL,AQ,Aa,Ac,Ah,Ai,Aj,Ak,Al,Ao,Ap,Aq,Ar,Au,Av,Aw,Ax,Az,BA,BB,BC,Ay,AB];simp[CS.out,CS.JI,JJ,jL]
end
end
section
variable {R:Type} {N:Nat}
def jN (j:Nat->C) (i:Nat):C:=.int ((j i).toInt.toNat:Nat)
def JH (h:Int) (t:C) (l:List Ent):List Ent:=if(t.get 0).toInt=1 then(Jo l (t.get 7) h).2 else l
structure gU (s:CS) (n:Nat) (t:C) (s':CS) (e:Int):Prop where
 act:Act s s' e
 pos:Pos s.has->Pos s'.has
 book:∀l:List Ent,s.book=l.map Cm->FT 32 (t.get 7)->s.ya= .int s.ya.toInt->s'.book=(JH s.ya.toInt t l).map Cm
theorem q1O {x y:Ent} (h:Cm x=Cm y):x=y:=by obtain⟨a,b,c⟩:=x;obtain⟨a',b',c'⟩:=y;simp only[Cm,Prod.mk.injEq,C.agg.injEq,nf,C.int.injEq,and_true]at h;obtain⟨rfl,rfl,rfl⟩:=h;rfl
theorem q4g {l m:List Ent} (h:l.map Cm=m.map Cm):l=m:=by
 induction l generalizing m with
 |nil=>cases m <;> first|rfl|cases h
 |cons x l ih=>
  cases m with
  |nil=>cases h
  |cons y m=>
   simp only[List.map_cons,nf]at h;rw[q1O h.1,ih h.2]
section
variable {s:CS} (hs:GR s) {n:Nat} (hn:n<4611686018427387904) {t:C} (ht:TxG t) (hN:2199023255552<N) (hN2:N<4611686018427387904)
include hs hn ht hN hN2
theorem j3:∃(e:Int) (s':CS) (j:Nat->C),gU s n t s' e/\∀k:KD R,Qy N t s.least s.ya (.int s.yc.length) (.int s.yb.length) (.int s.evs.length) (.int n) (.int n) s.kept s.has s.yd (.agg s.yc) (.agg s.yb) (.agg s.evs) .nil s.book k=
  k (s'.out n e j) [s'.book]:=by
 let JJ:=jL (.int s.has.elems.length) (.int s.yd.elems.length) (.int s.yc.length) (.int s.yb.length) (.int s.evs.length)
 have h0:¬(t.get 0).toInt=0:=by have:=ht.kind;omega
 by_cases h1:(t.get 0).toInt=1
 ·obtain⟨e,m',ht1,hbk⟩:∃(e:Int) (m':Es),(∀k:KD R,NR N (t.get 7) s.ya .nil .nil s.book k=k [.int e] [m'])/\∀l:List Ent,s.book=l.map Cm->FT 32 (t.get 7)->s.ya= .int s.ya.toInt->m'=(JH s.ya.toInt t l).map Cm:=by by_cases g:∃l:List Ent,s.book=l.map Cm/\FT 32 (t.get 7)/\s.ya= .int s.ya.toInt;{obtain⟨l,g1,g2,g3⟩:=g;refine⟨_,_,fun k=>by rw[g1];exact q9D (t.get 7) g2 s.ya .nil .nil g3 l (by omega) hN2 k,fun l' h1' _ _=>?_⟩;have:l'=l:=q4g (h1'.symm.trans g1);subst this;unfold JH;rw[if_pos h1]};{obtain⟨e,m',ht1,hm⟩:=q9A (R:=R) (N:=N) (t.get 7) s.ya .nil .nil s.book (by omega) hN2;exact⟨e,m',ht1,fun l h1 h2 h3=>absurd ⟨l,h1,h2,h3⟩ g⟩}
  refine⟨e,{s with book:=m'},JJ,⟨⟨⟨hs.b,hs.n⟩,⟨rfl,rfl,rfl,rfl,rfl,rfl⟩,rfl⟩,id,hbk⟩,fun k=>?_⟩;rw[YQ];unfold UQ;simp only[AR,AG,AX,BG,bb,Ab,eq_self,AE,Ae,Af,and_self,bf,Ay,AF,AH,AJ,AL,AQ,Aa,Ac,Ah,Ai,Aj,Ak,Al,Ao,Ap,Aq,Ar,Au,Av,Aw,Ax,Az,BA,BB,BC,BD,BF,h1,ht1,show ¬(1:Int)=0 by decide,AB];rfl
 by_cases h2:(t.get 0).toInt=2;{obtain⟨e,s',j,g1,g2,gx,g3⟩:=q5Q (R:=R) (N:=N) hs hn ht;refine⟨e,s',jN j,⟨g1,gx.2,fun l hl _ _=>?_⟩,fun k=>?_⟩;{unfold JH;rw[if_neg h1,<-hl];exact gx.1};rw[YQ];unfold UQ;simp only[AR,AG,AX,BG,bb,Ab,eq_self,AE,Ae,Af,and_self,bf,Ay,AF,AH,AJ,AL,AQ,Aa,Ac,Ah,Ai,Aj,Ak,Al,Ao,Ap,Aq,Ar,Au,Av,Aw,Ax,Az,BA,BB,BC,BD,BF,h2,g3,show ¬(2:Int)=0 by decide,show ¬(2:Int)=1 by decide,AB];simp only[CS.out,AG,bb,Ay,AF,AH,AJ,AL,AQ,Aa,Ac,Ah,Ai,Aj,Ak,Al,Ao,Ap,Aq,Ar,Au,Av,Aw,Ax,Az,BA,BB,BC,BD,BF,AB];rfl};exact absurd ht.kind (by omega)
end
end
def YY (a0:C) (k1:KD R):Option R:=Pm N (bj a0 0) (fun J m1=>(bif df (au (ax (bj (bj (bj (cn a0 0 (U J 0)) 1) (av 0)) 2))) (au (ax (bj (bj (bj (cn a0 0 (U J 0)) 1) (av 0)) 2)))then(bif df (au (ax (bj (bj (bj (cn a0 0 (U J 0)) 1) 1) 2))) (au (ax (bj (bj (bj (cn a0 0 (U J 0)) 1) 1) 2)))then(k1 [dc [bj (cn a0 0 (U J 0)) 0,dc [dc [bj (bj (bj (cn a0 0 (U J 0)) 1) (av 0)) 0,bj (bj (bj (cn a0 0 (U J 0)) 1) (av 0)) 1,bw (ax (bj (bj (bj (cn a0 0 (U J 0)) 1) (av 0)) 2))],dc [bj (bj (bj (cn a0 0 (U J 0)) 1) 1) 0,bj (bj (bj (cn a0 0 (U J 0)) 1) 1) 1,bw (ax (bj (bj (bj (cn a0 0 (U J 0)) 1) 1) 2))]]]] [])else none)else none))
def RH:=lid "" (@YY R N)
theorem kV {R N a0 k}:@RH R N a0 k=YY N a0 k:=by unfold RH;rw[BQ]
def q0D:OvG R:=Bq [EV] (EK (RH N)) (DM EV)
theorem q0E:okX 44 (@q0D R N):=CV (BJ (uM N) <| BJ (W6 N) <| BT) N [] [(44,[([9],⟨[],[(2,.as (.ptr (.l 2) [] EV))],[],[(.l 2,.box (.d EV))],[],[]⟩)])] (fun _ _=>kV)
def q0a:List Sh:=[.as (.ptr (.g (.l 1)) [] Ba),.d tTx]
def q0c:List (Key × OSh):=[(.l 1,.box (.agg Ba [.as (.ptr (.g (.l 2)) [] BN),.as (.ptr (.g (.l 5)) [] Bz),.d (.int .u64),.d (.int .u64),.vec (.g (.l 7)) 240 AV,.vec (.g (.l 8)) 2368 tTx,.vec (.g (.l 9)) 40 AW])),(.l 2,.box (.agg BN [.vec (.g (.l 3)) 8 (.int .u64),.vec (.g (.l 4)) 8 (.int .u64),.d (.int .u64)])),(.l 3,.box (.arr (.int .u64))),(.l 4,.box (.arr (.int .u64))),(.l 5,.box (.agg Bz [.as (.mp (.g (.l 6)))])),(.l 6,.map (.arr 32 (.int .u8)) AP),(.l 7,.box (.arr AV)),(.l 8,.box (.arr tTx)),(.l 9,.box (.arr AW))]
def YO (a0 b0 b1 b2 b3 b4 b5 b6 b7 b8 b9 b10 b11 b12 b13:C) (m0:Es) (k1:KD R):Option R:=bif decide (64<=(↑(av (aq b3)):Int))then(gA b8 (gA b9 (gM AP m0 (gA b10 (gA b11 (gA b12 (k1 [bc 4,b0,b1,nI b2,nI b3,nI b4,nI b5,nI b6,b7,bc (↑(au (ax b8)):Int),b8,bc (↑(au (ax b9)):Int),b9,bc (↑(au (ax b10)):Int),b10,bc (↑(au (ax b11)):Int),b11,bc (↑(au (ax b12)):Int),b12] [unE (dE AP m0)])))))))else(jn (fun J m1=>(bif dg (U J 0)then(gA (U J 10) (gA (U J 12) (gM AP (dm m1 0) (gA (U J 14) (gA (U J 16) (gA (U J 18) (k1 [bc 1,U J 1,U J 2,nI (U J 3),nI (U J 4),nI (U J 5),nI (U J 6),nI (U J 7),U J 8,nI (U J 9),U J 10,nI (U J 11),U J 12,nI (U J 13),U J 14,nI (U J 15),U J 16,nI (U J 17),U J 18] [unE (dE AP (dm m1 0))])))))))else(bif decide (aq (bj (U J 19) 3)<aq (U J 1))then(gA (U J 10) (gA (U J 12) (gM AP (dm m1 0) (gA (U J 14) (gA (U J 16) (gA (U J 18) (k1 [bc 23,U J 1,U J 2,nI (U J 3),nI (U J 4),nI (U J 5),nI (U J 6),nI (U J 7),U J 8,nI (U J 9),U J 10,nI (U J 11),U J 12,nI (U J 13),U J 14,nI (U J 15),U J 16,nI (U J 17),U J 18] [unE (dE AP (dm m1 0))])))))))else(RH N (bj (U J 19) 10) (fun I m2=>(gN (au (ax (bj (U J 19) 9))) (gL (av (aq (U J 4))) 2368 (gA (U J 10) (gA (U J 12) (gM AP (dm m1 0) (gA (U J 14) (if av (aq (U J 4))+1=au (eu (av (aq (U J 4))) (ax (U J 16))++[dc [bj (U J 19) 0,bj (U J 19) 1,bj (U J 19) 2,bj (U J 19) 3,bj (U J 19) 4,bj (U J 19) 5,bj (U J 19) 6,bj (U J 19) 7,bj (U J 19) 8,bw (ax (bj (U J 19) 9)),U I 0]])then(gA (U J 18) (k1 [bc 0,U J 1,U J 2,nI (U J 3),bc (↑(av (aq (U J 4))+1):Int),nI (U J 5),nI (U J 6),nI (U J 7),U J 8,nI (U J 9),U J 10,nI (U J 11),U J 12,nI (U J 13),U J 14,nI (U J 15),dc (eu (av (aq (U J 4))) (ax (U J 16))++[dc [bj (U J 19) 0,bj (U J 19) 1,bj (U J 19) 2,bj (U J 19) 3,bj (U J 19) 4,bj (U J 19) 5,bj (U J 19) 6,bj (U J 19) 7,bj (U J 19) 8,bw (ax (bj (U J 19) 9)),U I 0]]),nI (U J 17),U J 18] [unE (dE AP (dm m1 0))]))else none)))))))))))) (fun k2=>(bif decide (aq (bj a0 1)<0)then(gA b8 (gA b9 (gM AP m0 (gA b10 (gA b11 (gA b12 (k2 [de true,b0,b1,nI b2,nI b3,nI b4,nI b5,nI b6,b7,bc (↑(au (ax b8)):Int),b8,bc (↑(au (ax b9)):Int),b9,bc (↑(au (ax b10)):Int),b10,bc (↑(au (ax b11)):Int),b11,bc (↑(au (ax b12)):Int),b12,a0] [unE (dE AP m0)])))))))else(gA b8 (gA b9 (Nl N (nI b5) (nI b6) b7 b8 b9 (fun J m1=>(gA b8 (gA b9 (gM AP m0 (gA b10 (gA b11 (gA b12 (k2 [de (decide (ar ba (aq (U J 0)-1)<=aq (bj a0 1))),b0,b1,nI b2,nI b3,nI b4,nI b5,nI b6,b7,bc (↑(au (ax b8)):Int),b8,bc (↑(au (ax b9)):Int),b9,bc (↑(au (ax b10)):Int),b10,bc (↑(au (ax b11)):Int),b11,bc (↑(au (ax b12)):Int),b12,a0] [unE (dE AP m0)]))))))))))))))
def Jv:=lid "" (@YO R N)
theorem kH {R N a0 b0 b1 b2 b3 b4 b5 b6 b7 b8 b9 b10 b11 b12 b13 m0 k}:@Jv R N a0 b0 b1 b2 b3 b4 b5 b6 b7 b8 b9 b10 b11 b12 b13 m0 k=YO N a0 b0 b1 b2 b3 b4 b5 b6 b7 b8 b9 b10 b11 b12 b13 m0 k:=by unfold Jv;rw[BQ]
def kG:OvG R:=Cu q0a q0c (fun ds ms=>Jv N (U ds 0) (U ds 1) (U ds 2) (U ds 3) (U ds 4) (U ds 5) (U ds 6) (U ds 7) (U ds 8) (U ds 9) (U ds 10) (U ds 11) (U ds 12) (U ds 13) (U ds 14) (dm ms 0)) fun ds ms K J m1=>K (V.d (bm ba) (U J 0)) [(dp (ch 1),
  dy
   (mf Ba
    [xh (dp (ch 2)) [] BN,xh (dp (ch 5)) [] Bz,V.d (bm ay) (U J 1),
     V.d (bm ay) (U J 2),
     oq (ch 1000000000234) [] 0 (av (aq (U J 3))) none 240 AV,
     oq (ch 1000000000266) [] 0 (av (aq (U J 4))) none 2368 tTx,
     oq (ch 1000000000298) [] 0 (av (aq (U J 5))) none 40 AW])),
 (dp (ch 2),
  dy
   (mf BN
    [oq (ch 1000000000106) [] 0 (av (aq (U J 6))) none 8 (bm ay),
     oq (ch 1000000000138) [] 0 (av (aq (U J 7))) none 8 (bm ay),
     V.d (bm ay) (U J 8)])),
 (dp (ch 3),fk (ca (av (aq (U J 9))) (bm ay))),
 (ch 1000000000106,dy (V.d (ca (au (ax (U J 10))) (bm ay)) (U J 10))),
 (dp (ch 4),fk (ca (av (aq (U J 11))) (bm ay))),
 (ch 1000000000138,dy (V.d (ca (au (ax (U J 12))) (bm ay)) (U J 12))),
 (dp (ch 5),dy (mf Bz [V.mp (dp (ch 6))])),
 (dp (ch 6),O.map (ca 32 (bm cq)) AP (dE AP (dm m1 0))),
 (dp (ch 7),fk (ca (av (aq (U J 13))) AV)),
 (ch 1000000000234,dy (V.d (ca (au (ax (U J 14))) AV) (U J 14))),
 (dp (ch 8),fk (ca (av (aq (U J 15))) tTx)),
 (ch 1000000000266,dy (V.d (ca (au (ax (U J 16))) tTx) (U J 16))),
 (dp (ch 9),fk (ca (av (aq (U J 17))) AW)),
 (ch 1000000000298,dy (V.d (ca (au (ax (U J 18))) AW) (U J 18)))]
theorem q0b:okX 25 (@kG R N):=Cv (BJ (fP N) <| BJ (YD N) <| BJ (q0E N) <| BT) N [(25,[(9,[(43,7)]),(10,[(3,6)])])] [(25,[([0,3,1,3,1,4,0,1],⟨[0,3],[(15,.d .bool)],[.g (.l 1),.g (.l 2),.g (.l 3),.g (.l 4),.g (.l 5),.g (.l 6),.g (.l 7),.g (.l 8),.g (.l 9)],[],[],[(.int .u64),AV,tTx,AW]⟩),
  ([9],⟨[],[(4,.d (.int .i64))],[.g (.l 1),.g (.l 2),.g (.l 3),.g (.l 4),.g (.l 5),.g (.l 6),.g (.l 7),.g (.l 8),.g (.l 9)],[],[],[(.int .u64),AV,tTx,AW]⟩)])] (fun _ _ _=>kH)
section
variable {R:Type} {N:Nat}
def evR (s:CS) (t:C) (e:Int):C:=cn (cn (cn (cn (cn (dc [.int 0,.int 0,.int 0,.int 0,.int 0]) 0 s.ya) 1 (t.get 0)) 2 (t.get 1)) 3 (t.get 6)) 4 (.int e)
def CS.ev (s:CS) (t:C) (e:Int):CS:={s with evs:=s.evs++[evR s t e]}
def DoR (s:CS) (n:Nat) (t:C) (s1:CS) (e:Int):Prop:=((Gc s n t).1≠0/\e=(Gc s n t).1/\s1=(Gc s n t).2)\/((Gc s n t).1=0/\gU (Gc s n t).2 n t s1 e)
theorem DoR.FK {s s1:CS} {n:Nat} {t:C} {e:Int} (hs:GR s) (h:DoR s n t s1 e):GR s1/\Fr s s1:=by have hp:=uT hs n t;rcases h with⟨_,_,rfl⟩|⟨_,h⟩;{exact⟨hp.1,hp.2.1⟩};{exact⟨h.act.FK,hp.2.1.trans h.act.fr⟩}
section
variable {s:CS} (hs:GR s) {n:Nat} (hn:n<4611686018427387904) {t:C} (ht:TxG t) (hN:2199023255552<N) (hN2:N<4611686018427387904)
include hs hn ht hN hN2
theorem q05 (he:s.evs.length<1024):∃(e:Int) (s1:CS) (j:Nat->C),DoR s n t s1 e/\∀k:KD R,Qz N t s.least s.ya (.int s.yc.length) (.int s.yb.length) (.int s.evs.length) (.int n) (.int n) s.kept s.has s.yd (.agg s.yc) (.agg s.yb) (.agg s.evs) .nil s.book k=
  k ((s1.ev t e).out n e j) [(s1.ev t e).book]:=by
 obtain⟨j,z91⟩:=q54 (R:=R) (N:=N) s n t hn;obtain⟨pg,pf,_,_⟩:=uT hs n t;generalize hp:Gc s n t=p at*;have fin:∀(s1:CS),s1.evs=s.evs->((s1.evs.length+1)*40<=140737488355328/\s1.evs.length+1<=9223372036854775807)/\¬(0:Int)<IntKind.i64.wrap (((s1.evs.length+1:Nat):Int)-1024):=fun s1 h=>by rw[h,wrap_i64 (by omega) (by omega)];omega
 by_cases h0:p.1=0
 case neg=>
  obtain⟨f1,f2⟩:=fin p.2 pf.evs;refine⟨p.1,p.2,jN j,.inl (by rw[hp];exact⟨h0,rfl,rfl⟩),fun k=>?_⟩;rw[YR];unfold UR;simp only[AR,AG,AX,BG,bb,Ab,eq_self,AE,Ae,Af,and_self,bf,Ay,dh,br,cg,cr,AF,AH,AJ,AL,AQ,Aa,Ac,Ah,Ai,Aj,Ak,Al,Ao,Ap,Aq,Ar,Au,Av,Aw,Ax,Az,BA,BB,BC,BD,BF,z91,AB];simp only[CS.out,AR,AG,AX,BG,bb,Ab,eq_self,AE,Ae,Af,and_self,bf,Ay,dh,br,cg,cr,AF,AH,AJ,AL,AQ,Aa,Ac,Ah,Ai,Aj,Ak,Al,Ao,Ap,Aq,Ar,Au,Av,Aw,Ax,Az,BA,BB,BC,BD,BF,h0,f1,f2,AB];simp only[CS.ev,evR,jN,br,cg,cr,bf]
 obtain⟨e,s1,j1,ha,y0P⟩:=j3 (R:=R) (N:=N) pg hn ht hN hN2;obtain⟨f1,f2⟩:=fin s1 (ha.act.fr.evs.trans pf.evs);refine⟨e,s1,jN j,.inr (by rw[hp];exact⟨h0,ha⟩),fun k=>?_⟩;rw[YR];unfold UR;simp only[AR,AG,AX,BG,bb,Ab,eq_self,AE,Ae,Af,and_self,bf,Ay,dh,br,cg,cr,AF,AH,AJ,AL,AQ,Aa,Ac,Ah,Ai,Aj,Ak,Al,Ao,Ap,Aq,Ar,Au,Av,Aw,Ax,Az,BA,BB,BC,BD,BF,z91,AB];simp only[CS.out,AR,AG,AX,BG,bb,Ab,eq_self,AE,Ae,Af,and_self,bf,Ay,dh,br,cg,cr,AF,AH,AJ,AL,AQ,Aa,Ac,Ah,Ai,Aj,Ak,Al,Ao,Ap,Aq,Ar,Au,Av,Aw,Ax,Az,BA,BB,BC,BD,BF,h0,y0P,AB];simp only[CS.out,AR,AG,AX,BG,bb,Ab,eq_self,AE,Ae,Af,and_self,bf,Ay,dh,br,cg,cr,AF,AH,AJ,AL,AQ,Aa,Ac,Ah,Ai,Aj,Ak,Al,Ao,Ap,Aq,Ar,Au,Av,Aw,Ax,Az,BA,BB,BC,BD,BF,f1,f2,AB];simp only[CS.ev,evR,jN,br,cg,cr,bf]
end
theorem q99 {d:C} (hd:Nx d):∃d':C,Nx d'/\d'.get 0=d.get 0/\∀k:KD R,RH N d k=k [d'] []:=by obtain⟨s,x,y,rfl,hs⟩:=hd;refine⟨.agg [s,.agg [.agg [x.get 0,x.get 1,.slice (x.get 2).elems],.agg [y.get 0,y.get 1,.slice (y.get 2).elems]]],⟨s,_,_,rfl,hs⟩,rfl,fun k=>?_⟩;have t0:av 0=0:=rfl;have t1:av 1=1:=rfl;rw[kV];unfold YY;simp only[Iu,LP,IZ,t0,t1,uL hs.e.eta,AF,bh,cond_true]
def XC (t d:C):C:=.agg [t.get 0,t.get 1,t.get 2,t.get 3,t.get 4,t.get 5,t.get 6,t.get 7,t.get 8,.slice (t.get 9).elems,d]
def TT (s:CS) (n:Nat) (t:C):Int:=if 64<=s.yb.length then 4 else if(t.get 1).toInt<0\/(n:Int)-1<=(t.get 1).toInt then 1 else if(t.get 3).toInt<s.least.toInt then 23 else 0
section
variable (s:CS) {n:Nat} (hn:n<4611686018427387904) {t:C} (ht:TxG t)
include hn ht
theorem q9m:∃(d:C) (j:Nat->C),Nx d/\d.get 0=(t.get 10).get 0/\∀k:KD R,Jv N t s.least s.ya (.int s.yc.length) (.int s.yb.length) (.int s.evs.length) (.int n) (.int n) s.kept s.has s.yd (.agg s.yc) (.agg s.yb) (.agg s.evs) .nil s.book k=
  k ((if TT s n t=0 then{s with yb:=s.yb++[XC t d]} else s).out n (TT s n t) j) [s.book]:=by
 let JJ:=jL (.int s.has.elems.length) (.int s.yd.elems.length) (.int s.yc.length) (.int s.yb.length) (.int s.evs.length)
 obtain⟨d,hd,hd0,htw⟩:=q99 (R:=R) (N:=N) ht.y0O;refine⟨d,JJ,hd,hd0,fun k=>?_⟩;rw[kH];unfold YO TT;by_cases h1:64<=s.yb.length
 ·have h1':(64:Int)<=(s.yb.length:Int):=by omega
  simp only[AR,AG,AX,BG,bb,Ab,eq_self,AE,Ae,Af,and_self,bf,Ay,dh,br,cg,cr,AF,AH,AJ,AL,AQ,Aa,Ac,Ah,Ai,Aj,Ak,Al,Ao,Ap,Aq,Ar,Au,Av,Aw,Ax,Az,BA,BB,BC,BD,BF,h1,h1',show ¬(4:Int)=0 by decide,AB];rfl
 have h1':¬(64:Int)<=(s.yb.length:Int):=by omega
 by_cases h2:(t.get 1).toInt<0;{have h3:(t.get 1).toInt<0\/(n:Int)-1<=(t.get 1).toInt:=.inl h2;simp only[AR,AG,AX,BG,bb,Ab,eq_self,AE,Ae,Af,and_self,bf,Ay,dh,br,cg,cr,AF,AH,AJ,AL,AQ,Aa,Ac,Ah,Ai,Aj,Ak,Al,Ao,Ap,Aq,Ar,Au,Av,Aw,Ax,Az,BA,BB,BC,BD,BF,h1,h1',h2,h3,show ¬(1:Int)=0 by decide,AB];rfl};by_cases h3:(n:Int)-1<=(t.get 1).toInt;{have h4:(t.get 1).toInt<0\/(n:Int)-1<=(t.get 1).toInt:=.inr h3;simp only[AR,AG,AX,BG,bb,Ab,eq_self,AE,Ae,Af,and_self,bf,Ay,dh,br,cg,cr,AF,AH,AJ,AL,AQ,Aa,Ac,Ah,Ai,Aj,Ak,Al,Ao,Ap,Aq,Ar,Au,Av,Aw,Ax,Az,BA,BB,BC,BD,BF,Jh,Hz hn,h1,h1',h2,h3,h4,show ¬(1:Int)=0 by decide,AB];rfl};have h4:¬((t.get 1).toInt<0\/(n:Int)-1<=(t.get 1).toInt):=by omega
 by_cases h5:(t.get 3).toInt<s.least.toInt;{simp only[AR,AG,AX,BG,bb,Ab,eq_self,AE,Ae,Af,and_self,bf,Ay,dh,br,cg,cr,AF,AH,AJ,AL,AQ,Aa,Ac,Ah,Ai,Aj,Ak,Al,Ao,Ap,Aq,Ar,Au,Av,Aw,Ax,Az,BA,BB,BC,BD,BF,Jh,Hz hn,h1,h1',h2,h3,h4,h5,show ¬(23:Int)=0 by decide,AB];rfl};have hlen:(s.yb.length+1)*2368<=140737488355328/\s.yb.length+1<=9223372036854775807:=by omega
 simp only[AR,AG,AX,BG,bb,Ab,eq_self,AE,Ae,Af,and_self,bf,Ay,dh,br,cg,cr,AF,AH,AJ,AL,AQ,Aa,Ac,Ah,Ai,Aj,Ak,Al,Ao,Ap,Aq,Ar,Au,Av,Aw,Ax,Az,BA,BB,BC,BD,BF,Jh,Hz hn,h1,h1',h2,h3,h4,h5,or_self,htw,hlen,bh,AB];simp only[CS.out,XC,JJ,jL,br,cg,cr,bf]
end
end
def eZ (a0 a1:C) (k1:KD R):Option R:=TP N a0 a1 (fun J m1=>(k1 [de (decide (0<=aq (U J 0)))] []))
def QT:=lid "" (@eZ R N)
theorem yM {R N a0 a1 k}:@QT R N a0 a1 k=eZ N a0 a1 k:=by unfold QT;rw[BQ]
def q81:OvG R:=Bq [.slice 8 (.int .i64),.int .i64] (FH (QT N)) JX
theorem q82:okX 46 (@q81 R N):=CV (BJ (q84 N) <| BT) N [] [(46,[([9],(Ct [(4,.d .bool)]))])] (fun _ _=>yM)
def F7:List Sh:=[.as (.ptr (.g (.l 1)) [] Ba),.d (.slice 8 (.int .i64))]
def F9:List (Key × OSh):=[(.l 1,.box (.agg Ba [.as (.ptr (.g (.l 2)) [] BN),.as (.ptr (.g (.l 5)) [] Bz),.d (.int .u64),.d (.int .u64),.vec (.g (.l 7)) 240 AV,.vec (.g (.l 8)) 2368 tTx,.vec (.g (.l 9)) 40 AW])),(.l 2,.box (.agg BN [.vec (.g (.l 3)) 8 (.int .u64),.vec (.g (.l 4)) 8 (.int .u64),.d (.int .u64)])),(.l 3,.box (.arr (.int .u64))),(.l 4,.box (.arr (.int .u64))),(.l 5,.box (.agg Bz [.as (.mp (.g (.l 6)))])),(.l 6,.map (.arr 32 (.int .u8)) AP),(.l 7,.box (.arr AV)),(.l 8,.box (.arr tTx)),(.l 9,.box (.arr AW))]
def Qv (a0:C) (b0:C) (b1:C) (b2:C) (b3:C) (b4:C) (b5:C) (b6:C) (b7:C) (b8:C) (b9:C) (b10:C) (b11:C) (b12:C) (b13:C) (m0:Es) (k2:KD R):KD R->KD R:=fun k3 d3 m3=>(bif decide (aq (U d3 5)<aq (U d3 2))then(gB (aq (U d3 5)) ((↑(av (aq (U d3 1))):Int)) (QT N (U d3 0) (U d3 5) (fun d4 m4=>(jn (fun d5 m5=>(gN (au (ax (U d5 4))) (gA (U d5 14) (gA (U d5 15) (gM AP (dm m5 0) (gA (U d5 16) (gA (U d5 17) (gA (U d5 18) (gA (U d5 39) (k3 [U d5 0,nI (U d5 1),U d5 2,bw (ax (U d5 4)),nI (U d5 5),bc (ar ba (aq (U d5 3)+1)),U d5 6,U d5 7,nI (U d5 8),nI (U d5 9),nI (U d5 10),nI (U d5 11),nI (U d5 12),U d5 13,U d5 14,U d5 15,U d5 16,U d5 17,U d5 18,nI (U d5 19),nI (U d5 20),nI (U d5 21),nI (U d5 22),nI (U d5 23),nI (U d5 19),nI (U d5 20),nI (U d5 21),nI (U d5 22),nI (U d5 23),nI (U d5 19),nI (U d5 20),nI (U d5 21),nI (U d5 22),nI (U d5 23),U d5 39] [unE (dE AP (dm m5 0))])))))))))) (fun k4=>(bif !dg (U d4 0)then(gL (av (aq (U d3 4))) 2368 (gN (au (ax (U d3 3))) (gA (U d3 14) (gA (U d3 15) (gM AP (dm m3 0) (gA (U d3 16) (gA (U d3 17) (gA (U d3 18) (if av (aq (U d3 4))+1=au (eu (av (aq (U d3 4))) (ax (U d3 34))++[bj (U d3 17) (0+av (aq (U d3 5)))])then(k4 [U d3 0,nI (U d3 1),U d3 2,U d3 5,bw (ax (U d3 3)),bc (↑(av (aq (U d3 4))+1):Int),U d3 6,U d3 7,nI (U d3 8),nI (U d3 9),nI (U d3 10),nI (U d3 11),nI (U d3 12),U d3 13,U d3 14,U d3 15,U d3 16,U d3 17,U d3 18,nI (U d3 19),nI (U d3 20),nI (U d3 21),nI (U d3 22),nI (U d3 23),nI (U d3 19),nI (U d3 20),nI (U d3 21),nI (U d3 22),nI (U d3 23),nI (U d3 19),nI (U d3 20),nI (U d3 21),nI (U d3 22),nI (U d3 23),nI (U d3 19),nI (U d3 20),nI (U d3 21),nI (U d3 22),nI (U d3 23),dc (eu (av (aq (U d3 4))) (ax (U d3 34))++[bj (U d3 17) (0+av (aq (U d3 5)))])] [unE (dE AP (dm m3 0))])else none)))))))))else(gN (au (ax (U d3 3))) (gA (U d3 14) (gA (U d3 15) (gM AP (dm m3 0) (gA (U d3 16) (gA (U d3 17) (gA (U d3 18) (gA (U d3 34) (k4 [U d3 0,nI (U d3 1),U d3 2,U d3 5,bw (ax (U d3 3)),nI (U d3 4),U d3 6,U d3 7,nI (U d3 8),nI (U d3 9),nI (U d3 10),nI (U d3 11),nI (U d3 12),U d3 13,U d3 14,U d3 15,U d3 16,U d3 17,U d3 18,nI (U d3 19),nI (U d3 20),nI (U d3 21),nI (U d3 22),nI (U d3 23),nI (U d3 19),nI (U d3 20),nI (U d3 21),nI (U d3 22),nI (U d3 23),nI (U d3 19),nI (U d3 20),nI (U d3 21),nI (U d3 22),nI (U d3 23),nI (U d3 19),nI (U d3 20),nI (U d3 21),nI (U d3 22),nI (U d3 23),U d3 34] [unE (dE AP (dm m3 0))])))))))))))))))else(gN (au (ax (U d3 3))) (gA (U d3 14) (gA (U d3 15) (gM AP (dm m3 0) (gA (U d3 16) (gA (U d3 17) (gA (U d3 18) (gA (U d3 34) (k2 [bw (ax (U d3 3)),nI (U d3 4),U d3 6,U d3 7,nI (U d3 8),nI (U d3 9),nI (U d3 10),nI (U d3 11),nI (U d3 12),U d3 13,U d3 14,U d3 15,U d3 16,U d3 17,U d3 18,nI (U d3 19),nI (U d3 20),nI (U d3 21),nI (U d3 22),nI (U d3 23),nI (U d3 19),nI (U d3 20),nI (U d3 21),nI (U d3 22),nI (U d3 23),nI (U d3 19),nI (U d3 20),nI (U d3 21),nI (U d3 22),nI (U d3 23),U d3 34] [unE (dE AP (dm m3 0))]))))))))))
def Mb (a0:C) (b0:C) (b1:C) (b2:C) (b3:C) (b4:C) (b5:C) (b6:C) (b7:C) (b8:C) (b9:C) (b10:C) (b11:C) (b12:C) (b13:C) (m0:Es) (k2:KD R):KD R->KD R:=fun k3 I m2=>(bif decide (aq (U I 4)<aq (U I 2))then(gB (aq (U I 4)) ((↑(au (ax (U I 1))):Int)) (gB (aq (bt (ax (U I 1)) (av (aq (U I 4))) dj)) ((↑(av (aq (U I 8))):Int)) (gA (U I 13) (gA (U I 14) (gM AP (dm m2 0) (gA (U I 15) (gA (U I 16) (gA (U I 17) (Qz N (bj (U I 16) (0+av (aq (bt (ax (U I 1)) (av (aq (U I 4))) dj)))) (U I 5) (U I 6) (nI (U I 7)) (nI (U I 8)) (nI (U I 9)) (nI (U I 10)) (nI (U I 11)) (U I 12) (U I 13) (U I 14) (U I 15) (U I 16) (U I 17) dj (unE (dE AP (dm m2 0))) (fun d3 m3=>(gN (au (ax (U I 3))) (gL (au (ax (U I 3))) 8 (bif df (au (ax (U I 3))+1) (au (ax (U I 3)++[U d3 0]))then(gA (U d3 10) (gA (U d3 12) (gM AP (dm m3 0) (gA (U d3 14) (gA (U d3 16) (gA (U d3 18) (k3 [U I 0,U I 1,U I 2,bw (ax (U I 3)++[U d3 0]),bc (ar ba (aq (U I 4)+1)),U d3 1,U d3 2,nI (U d3 3),nI (U d3 4),nI (U d3 5),nI (U d3 6),nI (U d3 7),U d3 8,U d3 10,U d3 12,U d3 14,U d3 16,U d3 18,nI (U I 18),nI (U I 19),nI (U I 20),nI (U I 21),nI (U I 22),nI (U I 18),nI (U I 19),nI (U I 20),nI (U I 21),nI (U I 22)] [unE (dE AP (dm m3 0))])))))))else none)))))))))))))else(gN (au (ax (U I 3))) (gA (U I 13) (gA (U I 14) (gM AP (dm m2 0) (gA (U I 15) (gA (U I 16) (gA (U I 17) (k2 [U I 0,bw (ax (U I 3)),U I 5,U I 6,nI (U I 7),nI (U I 8),nI (U I 9),nI (U I 10),nI (U I 11),U I 12,U I 13,U I 14,U I 15,U I 16,U I 17,nI (U I 18),nI (U I 19),nI (U I 20),nI (U I 21),nI (U I 22),nI (U I 18),nI (U I 19),nI (U I 20),nI (U I 21),nI (U I 22)] [unE (dE AP (dm m2 0))])))))))))
def Qw (k1:KD R) (k2:KD R):KD R->KD R:=fun k3 J m1=>(bif decide (aq (U J 3)<aq (U J 2))then(gB (aq (U J 3)) ((↑(au (ax (U J 1))):Int)) (jn (fun I m2=>(bif dg (U I 4)then(gA (U I 13) (gA (U I 14) (gM AP (dm m2 0) (gA (U I 15) (gA (U I 16) (gA (U I 17) (k1 [bw [],bc 1,U I 5,U I 6,nI (U I 7),nI (U I 8),nI (U I 9),nI (U I 10),nI (U I 11),U I 12,nI (U I 18),U I 13,nI (U I 19),U I 14,nI (U I 20),U I 15,nI (U I 21),U I 16,nI (U I 22),U I 17] [unE (dE AP (dm m2 0))])))))))else(gA (U I 13) (gA (U I 14) (gM AP (dm m2 0) (gA (U I 15) (gA (U I 16) (gA (U I 17) (k3 [U I 0,U I 1,U I 2,bc (ar ba (aq (U I 3)+1)),U I 5,U I 6,nI (U I 7),nI (U I 8),nI (U I 9),nI (U I 10),nI (U I 11),U I 12,nI (U I 18),U I 13,nI (U I 19),U I 14,nI (U I 20),U I 15,nI (U I 21),U I 16,nI (U I 22),U I 17] [unE (dE AP (dm m2 0))]))))))))) (fun k4=>(bif decide (aq (bt (ax (U J 1)) (av (aq (U J 3))) dj)<0)then(gA (U J 13) (gA (U J 15) (gM AP (dm m1 0) (gA (U J 17) (gA (U J 19) (gA (U J 21) (k4 [U J 0,U J 1,U J 2,U J 3,de true,U J 4,U J 5,nI (U J 6),nI (U J 7),nI (U J 8),nI (U J 9),nI (U J 10),U J 11,U J 13,U J 15,U J 17,U J 19,U J 21,nI (U J 12),nI (U J 14),nI (U J 16),nI (U J 18),nI (U J 20),nI (U J 12),nI (U J 14),nI (U J 16),nI (U J 18),nI (U J 20)] [unE (dE AP (dm m1 0))])))))))else(bif decide ((↑(av (aq (U J 7))):Int)<=aq (bt (ax (U J 1)) (av (aq (U J 3))) dj))then(gA (U J 13) (gA (U J 15) (gM AP (dm m1 0) (gA (U J 17) (gA (U J 19) (gA (U J 21) (k4 [U J 0,U J 1,U J 2,U J 3,de true,U J 4,U J 5,nI (U J 6),nI (U J 7),nI (U J 8),nI (U J 9),nI (U J 10),U J 11,U J 13,U J 15,U J 17,U J 19,U J 21,nI (U J 12),nI (U J 14),nI (U J 16),nI (U J 18),nI (U J 20),nI (U J 12),nI (U J 14),nI (U J 16),nI (U J 18),nI (U J 20)] [unE (dE AP (dm m1 0))])))))))else(if Int.ofNat 0<=0/\0<=aq (U J 3)/\aq (U J 3)<=(↑(au (ax (U J 0))):Int)then(QT N (bw (cut (ax (U J 0)) 0 (aq (U J 3)))) (bt (ax (U J 1)) (av (aq (U J 3))) dj) (fun I m2=>(gA (U J 13) (gA (U J 15) (gM AP (dm m1 0) (gA (U J 17) (gA (U J 19) (gA (U J 21) (k4 [U J 0,U J 1,U J 2,U J 3,de (dg (U I 0)),U J 4,U J 5,nI (U J 6),nI (U J 7),nI (U J 8),nI (U J 9),nI (U J 10),U J 11,U J 13,U J 15,U J 17,U J 19,U J 21,nI (U J 12),nI (U J 14),nI (U J 16),nI (U J 18),nI (U J 20),nI (U J 12),nI (U J 14),nI (U J 16),nI (U J 18),nI (U J 20)] [unE (dE AP (dm m1 0))])))))))))else none))))))else(gA (U J 13) (gA (U J 15) (gM AP (dm m1 0) (gA (U J 17) (gA (U J 19) (gA (U J 21) (k2 [U J 0,U J 4,U J 5,nI (U J 6),nI (U J 7),nI (U J 8),nI (U J 9),nI (U J 10),U J 11,nI (U J 12),U J 13,nI (U J 14),U J 15,nI (U J 16),U J 17,nI (U J 18),U J 19,nI (U J 20),U J 21] [unE (dE AP (dm m1 0))]))))))))
def Qx (a0 b0 b1 b2 b3 b4 b5 b6 b7 b8 b9 b10 b11 b12 b13:C) (m0:Es) (k1:KD R):Option R:=bif decide (1073741824<=aq b1)then(gA b8 (gA b9 (gM AP m0 (gA b10 (gA b11 (gA b12 (k1 [bw [],bc 8,b0,b1,nI b2,nI b3,nI b4,nI b5,nI b6,b7,bc (↑(au (ax b8)):Int),b8,bc (↑(au (ax b9)):Int),b9,bc (↑(au (ax b10)):Int),b10,bc (↑(au (ax b11)):Int),b11,bc (↑(au (ax b12)):Int),b12] [unE (dE AP m0)])))))))else(jn (fun J m1=>(jn (fun I m2=>(jn (fun d3 m3=>(gN (au (ax (U d3 0))) (gA (U d3 10) (gA (U d3 11) (gM AP (dm m3 0) (gA (U d3 12) (gA (U d3 30) (gA (U d3 14) (k1 [bw (ax (U d3 0)),bc 0,U d3 2,U d3 3,nI (U d3 4),nI (U d3 1),nI (U d3 6),nI (U d3 7),nI (U d3 8),U d3 9,nI (U d3 15),U d3 10,nI (U d3 16),U d3 11,nI (U d3 17),U d3 12,nI (U d3 18),U d3 30,nI (U d3 19),U d3 14] [unE (dE AP (dm m3 0))]))))))))) (fun k2=>(gN (au (ax (U I 1))) (gA (U I 10) (gA (U I 11) (gM AP (dm m2 0) (gA (U I 12) (gA (U I 13) (gA (U I 14) (BR N (Qv N a0 b0 b1 b2 b3 b4 b5 b6 b7 b8 b9 b10 b11 b12 b13 m0 k2) [U I 0,nI (U I 5),nI (U I 5),bw (ax (U I 1)),bc 0,bc 0,U I 2,U I 3,nI (U I 4),nI (U I 5),nI (U I 6),nI (U I 7),nI (U I 8),U I 9,U I 10,U I 11,U I 12,U I 13,U I 14,nI (U I 15),nI (U I 16),nI (U I 17),nI (U I 18),nI (U I 19),nI (U I 15),nI (U I 16),nI (U I 17),nI (U I 18),nI (U I 19),nI (U I 15),nI (U I 16),nI (U I 17),nI (U I 18),nI (U I 19),dc []] [unE (dE AP (dm m2 0))]))))))))))) (fun k2=>(gA (U J 10) (gA (U J 12) (gM AP (dm m1 0) (gA (U J 14) (gA (U J 16) (gA (U J 18) (BR N (Mb N a0 b0 b1 b2 b3 b4 b5 b6 b7 b8 b9 b10 b11 b12 b13 m0 k2) [U J 0,U J 0,bc (↑(au (ax (U J 0))):Int),bw [],bc 0,U J 1,bc (ar ay (aq (U J 2)+1)),nI (U J 3),nI (U J 4),nI (U J 5),nI (U J 6),nI (U J 7),U J 8,U J 10,U J 12,U J 14,U J 16,U J 18,nI (U J 9),nI (U J 11),nI (U J 13),nI (U J 15),nI (U J 17),nI (U J 9),nI (U J 11),nI (U J 13),nI (U J 15),nI (U J 17)] [unE (dE AP (dm m1 0))])))))))))) (fun k2=>(gA b8 (gA b9 (gM AP m0 (gA b10 (gA b11 (gA b12 (BR N (Qw N k1 k2) [a0,a0,bc (↑(au (ax a0)):Int),bc 0,b0,b1,nI b2,nI b3,nI b4,nI b5,nI b6,b7,bc (↑(au (ax b8)):Int),b8,bc (↑(au (ax b9)):Int),b9,bc (↑(au (ax b10)):Int),b10,bc (↑(au (ax b11)):Int),b11,bc (↑(au (ax b12)):Int),b12] [unE (dE AP m0)])))))))))
def OY:=lid "" (@Qx R N)
theorem UO {R N a0 b0 b1 b2 b3 b4 b5 b6 b7 b8 b9 b10 b11 b12 b13 m0 k}:@OY R N a0 b0 b1 b2 b3 b4 b5 b6 b7 b8 b9 b10 b11 b12 b13 m0 k=Qx N a0 b0 b1 b2 b3 b4 b5 b6 b7 b8 b9 b10 b11 b12 b13 m0 k:=by unfold OY;rw[BQ]
def kF:OvG R:=Cu F7 F9 (fun ds ms=>OY N (U ds 0) (U ds 1) (U ds 2) (U ds 3) (U ds 4) (U ds 5) (U ds 6) (U ds 7) (U ds 8) (U ds 9) (U ds 10) (U ds 11) (U ds 12) (U ds 13) (U ds 14) (dm ms 0)) fun ds ms K J m1=>K (V.tup [V.ts 8 (bm ba) (ax (U J 0)),V.d (bm ba) (U J 1)]) [(dp (ch 1),
  dy
   (mf Ba
    [xh (dp (ch 2)) [] BN,xh (dp (ch 5)) [] Bz,V.d (bm ay) (U J 2),
     V.d (bm ay) (U J 3),
     oq (ch 1000000000234) [] 0 (av (aq (U J 4))) none 240 AV,
     oq (ch 1000000000266) [] 0 (av (aq (U J 5))) none 2368 tTx,
     oq (ch 1000000000298) [] 0 (av (aq (U J 6))) none 40 AW])),
 (dp (ch 2),
  dy
   (mf BN
    [oq (ch 1000000000106) [] 0 (av (aq (U J 7))) none 8 (bm ay),
     oq (ch 1000000000138) [] 0 (av (aq (U J 8))) none 8 (bm ay),
     V.d (bm ay) (U J 9)])),
 (dp (ch 3),fk (ca (av (aq (U J 10))) (bm ay))),
 (ch 1000000000106,dy (V.d (ca (au (ax (U J 11))) (bm ay)) (U J 11))),
 (dp (ch 4),fk (ca (av (aq (U J 12))) (bm ay))),
 (ch 1000000000138,dy (V.d (ca (au (ax (U J 13))) (bm ay)) (U J 13))),
 (dp (ch 5),dy (mf Bz [V.mp (dp (ch 6))])),
 (dp (ch 6),O.map (ca 32 (bm cq)) AP (dE AP (dm m1 0))),
 (dp (ch 7),fk (ca (av (aq (U J 14))) AV)),
 (ch 1000000000234,dy (V.d (ca (au (ax (U J 15))) AV) (U J 15))),
 (dp (ch 8),fk (ca (av (aq (U J 16))) tTx)),
 (ch 1000000000266,dy (V.d (ca (au (ax (U J 17))) tTx) (U J 17))),
 (dp (ch 9),fk (ca (av (aq (U J 18))) AW)),
 (ch 1000000000298,dy (V.d (ca (au (ax (U J 19))) AW) (U J 19)))]
theorem F8:okX 27 (@kF R N):=Cv (BJ (q82 N) <| BJ (q0m N) <| BT) N [(27,[(8,[(46,8)])])] [(27,[([1,0,1,1],⟨[0,1],[],[.g (.l 1),.g (.l 2),.g (.l 3),.g (.l 4),.g (.l 5),.g (.l 6),.g (.l 7),.g (.l 8),.g (.l 9)],[],[],[(.int .u64),AV,tTx,AW]⟩),
  ([4,1,0,1,1],⟨[0,1,23,24],[(25,.d (.int .i64))],[.g (.l 1),.g (.l 2),.g (.l 3),.g (.l 4),.g (.l 5),.g (.l 6),.g (.l 7),.g (.l 8),.g (.l 9)],[],[],[(.int .u64),AV,tTx,AW]⟩),
  ([0,1,4,0,1,1,5,4,1,0,1,1],⟨[0,1,23,24,25],[(47,.d .bool)],[.g (.l 1),.g (.l 2),.g (.l 3),.g (.l 4),.g (.l 5),.g (.l 6),.g (.l 7),.g (.l 8),.g (.l 9)],[],[],[(.int .u64),AV,tTx,AW]⟩),
  ([1,0,1,1,1,1,1],⟨[0,1],[(8,.sl 8 (.int .i64) 5008)],[.g (.l 1),.g (.l 2),.g (.l 3),.g (.l 4),.g (.l 5),.g (.l 6),.g (.l 7),.g (.l 8),.g (.l 9)],[],[],[(.int .u64),AV,tTx,AW]⟩),
  ([4,1,0,1,1,1,1,1],⟨[0,1,56,57],[(8,.sl 8 (.int .i64) 5008),(58,.d (.int .i64))],[.g (.l 1),.g (.l 2),.g (.l 3),.g (.l 4),.g (.l 5),.g (.l 6),.g (.l 7),.g (.l 8),.g (.l 9)],[],[],[(.int .u64),AV,tTx,AW]⟩),
  ([1,0,1,1,1,1,1,1,1],⟨[0],[(8,.sl 8 (.int .i64) 5008),(11,.vec (.l 1000000000091) 2368 tTx)],[.g (.l 1),.g (.l 2),.g (.l 3),.g (.l 4),.g (.l 5),.g (.l 6),.g (.l 7),.g (.l 8),.g (.l 9)],[],[],[(.int .u64),AV,tTx,AW]⟩),
  ([4,1,0,1,1,1,1,1,1,1],⟨[0,1,78,79],[(8,.sl 8 (.int .i64) 5008),(11,.vec (.l 1000000000091) 2368 tTx),(80,.d (.int .i64))],[.g (.l 1),.g (.l 2),.g (.l 3),.g (.l 4),.g (.l 5),.g (.l 6),.g (.l 7),.g (.l 8),.g (.l 9)],[],[],[(.int .u64),AV,tTx,AW]⟩),
  ([1,1,4,0,1,1,5,4,1,0,1,1,1,1,1,1,1],⟨[0,1,78,79,80],[(8,.sl 8 (.int .i64) 5008),(11,.vec (.l 1000000000091) 2368 tTx)],[.g (.l 1),.g (.l 2),.g (.l 3),.g (.l 4),.g (.l 5),.g (.l 6),.g (.l 7),.g (.l 8),.g (.l 9)],[],[],[(.int .u64),AV,tTx,AW]⟩),
  ([9],⟨[],[(4,.sl 8 (.int .i64) 5004),(5,.d (.int .i64))],[.g (.l 1),.g (.l 2),.g (.l 3),.g (.l 4),.g (.l 5),.g (.l 6),.g (.l 7),.g (.l 8),.g (.l 9)],[],[],[(.int .u64),AV,tTx,AW]⟩)])] (fun _ _ _=>UO) fun ds ms K=>(show _=jn (fun J m1=>(bif df (au (ax (U J 0))) (au (ax (U J 0)))then
  (K (V.tup [V.ts 8 (bm ba) (ax (U J 0)),V.d (bm ba) (U J 1)]) [(dp (ch 1),
  dy
   (mf Ba
    [xh (dp (ch 2)) [] BN,xh (dp (ch 5)) [] Bz,V.d (bm ay) (U J 2),
     V.d (bm ay) (U J 3),
     oq (ch 1000000000234) [] 0 (av (aq (U J 4))) none 240 AV,
     oq (ch 1000000000266) [] 0 (av (aq (U J 5))) none 2368 tTx,
     oq (ch 1000000000298) [] 0 (av (aq (U J 6))) none 40 AW])),
 (dp (ch 2),
  dy
   (mf BN
    [oq (ch 1000000000106) [] 0 (av (aq (U J 7))) none 8 (bm ay),
     oq (ch 1000000000138) [] 0 (av (aq (U J 8))) none 8 (bm ay),
     V.d (bm ay) (U J 9)])),
 (dp (ch 3),fk (ca (av (aq (U J 10))) (bm ay))),
 (ch 1000000000106,dy (V.d (ca (au (ax (U J 11))) (bm ay)) (U J 11))),
 (dp (ch 4),fk (ca (av (aq (U J 12))) (bm ay))),
 (ch 1000000000138,dy (V.d (ca (au (ax (U J 13))) (bm ay)) (U J 13))),
 (dp (ch 5),dy (mf Bz [V.mp (dp (ch 6))])),
 (dp (ch 6),O.map (ca 32 (bm cq)) AP (dE AP (dm m1 0))),
 (dp (ch 7),fk (ca (av (aq (U J 14))) AV)),
 (ch 1000000000234,dy (V.d (ca (au (ax (U J 15))) AV) (U J 15))),
 (dp (ch 8),fk (ca (av (aq (U J 16))) tTx)),
 (ch 1000000000266,dy (V.d (ca (au (ax (U J 17))) tTx) (U J 17))),
 (dp (ch 9),fk (ca (av (aq (U J 18))) AW)),
 (ch 1000000000298,dy (V.d (ca (au (ax (U J 19))) AW) (U J 19)))])
 else
  none)) _ by kernel_rfl).trans (congrArg (fun k=>jn k _) (funext fun _=>funext fun _=>by simp only[bh,cond_true]))
section
variable {R:Type} {N:Nat}
theorem CA (a0 a1 a2 a3 a4 a5 a6 a7 a8 a9 a10 a11 a12 a13 a14 a15 a16 a17 a18 a19 a20 a21 a22 a23 a24 a25 a26:C) (l:List C):U (a0::a1::a2::a3::a4::a5::a6::a7::a8::a9::a10::a11::a12::a13::a14::a15::a16::a17::a18::a19::a20::a21::a22::a23::a24::a25::a26::l) 26=a26:=rfl
theorem CB (a0 a1 a2 a3 a4 a5 a6 a7 a8 a9 a10 a11 a12 a13 a14 a15 a16 a17 a18 a19 a20 a21 a22 a23 a24 a25 a26 a27:C) (l:List C):U (a0::a1::a2::a3::a4::a5::a6::a7::a8::a9::a10::a11::a12::a13::a14::a15::a16::a17::a18::a19::a20::a21::a22::a23::a24::a25::a26::a27::l) 27=a27:=rfl
theorem CC (a0 a1 a2 a3 a4 a5 a6 a7 a8 a9 a10 a11 a12 a13 a14 a15 a16 a17 a18 a19 a20 a21 a22 a23 a24 a25 a26 a27 a28:C) (l:List C):U (a0::a1::a2::a3::a4::a5::a6::a7::a8::a9::a10::a11::a12::a13::a14::a15::a16::a17::a18::a19::a20::a21::a22::a23::a24::a25::a26::a27::a28::l) 28=a28:=rfl
theorem CD (a0 a1 a2 a3 a4 a5 a6 a7 a8 a9 a10 a11 a12 a13 a14 a15 a16 a17 a18 a19 a20 a21 a22 a23 a24 a25 a26 a27 a28 a29:C) (l:List C):U (a0::a1::a2::a3::a4::a5::a6::a7::a8::a9::a10::a11::a12::a13::a14::a15::a16::a17::a18::a19::a20::a21::a22::a23::a24::a25::a26::a27::a28::a29::l) 29=a29:=rfl
theorem CE (a0 a1 a2 a3 a4 a5 a6 a7 a8 a9 a10 a11 a12 a13 a14 a15 a16 a17 a18 a19 a20 a21 a22 a23 a24 a25 a26 a27 a28 a29 a30:C) (l:List C):U (a0::a1::a2::a3::a4::a5::a6::a7::a8::a9::a10::a11::a12::a13::a14::a15::a16::a17::a18::a19::a20::a21::a22::a23::a24::a25::a26::a27::a28::a29::a30::l) 30=a30:=rfl
theorem CF (a0 a1 a2 a3 a4 a5 a6 a7 a8 a9 a10 a11 a12 a13 a14 a15 a16 a17 a18 a19 a20 a21 a22 a23 a24 a25 a26 a27 a28 a29 a30 a31:C) (l:List C):U (a0::a1::a2::a3::a4::a5::a6::a7::a8::a9::a10::a11::a12::a13::a14::a15::a16::a17::a18::a19::a20::a21::a22::a23::a24::a25::a26::a27::a28::a29::a30::a31::l) 31=a31:=rfl
theorem CG (a0 a1 a2 a3 a4 a5 a6 a7 a8 a9 a10 a11 a12 a13 a14 a15 a16 a17 a18 a19 a20 a21 a22 a23 a24 a25 a26 a27 a28 a29 a30 a31 a32:C) (l:List C):U (a0::a1::a2::a3::a4::a5::a6::a7::a8::a9::a10::a11::a12::a13::a14::a15::a16::a17::a18::a19::a20::a21::a22::a23::a24::a25::a26::a27::a28::a29::a30::a31::a32::l) 32=a32:=rfl
theorem CH (a0 a1 a2 a3 a4 a5 a6 a7 a8 a9 a10 a11 a12 a13 a14 a15 a16 a17 a18 a19 a20 a21 a22 a23 a24 a25 a26 a27 a28 a29 a30 a31 a32 a33:C) (l:List C):U (a0::a1::a2::a3::a4::a5::a6::a7::a8::a9::a10::a11::a12::a13::a14::a15::a16::a17::a18::a19::a20::a21::a22::a23::a24::a25::a26::a27::a28::a29::a30::a31::a32::a33::l) 33=a33:=rfl
theorem CI (a0 a1 a2 a3 a4 a5 a6 a7 a8 a9 a10 a11 a12 a13 a14 a15 a16 a17 a18 a19 a20 a21 a22 a23 a24 a25 a26 a27 a28 a29 a30 a31 a32 a33 a34:C) (l:List C):U (a0::a1::a2::a3::a4::a5::a6::a7::a8::a9::a10::a11::a12::a13::a14::a15::a16::a17::a18::a19::a20::a21::a22::a23::a24::a25::a26::a27::a28::a29::a30::a31::a32::a33::a34::l) 34=a34:=rfl
theorem CJ (a0 a1 a2 a3 a4 a5 a6 a7 a8 a9 a10 a11 a12 a13 a14 a15 a16 a17 a18 a19 a20 a21 a22 a23 a24 a25 a26 a27 a28 a29 a30 a31 a32 a33 a34 a35:C) (l:List C):U (a0::a1::a2::a3::a4::a5::a6::a7::a8::a9::a10::a11::a12::a13::a14::a15::a16::a17::a18::a19::a20::a21::a22::a23::a24::a25::a26::a27::a28::a29::a30::a31::a32::a33::a34::a35::l) 35=a35:=rfl
theorem CK (a0 a1 a2 a3 a4 a5 a6 a7 a8 a9 a10 a11 a12 a13 a14 a15 a16 a17 a18 a19 a20 a21 a22 a23 a24 a25 a26 a27 a28 a29 a30 a31 a32 a33 a34 a35 a36:C) (l:List C):U (a0::a1::a2::a3::a4::a5::a6::a7::a8::a9::a10::a11::a12::a13::a14::a15::a16::a17::a18::a19::a20::a21::a22::a23::a24::a25::a26::a27::a28::a29::a30::a31::a32::a33::a34::a35::a36::l) 36=a36:=rfl
theorem CL (a0 a1 a2 a3 a4 a5 a6 a7 a8 a9 a10 a11 a12 a13 a14 a15 a16 a17 a18 a19 a20 a21 a22 a23 a24 a25 a26 a27 a28 a29 a30 a31 a32 a33 a34 a35 a36 a37:C) (l:List C):U (a0::a1::a2::a3::a4::a5::a6::a7::a8::a9::a10::a11::a12::a13::a14::a15::a16::a17::a18::a19::a20::a21::a22::a23::a24::a25::a26::a27::a28::a29::a30::a31::a32::a33::a34::a35::a36::a37::l) 37=a37:=rfl
theorem CM (a0 a1 a2 a3 a4 a5 a6 a7 a8 a9 a10 a11 a12 a13 a14 a15 a16 a17 a18 a19 a20 a21 a22 a23 a24 a25 a26 a27 a28 a29 a30 a31 a32 a33 a34 a35 a36 a37 a38:C) (l:List C):U (a0::a1::a2::a3::a4::a5::a6::a7::a8::a9::a10::a11::a12::a13::a14::a15::a16::a17::a18::a19::a20::a21::a22::a23::a24::a25::a26::a27::a28::a29::a30::a31::a32::a33::a34::a35::a36::a37::a38::l) 38=a38:=rfl
theorem DV (a0 a1 a2 a3 a4 a5 a6 a7 a8 a9 a10 a11 a12 a13 a14 a15 a16 a17 a18 a19 a20 a21 a22 a23 a24 a25 a26 a27 a28 a29 a30 a31 a32 a33 a34 a35 a36 a37 a38 a39:C) (l:List C):U (a0::a1::a2::a3::a4::a5::a6::a7::a8::a9::a10::a11::a12::a13::a14::a15::a16::a17::a18::a19::a20::a21::a22::a23::a24::a25::a26::a27::a28::a29::a30::a31::a32::a33::a34::a35::a36::a37::a38::a39::l) 39=a39:=rfl
theorem Jg {F:KD R->KD R->List C->List Es->Option R} (n:Nat) (inv:Nat->List C->List Es->Prop) (P:List C->List Es->Prop)
  (step:∀i st sm,i<n->inv i st sm->∃st' sm',inv (i+1) st' sm'/\∀fin rec:KD R,F fin rec st sm=rec st' sm')
  (stop:∀st sm,inv n st sm->∃d m,P d m/\∀fin rec:KD R,F fin rec st sm=fin d m):
  ∀(m i:Nat) (st:List C) (sm:List Es) (N:Nat),i+m=n->m<N->inv i st sm->∃d m',P d m'/\∀fin:KD R,BR N (F fin) st sm=fin d m'
 |m,i,st,sm,N,hm,hN,h=>by
  obtain⟨N,rfl⟩:∃a,N=a+1:=⟨N-1,by omega⟩;by_cases e:i=n;{subst e;obtain⟨d,m',h1,h2⟩:=stop st sm h;exact⟨d,m',h1,fun fin=>by rw[Dl,h2]⟩}
  ·obtain⟨st',sm',h1,h2⟩:=step i st sm (by omega) h
   match m with
   |0=>omega|m+1=>
    obtain⟨d,m',h3,h4⟩:=Jg n inv P step stop m (i+1) st' sm' N (by omega) (by omega) h1;exact⟨d,m',h3,fun fin=>by rw[Dl,h2,h4]⟩
def DoL (n:Nat):CS->List C->List C->CS->Prop
 |s,[],outs,s'=>outs=[]/\s'=s|s,t::ts,outs,s'=>∃(e:Int) (s1:CS) (z9G:List C),DoR s n t s1 e/\outs= .int e::z9G/\DoL n (s1.ev t e) ts z9G s'
theorem DoL.snoc {n:Nat} {t:C} {s2:CS} {e:Int}:∀{ts:List C} {s:CS} {outs:List C} {s1:CS},DoL n s ts outs s1->DoR s1 n t s2 e->DoL n s (ts++[t]) (outs++[.int e]) (s2.ev t e)
 | [],s,outs,s1,h,g=>by obtain⟨rfl,rfl⟩:=h;exact⟨e,s2,[],g,rfl,rfl,rfl⟩
 |t'::ts,s,outs,s1,h,g=>by obtain⟨e',s',o',h1,rfl,h2⟩:=h;exact⟨e',s',o'++[.int e],h1,rfl,DoL.snoc h2 g⟩
def DY (l:List C):Nat->List C->List C
 |_,[]=>[]|i,c::cs=>if Fu l (.int (i:Nat))=true then DY l (i+1) cs else c::DY l (i+1) cs
theorem Zt (l:List C):∀(cs:List C) (i j:Nat) (h:j<cs.length),DY l i (cs.take (j+1))=DY l i (cs.take j)++(if Fu l (.int (i+j:Nat))=true then[]else[cs.getD j .nil])
 |c::cs,i,0,_=>by simp only[vf,List.take_zero,DY,Nat.add_zero,List.nil_append,List.getD_cons_zero]
 |c::cs,i,j+1,h=>by
  have ih:=Zt l cs (i+1) j (by simpa using h);have e:i+1+j=i+(j+1):=by omega
  rw[e]at ih;simp only[vf,DY,List.getD_cons_succ]at ih ⊢;by_cases g:Fu l (.int (i:Nat))=true;{simp only[g,if_true,AB];exact ih};{simp only[g,if_false,List.cons_append,Bool.false_eq_true];rw[ih]}
theorem qR (l:List C):∀(cs:List C) (i:Nat),(DY l i cs).length<=cs.length
 | [],_=>Nat.le_refl _|c::cs,i=>by have:=qR l cs (i+1);simp only[DY];split;{simp;omega};{simp;exact this}
def JP (l:List C) (np:Nat) (i:Nat) (_:Unit) (c:C):Unit ⊕ Unit:=if c.toInt<0\/(np:Int)<=c.toInt\/Fu (cut l 0 i) c=true then .inr ()else .inl ()
theorem contains_eq (l:List C) (v:C) (hl:l.length<4611686018427387904) (hN:l.length<N) (k:KD R):QT N (.slice l) v k=k [.bool (Fu l v)] []:=by rw[yM];unfold eZ;rw[q2H l v hl hN];exact congrArg (fun b=>k [de b] []) ((decide_eq_decide.2 Iff.rfl).trans (q2F l v))
theorem iW (l:List C) (np:Nat):∀(m:List C) (i:Nat),Dg (JP l np) i () m= .inl ()->∀c∈m,0<=c.toInt/\c.toInt<(np:Int)
 | [],_,_,c,hc=>nomatch hc|x::m,i,h,c,hc=>by simp only[Dg,JP]at h;by_cases g:x.toInt<0\/(np:Int)<=x.toInt\/Fu (cut l 0 i) x=true;{simp[g]at h};{simp only[g,if_false]at h;rcases List.mem_cons.1 hc with rfl|hc;{omega};{exact iW l np m (i+1) h c hc}}
end
def U9:List Sh:=[.as (.ptr (.g (.l 1)) [] Ba),.d Bo]
def J3:List (Key × OSh):=[(.l 1,.box (.agg Ba [.as (.ptr (.g (.l 2)) [] BN),.as (.ptr (.g (.l 5)) [] Bz),.d (.int .u64),.d (.int .u64),.vec (.g (.l 7)) 240 AV,.vec (.g (.l 8)) 2368 tTx,.vec (.g (.l 9)) 40 AW])),(.l 2,.box (.agg BN [.vec (.g (.l 3)) 8 (.int .u64),.vec (.g (.l 4)) 8 (.int .u64),.d (.int .u64)])),(.l 3,.box (.arr (.int .u64))),(.l 4,.box (.arr (.int .u64))),(.l 5,.box (.agg Bz [.as (.mp (.g (.l 6)))])),(.l 6,.map (.arr 32 (.int .u8)) AP),(.l 7,.box (.arr AV)),(.l 8,.box (.arr tTx)),(.l 9,.box (.arr AW))]
def OW (b0:C) (b1:C) (b2:C) (b3:C) (b4:C) (b5:C) (b6:C) (b7:C) (b8:C) (b9:C) (b10:C) (b11:C) (b12:C) (m0:Es) (k2:KD R):KD R->KD R:=fun k3 J m1=>(bif decide (aq (U J 3)<aq (U J 1))then(gB (aq (U J 3)) ((↑(au (ax (U J 0))):Int)) (gA b8 (gA b9 (gM AP m0 (gA b10 (gA b11 (gA b12 (OZ N (bt (ax (U J 0)) (av (aq (U J 3))) dj) b0 b1 (nI b2) (nI b3) (nI b4) (nI b5) (nI b6) b7 b8 b9 b10 b11 b12 dj (unE (dE AP m0)) (fun I m2=>(jn (fun d3 m3=>(gN (au (ax (U d3 3))) (k3 [U d3 0,U d3 1,bw (ax (U d3 3)),bc (ar ba (aq (U d3 2)+1))] []))) (fun k4=>(bif decide (aq (U I 0)=1)then(gN (au (ax (U J 2))) (gL (au (ax (U J 2))) 112 (bif df (au (ax (U J 2))+1) (au (ax (U J 2)++[dc [cn (cn (dc [bc 0,bc 0,dc [bc 0,bc 0,bc 0,dc (bp 32 (bc 0)),bc 0],bc 0]) 0 (bc 3)) 3 (bj (bt (ax (U J 0)) (av (aq (U J 3))) dj) 0),bw []]]))then(k4 [U J 0,U J 1,U J 3,bw (ax (U J 2)++[dc [cn (cn (dc [bc 0,bc 0,dc [bc 0,bc 0,bc 0,dc (bp 32 (bc 0)),bc 0],bc 0]) 0 (bc 3)) 3 (bj (bt (ax (U J 0)) (av (aq (U J 3))) dj) 0),bw []]])] [])else none)))else(jn (fun d3 m3=>(gN (au (ax (U d3 3))) (k4 [U d3 0,U d3 1,U d3 2,bw (ax (U d3 3))] []))) (fun k5=>(bif decide (aq (U I 0)=2)then(gN (au (ax (U J 2))) (gL (au (ax (U J 2))) 112 (bif df (au (ax (U J 2))+1) (au (ax (U J 2)++[dc [cn (cn (dc [bc 0,bc 0,dc [bc 0,bc 0,bc 0,dc (bp 32 (bc 0)),bc 0],bc 0]) 0 (bc 4)) 3 (bj (bt (ax (U J 0)) (av (aq (U J 3))) dj) 0),bw []]]))then(k5 [U J 0,U J 1,U J 3,bw (ax (U J 2)++[dc [cn (cn (dc [bc 0,bc 0,dc [bc 0,bc 0,bc 0,dc (bp 32 (bc 0)),bc 0],bc 0]) 0 (bc 4)) 3 (bj (bt (ax (U J 0)) (av (aq (U J 3))) dj) 0),bw []]])] [])else none)))else(gN (au (ax (U J 2))) (k5 [U J 0,U J 1,U J 3,bw (ax (U J 2))] [])))))))))))))))))else(gN (au (ax (U J 2))) (k2 [bw (ax (U J 2))] [])))
def YG (a0 b0 b1 b2 b3 b4 b5 b6 b7 b8 b9 b10 b11 b12 b13:C) (m0:Es) (k1:KD R):Option R:=jn (fun J m1=>(gN (au (ax (U J 0))) (k1 [bw (ax (U J 0))] []))) (fun k2=>(BR N (OW N b0 b1 b2 b3 b4 b5 b6 b7 b8 b9 b10 b11 b12 m0 k2) [bj a0 4,bc (↑(au (ax (bj a0 4))):Int),bw [],bc 0] []))
def Qq:=lid "" (@YG R N)
theorem jZ {R N a0 b0 b1 b2 b3 b4 b5 b6 b7 b8 b9 b10 b11 b12 b13 m0 k}:@Qq R N a0 b0 b1 b2 b3 b4 b5 b6 b7 b8 b9 b10 b11 b12 b13 m0 k=YG N a0 b0 b1 b2 b3 b4 b5 b6 b7 b8 b9 b10 b11 b12 b13 m0 k:=by unfold Qq;rw[BQ]
def J1:OvG R:=Cu U9 J3 (fun ds ms=>Qq N (U ds 0) (U ds 1) (U ds 2) (U ds 3) (U ds 4) (U ds 5) (U ds 6) (U ds 7) (U ds 8) (U ds 9) (U ds 10) (U ds 11) (U ds 12) (U ds 13) (U ds 14) (dm ms 0)) fun ds ms K J m1=>K (V.ts 112 Cy (ax (U J 0))) []
theorem J2:okX 18 (@J1 R N):=Cv (BJ (kI N) <| BT) N [(18,[(0,[(3,5)])])] [(18,[([1,0,1,1],⟨[0],[(5,.sl 112 Cy 5005)],[],[],[.g (.l 1),.g (.l 2),.g (.l 3),.g (.l 4),.g (.l 5),.g (.l 6),.g (.l 7),.g (.l 8),.g (.l 9)],[(.int .u64),AV,tTx,AW]⟩),
  ([4,1,0,1,1],⟨[0,9,10],[(5,.sl 112 Cy 5005),(11,.d (.int .i64))],[],[],[.g (.l 1),.g (.l 2),.g (.l 3),.g (.l 4),.g (.l 5),.g (.l 6),.g (.l 7),.g (.l 8),.g (.l 9)],[(.int .u64),AV,tTx,AW]⟩),
  ([1,4,1,1,4,0,1,1,5,4,1,0,1,1],⟨[0,9,10,11],[(5,.sl 112 Cy 5005)],[],[],[.g (.l 1),.g (.l 2),.g (.l 3),.g (.l 4),.g (.l 5),.g (.l 6),.g (.l 7),.g (.l 8),.g (.l 9)],[(.int .u64),AV,tTx,AW]⟩),
  ([1,3,1,4,1,1,4,0,1,1,5,4,1,0,1,1],⟨[0,9,10,11],[(5,.sl 112 Cy 5005)],[],[],[.g (.l 1),.g (.l 2),.g (.l 3),.g (.l 4),.g (.l 5),.g (.l 6),.g (.l 7),.g (.l 8),.g (.l 9)],[(.int .u64),AV,tTx,AW]⟩),
  ([9],⟨[],[(4,.sl 112 Cy 5004)],[],[],[.g (.l 1),.g (.l 2),.g (.l 3),.g (.l 4),.g (.l 5),.g (.l 6),.g (.l 7),.g (.l 8),.g (.l 9)],[(.int .u64),AV,tTx,AW]⟩)])] (fun _ _ _=>jZ) fun ds ms K=>(show _=jn (fun J m1=>(bif df (au (ax (U J 0))) (au (ax (U J 0)))then
  (K (V.ts 112 Cy (ax (U J 0))) [])
 else
  none)) _ by kernel_rfl).trans (congrArg (fun k=>jn k _) (funext fun _=>funext fun _=>by simp only[bh,cond_true]))
def q7Y:List Sh:=[.as (.ptr (.g (.l 1)) [] Ba),.d CR]
def q72:List (Key × OSh):=[(.l 1,.box (.agg Ba [.as (.ptr (.g (.l 2)) [] BN),.as (.ptr (.g (.l 5)) [] Bc),.d (.int .u64),.d (.int .u64),.vec (.g (.l 7)) 240 AV,.vec (.g (.l 8)) 2368 tTx,.vec (.g (.l 9)) 40 AW])),(.l 2,.box (.agg BN [.vec (.g (.l 3)) 8 (.int .u64),.vec (.g (.l 4)) 8 (.int .u64),.d (.int .u64)])),(.l 3,.box (.arr (.int .u64))),(.l 4,.box (.arr (.int .u64))),(.l 5,.box (.agg Bc [.d Bf,.ts 72 Bw])),(.l 7,.box (.arr AV)),(.l 8,.box (.arr tTx)),(.l 9,.box (.arr AW))]
def dN (a0 b0 b1 b2 b3 b4 b5 b6 b7 b8 b9 b10 b11 b12 b13 b14:C) (k1:KD R):Option R:=Sn N a0 b1 b10 (bw (ax b11)) (fun J m1=>(k1 [U J 0] []))
def QI:=lid "" (@dN R N)
theorem wP {R N a0 b0 b1 b2 b3 b4 b5 b6 b7 b8 b9 b10 b11 b12 b13 b14 k}:@QI R N a0 b0 b1 b2 b3 b4 b5 b6 b7 b8 b9 b10 b11 b12 b13 b14 k=dN N a0 b0 b1 b2 b3 b4 b5 b6 b7 b8 b9 b10 b11 b12 b13 b14 k:=by unfold QI;rw[BQ]
def q7Z:OvG R:=Cu q7Y q72 (fun ds ms=>QI N (U ds 0) (U ds 1) (U ds 2) (U ds 3) (U ds 4) (U ds 5) (U ds 6) (U ds 7) (U ds 8) (U ds 9) (U ds 10) (U ds 11) (U ds 12) (U ds 13) (U ds 14) (U ds 15)) fun ds ms K J m1=>K (V.d (bm ba) (U J 0)) []
theorem wO:okX 38 (@q7Z R N):=Cv (BJ (q7h N) <| BT) N [(38,[(0,[(3,5)])])] [(38,[([9],⟨[],[(4,.d (.int .i64))],[],[],[.g (.l 1),.g (.l 2),.g (.l 3),.g (.l 4),.g (.l 5),.g (.l 7),.g (.l 8),.g (.l 9)],[(.int .u64),AV,tTx,AW]⟩)])] (fun _ _ _=>wP)
def q7U:List Sh:=[.as (.ptr (.g (.l 1)) [] Ba),.d Bo]
def q7X:List (Key × OSh):=[(.l 1,.box (.agg Ba [.as (.ptr (.g (.l 2)) [] BN),.as (.ptr (.g (.l 5)) [] Bc),.d (.int .u64),.d (.int .u64),.vec (.g (.l 7)) 240 AV,.vec (.g (.l 8)) 2368 tTx,.vec (.g (.l 9)) 40 AW])),(.l 2,.box (.agg BN [.vec (.g (.l 3)) 8 (.int .u64),.vec (.g (.l 4)) 8 (.int .u64),.d (.int .u64)])),(.l 3,.box (.arr (.int .u64))),(.l 4,.box (.arr (.int .u64))),(.l 5,.box (.agg Bc [.d Bf,.ts 72 Bw])),(.l 7,.box (.arr AV)),(.l 8,.box (.arr tTx)),(.l 9,.box (.arr AW))]
def QH (b0:C) (b1:C) (b2:C) (b3:C) (b4:C) (b5:C) (b6:C) (b7:C) (b8:C) (b9:C) (b10:C) (b11:C) (b12:C) (b13:C) (b14:C) (k2:KD R):KD R->KD R:=fun k3 J m1=>(bif decide (aq (U J 2)<(↑(au (ax (bj (U J 0) 4))):Int))then(gB (aq (U J 2)) ((↑(au (ax (bj (U J 0) 4))):Int)) (gA b8 (gA b9 (gA b12 (gA b13 (gA b14 (QI N (bt (ax (bj (U J 0) 4)) (av (aq (U J 2))) dj) b0 b1 (nI b2) (nI b3) (nI b4) (nI b5) (nI b6) b7 b8 b9 b10 (bw (ax b11)) b12 b13 b14 (fun I m2=>(jn (fun d3 m3=>(gN (au (ax (U d3 2))) (k3 [U d3 0,bw (ax (U d3 2)),bc (ar ba (aq (U d3 1)+1))] []))) (fun k4=>(bif !decide (aq (U I 0)=0)then(gB (aq (U J 2)) ((↑(au (ax (bj (U J 0) 4))):Int)) (gN (au (ax (U J 1))) (gL (au (ax (U J 1))) 112 (bif df (au (ax (U J 1))+1) (au (ax (U J 1)++[dc [cn (cn (dc [bc 0,bc 0,dc [bc 0,bc 0,bc 0,dc (bp 32 (bc 0)),bc 0],bc 0]) 0 (bc (ar ba (2+aq (U I 0))))) 3 (bj (bt (ax (bj (U J 0) 4)) (av (aq (U J 2))) dj) 0),bw []]]))then(k4 [U J 0,U J 2,bw (ax (U J 1)++[dc [cn (cn (dc [bc 0,bc 0,dc [bc 0,bc 0,bc 0,dc (bp 32 (bc 0)),bc 0],bc 0]) 0 (bc (ar ba (2+aq (U I 0))))) 3 (bj (bt (ax (bj (U J 0) 4)) (av (aq (U J 2))) dj) 0),bw []]])] [])else none))))else(gN (au (ax (U J 1))) (k4 [U J 0,U J 2,bw (ax (U J 1))] [])))))))))))))else(gN (au (ax (U J 1))) (k2 [bw (ax (U J 1))] [])))
def dM (a0 b0 b1 b2 b3 b4 b5 b6 b7 b8 b9 b10 b11 b12 b13 b14:C) (k1:KD R):Option R:=jn (fun J m1=>(gN (au (ax (U J 0))) (k1 [bw (ax (U J 0))] []))) (fun k2=>(BR N (QH N b0 b1 b2 b3 b4 b5 b6 b7 b8 b9 b10 b11 b12 b13 b14 k2) [a0,bw [],bc 0] []))
def Sx:=lid "" (@dM R N)
theorem wN {R N a0 b0 b1 b2 b3 b4 b5 b6 b7 b8 b9 b10 b11 b12 b13 b14 k}:@Sx R N a0 b0 b1 b2 b3 b4 b5 b6 b7 b8 b9 b10 b11 b12 b13 b14 k=dM N a0 b0 b1 b2 b3 b4 b5 b6 b7 b8 b9 b10 b11 b12 b13 b14 k:=by unfold Sx;rw[BQ]
def q7V:OvG R:=Cu q7U q7X (fun ds ms=>Sx N (U ds 0) (U ds 1) (U ds 2) (U ds 3) (U ds 4) (U ds 5) (U ds 6) (U ds 7) (U ds 8) (U ds 9) (U ds 10) (U ds 11) (U ds 12) (U ds 13) (U ds 14) (U ds 15)) fun ds ms K J m1=>K (V.ts 112 Cy (ax (U J 0))) []
theorem q7W:okX 19 (@q7V R N):=Cv (BJ (wO N) <| BT) N [(19,[(0,[(3,5)])])] [(19,[([1,0,1,1],⟨[0],[(5,.sl 112 Cy 5005)],[],[],[.g (.l 1),.g (.l 2),.g (.l 3),.g (.l 4),.g (.l 5),.g (.l 7),.g (.l 8),.g (.l 9)],[(.int .u64),AV,tTx,AW]⟩),
  ([4,1,0,1,1],⟨[0,3],[(5,.sl 112 Cy 5005),(6,.d (.int .i64))],[],[],[.g (.l 1),.g (.l 2),.g (.l 3),.g (.l 4),.g (.l 5),.g (.l 7),.g (.l 8),.g (.l 9)],[(.int .u64),AV,tTx,AW]⟩),
  ([1,1,4,0,1,5,4,1,0,1,1],⟨[0,3,6],[(5,.sl 112 Cy 5005)],[],[],[.g (.l 1),.g (.l 2),.g (.l 3),.g (.l 4),.g (.l 5),.g (.l 7),.g (.l 8),.g (.l 9)],[(.int .u64),AV,tTx,AW]⟩),
  ([9],⟨[],[(4,.sl 112 Cy 5004)],[],[],[.g (.l 1),.g (.l 2),.g (.l 3),.g (.l 4),.g (.l 5),.g (.l 7),.g (.l 8),.g (.l 9)],[(.int .u64),AV,tTx,AW]⟩)])] (fun _ _ _=>wN) fun ds ms K=>(show _=jn (fun J m1=>(bif df (au (ax (U J 0))) (au (ax (U J 0)))then
  (K (V.ts 112 Cy (ax (U J 0))) [])
 else
  none)) _ by kernel_rfl).trans (congrArg (fun k=>jn k _) (funext fun _=>funext fun _=>by simp only[bh,cond_true]))
section
variable {R:Type} {N:Nat}
theorem yA (p b0 ya b2 b3 b4 b5 b6 b7 b8 b9 b10 b12 b13 b14:C) (l:List Ent) (hl:l.length<=1000) (hN:5000<N) (k:KD R):QI N p b0 ya b2 b3 b4 b5 b6 b7 b8 b9 b10 (.slice (l.map DL)) b12 b13 b14 k=k [.int (ofP (l.map Cm) p ya.toInt)] []:=by rw[wP];unfold dN;simp only[AO,q8l p ya l hl hN,AF]
def F3:C:=.agg [.int 0,.int 0,.int 0,.agg (bp 32 (.int 0)),.int 0]
def XW (kind:Int) (c:C):C:=.agg [.agg [.int kind,.int 0,F3,c.get 0],.slice []]
def Nh (v:C->Int) (c:C):List C:=if v c=1 then[XW 3 c]else if v c=2 then[XW 4 c]else[]
def Gf (v:C->Int) (l:List C):List C:=l.flatMap (Nh v)
theorem q8R (v:C->Int) (c:C):(Nh v c).length<=1:=by unfold Nh;split;{simp};{split <;> simp}
theorem eR (v:C->Int) (l:List C):(Gf v l).length<=l.length:=by
 unfold Gf
 induction l with
 |nil=>simp|cons c l ih=>
  have:=q8R v c;simp only[List.flatMap_cons,br,cg];omega
theorem yH (v:C->Int) (l:List C) {i:Nat} {c:C} (h:l[i]? =some c):Gf v (l.take (i+1))=Gf v (l.take i)++Nh v c:=by unfold Gf;rw[List.take_add_one,h,List.flatMap_append];simp
theorem q8Q (v:C->Int) (l:List C):∀w∈Gf v l,∃(kind:Int) (c:C),w=XW kind c:=fun w hw=>by unfold Gf at hw;obtain⟨c,_,hc⟩:=List.mem_flatMap.1 hw;unfold Nh at hc;split at hc;{exact⟨3,c,fj.1 hc⟩};{split at hc;{exact⟨4,c,fj.1 hc⟩};{cases hc}}
theorem z0u (kind:Int) (c:C):Xf (XW kind c):=⟨rfl,⟨rfl,rfl⟩,(fun _ h=>nomatch h),Nat.zero_le _⟩
theorem q8W (st b0 ya b2 b3 b4 b5 b6 b7 b8 b9 b10 b11 b12 b13:C) (m:Es) (hl:(Bh st).length<=1000) (hN:5000<N) (k:KD R):
  Qq N st b0 ya b2 b3 b4 b5 b6 b7 b8 b9 b10 b11 b12 b13 m k=k [.slice (Gf (fun c=>ofP m c ya.toInt) (Bh st))] []:=by
 rw[jZ];unfold YG;rw[AR]
 have key:=Jg (R:=R) (F:=fun k2=>OW N b0 ya b2 b3 b4 b5 b6 b7 b8 b9 b10 b11 b12 m k2) (Bh st).length
  (fun i s q=>s=[st.get 4,.int (Bh st).length,.slice (Gf (fun c=>ofP m c ya.toInt) ((Bh st).take i)),.int i]/\q=[])
  (fun d q=>d=[.slice (Gf (fun c=>ofP m c ya.toInt) (Bh st))]/\q=[]) ?_ ?_ (Bh st).length 0 _ _ N (by omega) (by omega) ⟨rfl,rfl⟩
 ·obtain⟨d,q,⟨rfl,rfl⟩,heq⟩:=key;refine(heq _).trans ?_;simp only[AF,AO,bh,cond_true,AB]
 ·rintro i s q hi ⟨rfl,rfl⟩;refine⟨_,_,⟨rfl,rfl⟩,fun k rec=>?_⟩;obtain⟨c,hc⟩:∃c,(Bh st)[i]? =some c:=⟨_,bo hi⟩;have e1:(i:Int)<((Bh st).length:Int):=by omega
  have e2:(st.get 4).elems=Bh st:=rfl;rw[yH _ _ hc];have hs:=eR (fun c=>ofP m c ya.toInt) ((Bh st).take i);rw[jh]at hs;generalize Gf (fun c=>ofP m c ya.toInt) ((Bh st).take i)=out at hs ⊢;have g:(out.length+1)*112<=140737488355328/\out.length+1<=9223372036854775807:=by omega
  show OW N b0 ya b2 b3 b4 b5 b6 b7 b8 b9 b10 b11 b12 m k rec _ _=_;unfold OW Nh;rcases tD m c ya.toInt with v|v|v;{simp only[AR,AG,AX,BG,bb,Ab,AO,eq_self,AE,Ae,BM,Af,BO,BP,and_self,bf,bh,Ay,AF,AH,AJ,AL,AQ,Aa,Ac,Ah,Ai,Aj,Ak,Al,Ao,Ap,Aq,Ar,Au,Av,Aw,Ax,Az,BA,BB,BC,BD,BF,bu,e1,e2,FJ hc,bz,Nq,v,show ¬(0:Int)=1 by decide,show ¬(0:Int)=2 by decide,tv,Bp (show i<4611686018427387904 by omega),AB]};{simp only[AR,AG,AX,BG,bb,Ab,AO,eq_self,AE,Ae,BM,Af,BO,BP,and_self,bf,bh,Ay,AF,AH,AJ,AL,AQ,Aa,Ac,Ah,Ai,Aj,Ak,Al,Ao,Ap,Aq,Ar,Au,Av,Aw,Ax,Az,BA,BB,BC,BD,BF,bu,e1,e2,FJ hc,bz,Nq,v,g,br,cg,cr,Bp (show i<4611686018427387904 by omega),AB];rfl};{simp only[AR,AG,AX,BG,bb,Ab,AO,eq_self,AE,Ae,BM,Af,BO,BP,and_self,bf,bh,Ay,AF,AH,AJ,AL,AQ,Aa,Ac,Ah,Ai,Aj,Ak,Al,Ao,Ap,Aq,Ar,Au,Av,Aw,Ax,Az,BA,BB,BC,BD,BF,bu,e1,e2,FJ hc,bz,Nq,v,g,show ¬(2:Int)=1 by decide,br,cg,cr,Bp (show i<4611686018427387904 by omega),AB];rfl}
 ·rintro s q ⟨rfl,rfl⟩;refine⟨_,_,⟨rfl,rfl⟩,fun k rec=>?_⟩;show OW N b0 ya b2 b3 b4 b5 b6 b7 b8 b9 b10 b11 b12 m k rec _ _=_;unfold OW;simp only[AR,AG,AX,BG,bb,Ab,AO,eq_self,AE,Ae,BM,Af,BO,BP,and_self,bf,bh,Ay,AF,AH,AJ,AL,AQ,Aa,Ac,Ah,Ai,Aj,Ak,Al,Ao,Ap,Aq,Ar,Au,Av,Aw,Ax,Az,BA,BB,BC,BD,BF,bu,eg,dh,AB]
theorem q8p (st b0 ya b2 b3 b4 b5 b6 b7 b8 b9 b10 b12 b13 b14:C) (l:List Ent) (hll:l.length<=1000) (hl:(Bh st).length<=1000) (hN:5000<N) (k:KD R):
  Sx N st b0 ya b2 b3 b4 b5 b6 b7 b8 b9 b10 (.slice (l.map DL)) b12 b13 b14 k=k [.slice (Gf (fun c=>ofP (l.map Cm) c ya.toInt) (Bh st))] []:=by
 rw[wN];unfold dM;rw[AR]
 have key:=Jg (R:=R) (F:=fun k2=>QH N b0 ya b2 b3 b4 b5 b6 b7 b8 b9 b10 (.slice (l.map DL)) b12 b13 b14 k2) (Bh st).length
  (fun i s q=>s=[st,.slice (Gf (fun c=>ofP (l.map Cm) c ya.toInt) ((Bh st).take i)),.int i]/\q=[])
  (fun d q=>d=[.slice (Gf (fun c=>ofP (l.map Cm) c ya.toInt) (Bh st))]/\q=[]) ?_ ?_ (Bh st).length 0 _ _ N (by omega) (by omega) ⟨rfl,rfl⟩
 ·obtain⟨d,q,⟨rfl,rfl⟩,heq⟩:=key;refine(heq _).trans ?_;simp only[AF,AO,bh,cond_true,AB]
 ·rintro i s q hi ⟨rfl,rfl⟩;refine⟨_,_,⟨rfl,rfl⟩,fun k rec=>?_⟩;obtain⟨c,hc⟩:∃c,(Bh st)[i]? =some c:=⟨_,bo hi⟩;have e1:(i:Int)<((Bh st).length:Int):=by omega
  have e2:(st.get 4).elems=Bh st:=rfl;rw[yH _ _ hc];have hs:=eR (fun c=>ofP (l.map Cm) c ya.toInt) ((Bh st).take i);rw[jh]at hs;generalize Gf (fun c=>ofP (l.map Cm) c ya.toInt) ((Bh st).take i)=out at hs ⊢;have g:(out.length+1)*112<=140737488355328/\out.length+1<=9223372036854775807:=by omega
  have rv:=fun(p b0 b2 b3 b4 b5 b6 b7 b8 b9 b10 b12 b13 b14:C) (k:KD R)=>yA (N:=N) p b0 ya b2 b3 b4 b5 b6 b7 b8 b9 b10 b12 b13 b14 l hll hN k;have w3:IntKind.i64.wrap (2+1)=3:=by decide
  have w4:IntKind.i64.wrap (2+2)=4:=by decide
  show QH N b0 ya b2 b3 b4 b5 b6 b7 b8 b9 b10 (.slice (l.map DL)) b12 b13 b14 k rec _ _=_;unfold QH Nh;rcases tD (l.map Cm) c ya.toInt with v|v|v;{simp only[AR,AG,AX,BG,bb,Ab,AO,eq_self,AE,Ae,BM,Af,BO,BP,and_self,bf,bh,Ay,AF,AH,AJ,AL,AQ,Aa,Ac,Ah,Ai,Aj,Ak,Al,Ao,Ap,Aq,Ar,Au,Av,Aw,Ax,Az,BA,BB,BC,BD,BF,bu,e1,e2,FJ hc,bz,rv,v,show ¬(0:Int)=1 by decide,show ¬(0:Int)=2 by decide,tv,Bp (show i<4611686018427387904 by omega),AB]};{simp only[AR,AG,AX,BG,bb,Ab,AO,eq_self,AE,Ae,BM,Af,BO,BP,and_self,bf,bh,Ay,AF,AH,AJ,AL,AQ,Aa,Ac,Ah,Ai,Aj,Ak,Al,Ao,Ap,Aq,Ar,Au,Av,Aw,Ax,Az,BA,BB,BC,BD,BF,bu,e1,e2,FJ hc,bz,rv,v,g,w3,show ¬(1:Int)=0 by decide,br,cg,cr,Bp (show i<4611686018427387904 by omega),AB];rfl};{simp only[AR,AG,AX,BG,bb,Ab,AO,eq_self,AE,Ae,BM,Af,BO,BP,and_self,bf,bh,Ay,AF,AH,AJ,AL,AQ,Aa,Ac,Ah,Ai,Aj,Ak,Al,Ao,Ap,Aq,Ar,Au,Av,Aw,Ax,Az,BA,BB,BC,BD,BF,bu,e1,e2,FJ hc,bz,rv,v,g,w4,show ¬(2:Int)=0 by decide,show ¬(2:Int)=1 by decide,br,cg,cr,Bp (show i<4611686018427387904 by omega),AB];rfl}
 ·rintro s q ⟨rfl,rfl⟩;refine⟨_,_,⟨rfl,rfl⟩,fun k rec=>?_⟩;have e2:(st.get 4).elems=Bh st:=rfl;show QH N b0 ya b2 b3 b4 b5 b6 b7 b8 b9 b10 (.slice (l.map DL)) b12 b13 b14 k rec _ _=_;unfold QH;simp only[AR,AG,AX,BG,bb,Ab,AO,eq_self,AE,Ae,BM,Af,BO,BP,and_self,bf,bh,Ay,AF,AH,AJ,AL,AQ,Aa,Ac,Ah,Ai,Aj,Ak,Al,Ao,Ap,Aq,Ar,Au,Av,Aw,Ax,Az,BA,BB,BC,BD,BF,bu,e2,eg,dh,AB]
end
end Go.Proofs.YteealakhniofoaaGreatDoor
