/-
 What the functions on the way compute, part 6.
 Conditions: none.
-/
import Derived.Test.YteealakhniofoaaGreatDoorKe
set_option linter.all false
noncomputable section
set_option maxRecDepth 100000
set_option maxHeartbeats 4000000
open Go.E.C renaming agg->dv,bool->df,elems->az,get->bj,int->bf,set->cm,slice->cg,toBool->dg,toInt->ar
open Go.E.Key renaming g->di,l->bz
open Go.E.O renaming box->dj,dead->fh
open Go.E.Ty renaming arr->bu,int->bm
open Go.E.V renaming agg->jj,sr->ka
open Go.IntKind renaming i64->bb,u64->ay,u8->cq,wrap->au
open Int renaming eq_ofNat_of_zero_le->oy,lt_irrefl->fj,natCast_nonneg->cf,tmod->bn,toNat->av,toNat_natCast->bc
open List renaming drop_zero->jr,length->ax,length_append->bt,length_cons->cn,length_map->fq,length_nil->cu,length_set->dp,replicate->bw,take->ek,take_length->dx,take_of_length_le->eu
open List.cons renaming injEq->qf
open Nat renaming beq_refl->bo,le_refl->bx,le_succ->ly,zero_add->bh
namespace Go.Proofs.YteealakhniofoaaGreatDoor
open Go Go.E
variable {R:Type} (N:Nat)
def q6C:List Sh:=[.as (.ptr (.g (.l 1)) [] Ba),.d (.int .i64)]
def q6E:List (Key × OSh):=[(.l 1,.box (.agg Ba [.as (.ptr (.g (.l 2)) [] BF),.as (.ptr (.g (.l 5)) [] Bo),.d (.int .u64),.d (.int .u64),.vec (.g (.l 7)) 240 AR,.vec (.g (.l 8)) 2368 tTx,.vec (.g (.l 9)) 40 AU])),(.l 2,.box (.agg BF [.vec (.g (.l 3)) 8 (.int .u64),.vec (.g (.l 4)) 8 (.int .u64),.d (.int .u64)])),(.l 3,.box (.arr (.int .u64))),(.l 4,.box (.arr (.int .u64))),(.l 5,.box (.agg Bo [.d Bf,.ts 72 Bv])),(.l 7,.box (.arr AR)),(.l 8,.box (.arr tTx)),(.l 9,.box (.arr AU))]
def cI {R:Type} (N:Nat) (a0 b0 b1 b2 b3 b4 b5 b6 b7 b8 b9 b10 b11 b12 b13 b14:C) (k1:KD R):Option R:=jn (fun d1 m1=>(k1 [df (dg (dk d1 0))] [])) (fun k2=>(bif decide (0<=ar a0)then(k2 [df (decide (ar a0<au bb ((↑(av (ar b5)):Int)-1)))] [])else(k2 [df false] [])))
def QA:=lid "" (@cI R N)
theorem uR {R N a0 b0 b1 b2 b3 b4 b5 b6 b7 b8 b9 b10 b11 b12 b13 b14 k}:@QA R N a0 b0 b1 b2 b3 b4 b5 b6 b7 b8 b9 b10 b11 b12 b13 b14 k=cI N a0 b0 b1 b2 b3 b4 b5 b6 b7 b8 b9 b10 b11 b12 b13 b14 k:=by unfold QA;rw[BQ]
def q6D:OvG R:=DA q6C q6E (fun ds ms=>QA N (dk ds 0) (dk ds 1) (dk ds 2) (dk ds 3) (dk ds 4) (dk ds 5) (dk ds 6) (dk ds 7) (dk ds 8) (dk ds 9) (dk ds 10) (dk ds 11) (dk ds 12) (dk ds 13) (dk ds 14) (dk ds 15)) fun ds ms K d1 m1=>K (V.d Ty.bool (df (dg (dk d1 0)))) []
theorem uQ:okX 45 (@q6D R N):=DF BS N [] [(45,[([0,1],⟨[0],[(4,.d .bool)],[],[],[.g (.l 1),.g (.l 2),.g (.l 3),.g (.l 4),.g (.l 5),.g (.l 7),.g (.l 8),.g (.l 9)],[(.int .u64),AR,tTx,AU]⟩),
  ([9],⟨[],[(4,.d .bool)],[],[],[.g (.l 1),.g (.l 2),.g (.l 3),.g (.l 4),.g (.l 5),.g (.l 7),.g (.l 8),.g (.l 9)],[(.int .u64),AR,tTx,AU]⟩)])] (fun _ _ _=>uR)
def cF {R:Type} (N:Nat) (a0 a1 a2 a3:C) (k1:KD R):Option R:=jn (fun d1 m1=>(bif dg (dk d1 4)then(k1 [bf 1,Du] [])else(bif !decide (Df (az (dk d1 1))=0)then(k1 [bf (Df (az (dk d1 1))),Du] [])else(k1 [bf 0,dv [dk d1 0,dk d1 2,dk d1 3,dk d1 1,AH (bu 2 (bm ay)),AH (bu 2 (bm ay)),AH (bm bb),AH (bm ay),dv [dk d1 0,AH (bm ay),AH (bu 2 (bm ay)),AH (bu 2 (bm ay)),cg []]]] [])))) (fun k2=>(bif decide (ar (bj a1 (av 0))=ar (bj a1 (av 1)))then(k2 [a0,a3,a1,a2,df true,Du] [])else(bif decide (ar (bj a2 1)<0)then(k2 [a0,a3,a1,a2,df true,Du] [])else(k2 [a0,a3,a1,a2,df (decide (8<ar (bj a2 1))),Du] []))))
def Pw:=lid "" (@cF R N)
theorem uJ {R N a0 a1 a2 a3 k}:@Pw R N a0 a1 a2 a3 k=cF N a0 a1 a2 a3 k:=by unfold Pw;rw[BQ]
def q6m:OvG R:=CA [.int .u32,.arr 2 (.int .i64),Dd,.slice 1 (.int .u8)] (fun a=>Pw N (a 0) (a 1) (a 2) (a 3)) fun a K d1 m1=>K (V.tup [V.d AR (dk d1 1),V.d (bm bb) (dk d1 0)]) []
theorem q6n:okX 92 (@q6m R N):=Cg (Ap (q6b N) <| BS) N [(92,[(0,[(5,5),(6,5)])])] [(92,[([0,0,1],(Cr [0,3,5,6,8] [(25,.d .bool)])),
  ([9],⟨[],[(8,.as (.ptr (.l 8) [] AR)),(9,.d (.int .i64))],[],[(.l 8,.box (.d AR))],[],[]⟩)])] (fun _ _=>uJ)
def q5M:List Sh:=[.as (.ptr (.g (.l 1)) [] BF),.d (.int .i64),.d (.int .u64)]
def q5P:List (Key × OSh):=[(.l 1,.box (.agg BF [.vec (.g (.l 2)) 8 (.int .u64),.vec (.g (.l 3)) 8 (.int .u64),.d (.int .u64)])),(.l 2,.box (.arr (.int .u64))),(.l 3,.box (.arr (.int .u64)))]
def bT (a0 a1 b0 b1 b2 b3 b4:C) (k1:KD R):Option R:=if ax (az b3)=ax (az b3)then(gA b4 (Ls N a0 (nI b0) (nI b1) b2 b3 b4 (fun d1 m1=>(bif !dg (dk d1 0)then(gA b3 (gA b4 (k1 [bf 1,nI b0,nI b1,b2,bf (↑(ax (az b3)):Int),b3,bf (↑(ax (az b4)):Int),b4] [])))else(if 0<=ar a0/\ar a0<(↑(av (ar b0)):Int)then(bif decide (ar (bj b3 (0+av (ar a0)))<ar a1)then(gA b3 (gA b4 (k1 [bf 12,nI b0,nI b1,b2,bf (↑(ax (az b3)):Int),b3,bf (↑(ax (az b4)):Int),b4] [])))else(if 0<=ar a0/\ar a0<(↑(av (ar b0)):Int)then(if 0<=ar a0/\ar a0<(↑(av (ar b0)):Int)then(if ax (az b3)=ax (az (cm b3 (0+av (ar a0)) (bf (au ay (ar (bj b3 (0+av (ar a0)))-ar a1)))))then(gA b4 (k1 [bf 0,nI b0,nI b1,bf (au ay (ar b2+ar a1)),bf (↑(ax (az b3)):Int),cm b3 (0+av (ar a0)) (bf (au ay (ar (bj b3 (0+av (ar a0)))-ar a1))),bf (↑(ax (az b4)):Int),b4] []))else none)else none)else none))else none)))))else none
def SW:=lid "" (@bT R N)
theorem tZ {R N a0 a1 b0 b1 b2 b3 b4 k}:@SW R N a0 a1 b0 b1 b2 b3 b4 k=bT N a0 a1 b0 b1 b2 b3 b4 k:=by unfold SW;rw[BQ]
def q5N:OvG R:=DA q5M q5P (fun ds ms=>SW N (dk ds 0) (dk ds 1) (dk ds 2) (dk ds 3) (dk ds 4) (dk ds 5) (dk ds 6)) fun ds ms K d1 m1=>K (V.d (bm bb) (dk d1 0)) [(di (bz 1),
  dj
   (jj BF
    [ka (bz 1000000000074) [] 0 (av (ar (dk d1 1))) none 8 (bm ay),
     ka (bz 1000000000106) [] 0 (av (ar (dk d1 2))) none 8 (bm ay),
     V.d (bm ay) (dk d1 3)])),
 (di (bz 2),fh (bu (av (ar (dk d1 4))) (bm ay))),
 (bz 1000000000074,dj (V.d (bu (ax (az (dk d1 5))) (bm ay)) (dk d1 5))),
 (di (bz 3),fh (bu (av (ar (dk d1 6))) (bm ay))),
 (bz 1000000000106,dj (V.d (bu (ax (az (dk d1 7))) (bm ay)) (dk d1 7)))]
theorem q5O:okX 94 (@q5N R N):=DF (Ap (bV N) <| BS) N [] [(94,[([9],⟨[],[(6,.d (.int .i64))],[.g (.l 1),.g (.l 2),.g (.l 3)],[],[],[(.int .u64)]⟩)])] (fun _ _ _=>tZ)
def q6y:List Sh:=[.as (.ptr (.g (.l 1)) [] Ba),.d tTx]
def q6B:List (Key × OSh):=[(.l 1,.box (.agg Ba [.as (.ptr (.g (.l 2)) [] BF),.as (.ptr (.g (.l 5)) [] Bo),.d (.int .u64),.d (.int .u64),.vec (.g (.l 7)) 240 AR,.vec (.g (.l 8)) 2368 tTx,.vec (.g (.l 9)) 40 AU])),(.l 2,.box (.agg BF [.vec (.g (.l 3)) 8 (.int .u64),.vec (.g (.l 4)) 8 (.int .u64),.d (.int .u64)])),(.l 3,.box (.arr (.int .u64))),(.l 4,.box (.arr (.int .u64))),(.l 5,.box (.agg Bo [.d Bf,.ts 72 Bv])),(.l 7,.box (.arr AR)),(.l 8,.box (.arr tTx)),(.l 9,.box (.arr AU))]
def Ka (a0 b0 b1 b2 b3 b4 b5 b6 b7 b8 b9 b10 b11 b12 b13 b14:C) (k1:KD R):Option R:=bif decide (16<=(↑(av (ar b2)):Int))then(gA b8 (gA b9 (gA b12 (gA b13 (gA b14 (k1 [bf 4,b10,cg (az b11),b0,b1,nI b2,nI b3,nI b4,nI b5,nI b6,b7,bf (↑(ax (az b8)):Int),b8,bf (↑(ax (az b9)):Int),b9,bf (↑(ax (az b12)):Int),b12,bf (↑(ax (az b13)):Int),b13,bf (↑(ax (az b14)):Int),b14] []))))))else(gA b8 (gA b9 (gA b12 (gA b13 (gA b14 (QA N (bj a0 4) b0 b1 (nI b2) (nI b3) (nI b4) (nI b5) (nI b6) b7 b8 b9 b10 (cg (az b11)) b12 b13 b14 (fun d1 m1=>(bif !dg (dk d1 0)then(gA b8 (gA b9 (gA b12 (gA b13 (gA b14 (k1 [bf 1,b10,cg (az b11),b0,b1,nI b2,nI b3,nI b4,nI b5,nI b6,b7,bf (↑(ax (az b8)):Int),b8,bf (↑(ax (az b9)):Int),b9,bf (↑(ax (az b12)):Int),b12,bf (↑(ax (az b13)):Int),b13,bf (↑(ax (az b14)):Int),b14] []))))))else(Pw N (bf (au IntKind.u32 (↑(av (ar b2)):Int))) (cm (cm (AH (bu 2 (bm bb))) 0 (bj a0 1)) 1 (bj a0 4)) (bj a0 8) (bj a0 9) (fun d2 m2=>(bif !decide (ar (dk d2 0)=0)then(gA b8 (gA b9 (gA b12 (gA b13 (gA b14 (k1 [dk d2 0,b10,cg (az b11),b0,b1,nI b2,nI b3,nI b4,nI b5,nI b6,b7,bf (↑(ax (az b8)):Int),b8,bf (↑(ax (az b9)):Int),b9,bf (↑(ax (az b12)):Int),b12,bf (↑(ax (az b13)):Int),b13,bf (↑(ax (az b14)):Int),b14] []))))))else(jn (fun d3 m3=>(if(av (ar (dk d3 2))+1)*240<=140737488355328/\av (ar (dk d3 2))+1<=9223372036854775807 then(gA (dk d3 9) (gA (dk d3 11) (if av (ar (dk d3 2))+1=ax (ek (av (ar (dk d3 2))) (az (dk d3 15))++[dk d3 20])then(gA (dk d3 17) (gA (dk d3 19) (k1 [bf 0,dk d3 12,cg (az (dk d3 13)),dk d3 0,dk d3 1,bf (↑(av (ar (dk d3 2))+1):Int),nI (dk d3 3),nI (dk d3 4),nI (dk d3 5),nI (dk d3 6),dk d3 7,nI (dk d3 8),dk d3 9,nI (dk d3 10),dk d3 11,nI (dk d3 14),dv (ek (av (ar (dk d3 2))) (az (dk d3 15))++[dk d3 20]),nI (dk d3 16),dk d3 17,nI (dk d3 18),dk d3 19] [])))else none)))else none)) (fun k2=>(bif decide (0<ar (bj a0 5))then(Pv N (dk d2 1) (bf 0) (bj a0 5) (fun d3 m3=>(bif !decide (ar (dk d3 0)=0)then(gA b8 (gA b9 (gA b12 (gA b13 (gA b14 (k1 [dk d3 0,b10,cg (az b11),b0,b1,nI b2,nI b3,nI b4,nI b5,nI b6,b7,bf (↑(ax (az b8)):Int),b8,bf (↑(ax (az b9)):Int),b9,bf (↑(ax (az b12)):Int),b12,bf (↑(ax (az b13)):Int),b13,bf (↑(ax (az b14)):Int),b14] []))))))else(gA b8 (gA b9 (SW N (bj a0 1) (bj a0 5) (nI b5) (nI b6) b7 b8 b9 (fun d4 m4=>(bif !decide (ar (dk d4 0)=0)then(gA (dk d4 5) (gA (dk d4 7) (gA b12 (gA b13 (gA b14 (k1 [dk d4 0,b10,cg (az b11),b0,b1,nI b2,nI b3,nI b4,nI (dk d4 1),nI (dk d4 2),dk d4 3,nI (dk d4 4),dk d4 5,nI (dk d4 6),dk d4 7,bf (↑(ax (az b12)):Int),b12,bf (↑(ax (az b13)):Int),b13,bf (↑(ax (az b14)):Int),b14] []))))))else(gA (dk d4 5) (gA (dk d4 7) (gA b12 (gA b13 (gA b14 (k2 [b0,b1,nI b2,nI b3,nI b4,nI (dk d4 1),nI (dk d4 2),dk d4 3,nI (dk d4 4),dk d4 5,nI (dk d4 6),dk d4 7,b10,cg (az b11),bf (↑(ax (az b12)):Int),b12,bf (↑(ax (az b13)):Int),b13,bf (↑(ax (az b14)):Int),b14,dk d3 1] []))))))))))))))else(gA b8 (gA b9 (gA b12 (gA b13 (gA b14 (k2 [b0,b1,nI b2,nI b3,nI b4,nI b5,nI b6,b7,bf (↑(ax (az b8)):Int),b8,bf (↑(ax (az b9)):Int),b9,b10,cg (az b11),bf (↑(ax (az b12)):Int),b12,bf (↑(ax (az b13)):Int),b13,bf (↑(ax (az b14)):Int),b14,dk d2 1] []))))))))))))))))))))
def Pz:=lid "" (@Ka R N)
theorem Lt {R N a0 b0 b1 b2 b3 b4 b5 b6 b7 b8 b9 b10 b11 b12 b13 b14 k}:@Pz R N a0 b0 b1 b2 b3 b4 b5 b6 b7 b8 b9 b10 b11 b12 b13 b14 k=Ka N a0 b0 b1 b2 b3 b4 b5 b6 b7 b8 b9 b10 b11 b12 b13 b14 k:=by unfold Pz;rw[BQ]
def q6z:OvG R:=DA q6y q6B (fun ds ms=>Pz N (dk ds 0) (dk ds 1) (dk ds 2) (dk ds 3) (dk ds 4) (dk ds 5) (dk ds 6) (dk ds 7) (dk ds 8) (dk ds 9) (dk ds 10) (dk ds 11) (dk ds 12) (dk ds 13) (dk ds 14) (dk ds 15)) fun ds ms K d1 m1=>K (V.d (bm bb) (dk d1 0)) [(di (bz 5),dj (jj Bo [V.d Bf (dk d1 1),V.ts 72 Bv (az (dk d1 2))])),
 (di (bz 1),
  dj
   (jj Ba
    [V.ptr (di (bz 2)) [] BF,V.ptr (di (bz 5)) [] Bo,V.d (bm ay) (dk d1 3),
     V.d (bm ay) (dk d1 4),
     ka (bz 1000000000234) [] 0 (av (ar (dk d1 5))) none 240 AR,
     ka (bz 1000000000266) [] 0 (av (ar (dk d1 6))) none 2368 tTx,
     ka (bz 1000000000298) [] 0 (av (ar (dk d1 7))) none 40 AU])),
 (di (bz 2),
  dj
   (jj BF
    [ka (bz 1000000000106) [] 0 (av (ar (dk d1 8))) none 8 (bm ay),
     ka (bz 1000000000138) [] 0 (av (ar (dk d1 9))) none 8 (bm ay),
     V.d (bm ay) (dk d1 10)])),
 (di (bz 3),fh (bu (av (ar (dk d1 11))) (bm ay))),
 (bz 1000000000106,dj (V.d (bu (ax (az (dk d1 12))) (bm ay)) (dk d1 12))),
 (di (bz 4),fh (bu (av (ar (dk d1 13))) (bm ay))),
 (bz 1000000000138,dj (V.d (bu (ax (az (dk d1 14))) (bm ay)) (dk d1 14))),
 (di (bz 7),fh (bu (av (ar (dk d1 15))) AR)),
 (bz 1000000000234,dj (V.d (bu (ax (az (dk d1 16))) AR) (dk d1 16))),
 (di (bz 8),fh (bu (av (ar (dk d1 17))) tTx)),
 (bz 1000000000266,dj (V.d (bu (ax (az (dk d1 18))) tTx) (dk d1 18))),
 (di (bz 9),fh (bu (av (ar (dk d1 19))) AU)),
 (bz 1000000000298,dj (V.d (bu (ax (az (dk d1 20))) AU) (dk d1 20)))]
theorem q6A:okX 75 (@q6z R N):=DF (Ap (uQ N) <| Ap (q6n N) <| Ap (q6l N) <| Ap (q5O N) <| BS) N [(75,[(0,[(3,5)]),(5,[(34,7)]),(15,[(5,6)])])] [(75,[([1,0,1,1,1,1,1],⟨[0,5],[],[.g (.l 1),.g (.l 2),.g (.l 3),.g (.l 4),.g (.l 5),.g (.l 7),.g (.l 8),.g (.l 9)],[],[],[(.int .u64),AR,tTx,AU]⟩),
  ([9],⟨[],[(4,.d (.int .i64))],[.g (.l 1),.g (.l 2),.g (.l 3),.g (.l 4),.g (.l 5),.g (.l 7),.g (.l 8),.g (.l 9)],[(.g (.l 5),.box (.agg Bo [.d Bf,.ts 72 Bv]))],[],[(.int .u64),AR,tTx,AU]⟩)])] (fun _ _ _=>Lt)
def q6r:List Sh:=[.as (.ptr (.g (.l 1)) [] Ba),.d tTx]
def q6u:List (Key × OSh):=[(.l 1,.box (.agg Ba [.as (.ptr (.g (.l 2)) [] BF),.as (.ptr (.g (.l 5)) [] Bo),.d (.int .u64),.d (.int .u64),.vec (.g (.l 7)) 240 AR,.vec (.g (.l 8)) 2368 tTx,.vec (.g (.l 9)) 40 AU])),(.l 2,.box (.agg BF [.vec (.g (.l 3)) 8 (.int .u64),.vec (.g (.l 4)) 8 (.int .u64),.d (.int .u64)])),(.l 3,.box (.arr (.int .u64))),(.l 4,.box (.arr (.int .u64))),(.l 5,.box (.agg Bo [.d Bf,.ts 72 Bv])),(.l 7,.box (.arr AR)),(.l 8,.box (.arr tTx)),(.l 9,.box (.arr AU))]
def Py (a0 b0 b1 b2 b3 b4 b5 b6 b7 b8 b9 b10 b11 b12 b13 b14:C) (k1:KD R):Option R:=if 0<=ar (bj a0 1)/\ar (bj a0 1)<(↑(av (ar b5)):Int)then(bif decide (ar (bj b8 (0+av (ar (bj a0 1))))<ar (bj a0 3))then(gA b8 (gA b9 (gA b12 (gA b13 (gA b14 (k1 [bf 23,b10,cg (az b11),b0,b1,nI b2,nI b3,nI b4,nI b5,nI b6,b7,bf (↑(ax (az b8)):Int),b8,bf (↑(ax (az b9)):Int),b9,bf (↑(ax (az b12)):Int),b12,bf (↑(ax (az b13)):Int),b13,bf (↑(ax (az b14)):Int),b14] []))))))else(gA b8 (gA b9 (SX N (bj a0 1) (bj a0 2) (nI b5) (nI b6) b7 b8 b9 (fun d1 m1=>(bif !decide (ar (dk d1 0)=0)then(gA (dk d1 5) (gA (dk d1 7) (gA b12 (gA b13 (gA b14 (k1 [dk d1 0,b10,cg (az b11),b0,b1,nI b2,nI b3,nI b4,nI (dk d1 1),nI (dk d1 2),dk d1 3,nI (dk d1 4),dk d1 5,nI (dk d1 6),dk d1 7,bf (↑(ax (az b12)):Int),b12,bf (↑(ax (az b13)):Int),b13,bf (↑(ax (az b14)):Int),b14] []))))))else(if 0<=ar (bj a0 1)/\ar (bj a0 1)<(↑(av (ar (dk d1 1))):Int)then(if 0<=ar (bj a0 1)/\ar (bj a0 1)<(↑(av (ar (dk d1 1))):Int)then(if 0<=au bb ((↑(av (ar (dk d1 1))):Int)-1)/\au bb ((↑(av (ar (dk d1 1))):Int)-1)<(↑(av (ar (dk d1 1))):Int)then(if 0<=au bb ((↑(av (ar (dk d1 1))):Int)-1)/\au bb ((↑(av (ar (dk d1 1))):Int)-1)<(↑(av (ar (dk d1 1))):Int)then(bif decide (ar (bj a0 0)=0)then(if ax (az (dk d1 5))=ax (az (cm (cm (dk d1 5) (0+av (ar (bj a0 1))) (bf (au ay (ar (bj (dk d1 5) (0+av (ar (bj a0 1))))-ar (bj a0 3))))) (0+av (au bb ((↑(av (ar (dk d1 1))):Int)-1))) (bf (au ay (ar (bj (cm (dk d1 5) (0+av (ar (bj a0 1))) (bf (au ay (ar (bj (dk d1 5) (0+av (ar (bj a0 1))))-ar (bj a0 3))))) (0+av (au bb ((↑(av (ar (dk d1 1))):Int)-1))))+ar (bj a0 3))))))then(gA (dk d1 7) (WA N (bj a0 1) (bj a0 4) (bj a0 5) (nI (dk d1 1)) (nI (dk d1 2)) (dk d1 3) (cm (cm (dk d1 5) (0+av (ar (bj a0 1))) (bf (au ay (ar (bj (dk d1 5) (0+av (ar (bj a0 1))))-ar (bj a0 3))))) (0+av (au bb ((↑(av (ar (dk d1 1))):Int)-1))) (bf (au ay (ar (bj (cm (dk d1 5) (0+av (ar (bj a0 1))) (bf (au ay (ar (bj (dk d1 5) (0+av (ar (bj a0 1))))-ar (bj a0 3))))) (0+av (au bb ((↑(av (ar (dk d1 1))):Int)-1))))+ar (bj a0 3))))) (dk d1 7) (fun d2 m2=>(gA (dk d2 5) (gA (dk d2 7) (gA b12 (gA b13 (gA b14 (k1 [dk d2 0,b10,cg (az b11),b0,b1,nI b2,nI b3,nI b4,nI (dk d2 1),nI (dk d2 2),dk d2 3,nI (dk d1 4),dk d2 5,nI (dk d1 6),dk d2 7,bf (↑(ax (az b12)):Int),b12,bf (↑(ax (az b13)):Int),b13,bf (↑(ax (az b14)):Int),b14] [])))))))))else none)else(bif decide (ar (bj a0 0)=1)then(NX N (bj a0 7) b1 b10 (cg (az b11)) C.nil (fun d2 m2=>(if ax (az (dk d1 5))=ax (az (cm (cm (dk d1 5) (0+av (ar (bj a0 1))) (bf (au ay (ar (bj (dk d1 5) (0+av (ar (bj a0 1))))-ar (bj a0 3))))) (0+av (au bb ((↑(av (ar (dk d1 1))):Int)-1))) (bf (au ay (ar (bj (cm (dk d1 5) (0+av (ar (bj a0 1))) (bf (au ay (ar (bj (dk d1 5) (0+av (ar (bj a0 1))))-ar (bj a0 3))))) (0+av (au bb ((↑(av (ar (dk d1 1))):Int)-1))))+ar (bj a0 3))))))then(gA (dk d1 7) (gA b12 (gA b13 (gA b14 (k1 [dk d2 0,dk d2 1,cg (az (dk d2 2)),b0,b1,nI b2,nI b3,nI b4,nI (dk d1 1),nI (dk d1 2),dk d1 3,nI (dk d1 4),cm (cm (dk d1 5) (0+av (ar (bj a0 1))) (bf (au ay (ar (bj (dk d1 5) (0+av (ar (bj a0 1))))-ar (bj a0 3))))) (0+av (au bb ((↑(av (ar (dk d1 1))):Int)-1))) (bf (au ay (ar (bj (cm (dk d1 5) (0+av (ar (bj a0 1))) (bf (au ay (ar (bj (dk d1 5) (0+av (ar (bj a0 1))))-ar (bj a0 3))))) (0+av (au bb ((↑(av (ar (dk d1 1))):Int)-1))))+ar (bj a0 3)))),nI (dk d1 6),dk d1 7,bf (↑(ax (az b12)):Int),b12,bf (↑(ax (az b13)):Int),b13,bf (↑(ax (az b14)):Int),b14] [])))))else none)))else(bif decide (ar (bj a0 0)=2)then(if ax (az (dk d1 5))=ax (az (cm (cm (dk d1 5) (0+av (ar (bj a0 1))) (bf (au ay (ar (bj (dk d1 5) (0+av (ar (bj a0 1))))-ar (bj a0 3))))) (0+av (au bb ((↑(av (ar (dk d1 1))):Int)-1))) (bf (au ay (ar (bj (cm (dk d1 5) (0+av (ar (bj a0 1))) (bf (au ay (ar (bj (dk d1 5) (0+av (ar (bj a0 1))))-ar (bj a0 3))))) (0+av (au bb ((↑(av (ar (dk d1 1))):Int)-1))))+ar (bj a0 3))))))then(gA (dk d1 7) (gA b12 (gA b13 (gA b14 (Pz N a0 b0 b1 (nI b2) (nI b3) (nI b4) (nI (dk d1 1)) (nI (dk d1 2)) (dk d1 3) (cm (cm (dk d1 5) (0+av (ar (bj a0 1))) (bf (au ay (ar (bj (dk d1 5) (0+av (ar (bj a0 1))))-ar (bj a0 3))))) (0+av (au bb ((↑(av (ar (dk d1 1))):Int)-1))) (bf (au ay (ar (bj (cm (dk d1 5) (0+av (ar (bj a0 1))) (bf (au ay (ar (bj (dk d1 5) (0+av (ar (bj a0 1))))-ar (bj a0 3))))) (0+av (au bb ((↑(av (ar (dk d1 1))):Int)-1))))+ar (bj a0 3))))) (dk d1 7) b10 (cg (az b11)) b12 b13 b14 (fun d2 m2=>(gA (dk d2 12) (gA (dk d2 14) (gA (dk d2 16) (gA (dk d2 18) (gA (dk d2 20) (k1 [dk d2 0,dk d2 1,cg (az (dk d2 2)),dk d2 3,dk d2 4,nI (dk d2 5),nI (dk d2 6),nI (dk d2 7),nI (dk d2 8),nI (dk d2 9),dk d2 10,nI (dk d1 4),dk d2 12,nI (dk d1 6),dk d2 14,nI (dk d2 15),dk d2 16,nI (dk d2 17),dk d2 18,nI (dk d2 19),dk d2 20] []))))))))))))else none)else(jn (fun d2 m2=>(bif dg (dk d2 1)then(gA (dk d2 10) (gA (dk d2 11) (gA (dk d2 15) (gA (dk d2 17) (gA (dk d2 19) (k1 [bf 33,dk d2 12,cg (az (dk d2 13)),dk d2 2,dk d2 3,nI (dk d2 4),nI (dk d2 5),nI (dk d2 6),nI (dk d2 7),nI (dk d2 8),dk d2 9,nI (dk d2 20),dk d2 10,nI (dk d2 21),dk d2 11,nI (dk d2 14),dk d2 15,nI (dk d2 16),dk d2 17,nI (dk d2 18),dk d2 19] []))))))else(bif decide (au ay (↑(av (ar (dk d2 4))):Int)<=au ay (ar (bj (dk d2 0) 6)))then(gA (dk d2 10) (gA (dk d2 11) (gA (dk d2 15) (gA (dk d2 17) (gA (dk d2 19) (k1 [bf 6,dk d2 12,cg (az (dk d2 13)),dk d2 2,dk d2 3,nI (dk d2 4),nI (dk d2 5),nI (dk d2 6),nI (dk d2 7),nI (dk d2 8),dk d2 9,nI (dk d2 20),dk d2 10,nI (dk d2 21),dk d2 11,nI (dk d2 14),dk d2 15,nI (dk d2 16),dk d2 17,nI (dk d2 18),dk d2 19] []))))))else none))) (fun k2=>(bif decide (ar (bj a0 0)<0)then(if ax (az (dk d1 5))=ax (az (cm (cm (dk d1 5) (0+av (ar (bj a0 1))) (bf (au ay (ar (bj (dk d1 5) (0+av (ar (bj a0 1))))-ar (bj a0 3))))) (0+av (au bb ((↑(av (ar (dk d1 1))):Int)-1))) (bf (au ay (ar (bj (cm (dk d1 5) (0+av (ar (bj a0 1))) (bf (au ay (ar (bj (dk d1 5) (0+av (ar (bj a0 1))))-ar (bj a0 3))))) (0+av (au bb ((↑(av (ar (dk d1 1))):Int)-1))))+ar (bj a0 3))))))then(gA (dk d1 7) (gA b12 (gA b13 (gA b14 (k2 [a0,df true,b0,b1,nI b2,nI b3,nI b4,nI (dk d1 1),nI (dk d1 2),dk d1 3,cm (cm (dk d1 5) (0+av (ar (bj a0 1))) (bf (au ay (ar (bj (dk d1 5) (0+av (ar (bj a0 1))))-ar (bj a0 3))))) (0+av (au bb ((↑(av (ar (dk d1 1))):Int)-1))) (bf (au ay (ar (bj (cm (dk d1 5) (0+av (ar (bj a0 1))) (bf (au ay (ar (bj (dk d1 5) (0+av (ar (bj a0 1))))-ar (bj a0 3))))) (0+av (au bb ((↑(av (ar (dk d1 1))):Int)-1))))+ar (bj a0 3)))),dk d1 7,b10,cg (az b11),bf (↑(ax (az b12)):Int),b12,bf (↑(ax (az b13)):Int),b13,bf (↑(ax (az b14)):Int),b14,nI (dk d1 4),nI (dk d1 6),nI (dk d1 4),nI (dk d1 6)] [])))))else none)else(if ax (az (dk d1 5))=ax (az (cm (cm (dk d1 5) (0+av (ar (bj a0 1))) (bf (au ay (ar (bj (dk d1 5) (0+av (ar (bj a0 1))))-ar (bj a0 3))))) (0+av (au bb ((↑(av (ar (dk d1 1))):Int)-1))) (bf (au ay (ar (bj (cm (dk d1 5) (0+av (ar (bj a0 1))) (bf (au ay (ar (bj (dk d1 5) (0+av (ar (bj a0 1))))-ar (bj a0 3))))) (0+av (au bb ((↑(av (ar (dk d1 1))):Int)-1))))+ar (bj a0 3))))))then(gA (dk d1 7) (gA b12 (gA b13 (gA b14 (k2 [a0,df (decide (7<ar (bj a0 0))),b0,b1,nI b2,nI b3,nI b4,nI (dk d1 1),nI (dk d1 2),dk d1 3,cm (cm (dk d1 5) (0+av (ar (bj a0 1))) (bf (au ay (ar (bj (dk d1 5) (0+av (ar (bj a0 1))))-ar (bj a0 3))))) (0+av (au bb ((↑(av (ar (dk d1 1))):Int)-1))) (bf (au ay (ar (bj (cm (dk d1 5) (0+av (ar (bj a0 1))) (bf (au ay (ar (bj (dk d1 5) (0+av (ar (bj a0 1))))-ar (bj a0 3))))) (0+av (au bb ((↑(av (ar (dk d1 1))):Int)-1))))+ar (bj a0 3)))),dk d1 7,b10,cg (az b11),bf (↑(ax (az b12)):Int),b12,bf (↑(ax (az b13)):Int),b13,bf (↑(ax (az b14)):Int),b14,nI (dk d1 4),nI (dk d1 6),nI (dk d1 4),nI (dk d1 6)] [])))))else none)))))))else none)else none)else none)else none)))))))else none
def Sg:=lid "" (@Py R N)
theorem Si {R N a0 b0 b1 b2 b3 b4 b5 b6 b7 b8 b9 b10 b11 b12 b13 b14 k}:@Sg R N a0 b0 b1 b2 b3 b4 b5 b6 b7 b8 b9 b10 b11 b12 b13 b14 k=Py N a0 b0 b1 b2 b3 b4 b5 b6 b7 b8 b9 b10 b11 b12 b13 b14 k:=by unfold Sg;rw[BQ]
def q6s:OvG R:=DA q6r q6u (fun ds ms=>Sg N (dk ds 0) (dk ds 1) (dk ds 2) (dk ds 3) (dk ds 4) (dk ds 5) (dk ds 6) (dk ds 7) (dk ds 8) (dk ds 9) (dk ds 10) (dk ds 11) (dk ds 12) (dk ds 13) (dk ds 14) (dk ds 15)) fun ds ms K d1 m1=>K (V.d (bm bb) (dk d1 0)) [(di (bz 5),dj (jj Bo [V.d Bf (dk d1 1),V.ts 72 Bv (az (dk d1 2))])),
 (di (bz 1),
  dj
   (jj Ba
    [V.ptr (di (bz 2)) [] BF,V.ptr (di (bz 5)) [] Bo,V.d (bm ay) (dk d1 3),
     V.d (bm ay) (dk d1 4),
     ka (bz 1000000000234) [] 0 (av (ar (dk d1 5))) none 240 AR,
     ka (bz 1000000000266) [] 0 (av (ar (dk d1 6))) none 2368 tTx,
     ka (bz 1000000000298) [] 0 (av (ar (dk d1 7))) none 40 AU])),
 (di (bz 2),
  dj
   (jj BF
    [ka (bz 1000000000106) [] 0 (av (ar (dk d1 8))) none 8 (bm ay),
     ka (bz 1000000000138) [] 0 (av (ar (dk d1 9))) none 8 (bm ay),
     V.d (bm ay) (dk d1 10)])),
 (di (bz 3),fh (bu (av (ar (dk d1 11))) (bm ay))),
 (bz 1000000000106,dj (V.d (bu (ax (az (dk d1 12))) (bm ay)) (dk d1 12))),
 (di (bz 4),fh (bu (av (ar (dk d1 13))) (bm ay))),
 (bz 1000000000138,dj (V.d (bu (ax (az (dk d1 14))) (bm ay)) (dk d1 14))),
 (di (bz 7),fh (bu (av (ar (dk d1 15))) AR)),
 (bz 1000000000234,dj (V.d (bu (ax (az (dk d1 16))) AR) (dk d1 16))),
 (di (bz 8),fh (bu (av (ar (dk d1 17))) tTx)),
 (bz 1000000000266,dj (V.d (bu (ax (az (dk d1 18))) tTx) (dk d1 18))),
 (di (bz 9),fh (bu (av (ar (dk d1 19))) AU)),
 (bz 1000000000298,dj (V.d (bu (ax (az (dk d1 20))) AU) (dk d1 20)))]
theorem q6t:okX 48 (@q6s R N):=DF (Ap (q5X N) <| Ap (q5S N) <| Ap (q58 N) <| Ap (q6A N) <| Ap (rG (f:=76) N) <| BS) N [(48,[(0,[(3,5)])])] [(48,[([0,0,1,1,1,1,1,1,1,1],⟨[0,3],[(128,.d .bool)],[.g (.l 1),.g (.l 2),.g (.l 3),.g (.l 4),.g (.l 5),.g (.l 7),.g (.l 8),.g (.l 9)],[],[],[(.int .u64),AR,tTx,AU]⟩),
  ([9],⟨[],[(4,.d (.int .i64))],[.g (.l 1),.g (.l 2),.g (.l 3),.g (.l 4),.g (.l 5),.g (.l 7),.g (.l 8),.g (.l 9)],[(.g (.l 5),.box (.agg Bo [.d Bf,.ts 72 Bv]))],[],[(.int .u64),AR,tTx,AU]⟩)])] (fun _ _ _=>Si)
def q6v:List Sh:=[.as (.ptr (.g (.l 1)) [] Ba),.d tTx]
def q6x:List (Key × OSh):=[(.l 1,.box (.agg Ba [.as (.ptr (.g (.l 2)) [] BF),.as (.ptr (.g (.l 5)) [] Bo),.d (.int .u64),.d (.int .u64),.vec (.g (.l 7)) 240 AR,.vec (.g (.l 8)) 2368 tTx,.vec (.g (.l 9)) 40 AU])),(.l 2,.box (.agg BF [.vec (.g (.l 3)) 8 (.int .u64),.vec (.g (.l 4)) 8 (.int .u64),.d (.int .u64)])),(.l 3,.box (.arr (.int .u64))),(.l 4,.box (.arr (.int .u64))),(.l 5,.box (.agg Bo [.d Bf,.ts 72 Bv])),(.l 7,.box (.arr AR)),(.l 8,.box (.arr tTx)),(.l 9,.box (.arr AU))]
def cH (a0 b0 b1 b2 b3 b4 b5 b6 b7 b8 b9 b10 b11 b12 b13 b14:C) (k1:KD R):Option R:=bif decide (64<=(↑(av (ar b3)):Int))then(gA b8 (gA b9 (gA b12 (gA b13 (gA b14 (k1 [bf 4,b10,cg (az b11),b0,b1,nI b2,nI b3,nI b4,nI b5,nI b6,b7,bf (↑(ax (az b8)):Int),b8,bf (↑(ax (az b9)):Int),b9,bf (↑(ax (az b12)):Int),b12,bf (↑(ax (az b13)):Int),b13,bf (↑(ax (az b14)):Int),b14] []))))))else(gA b8 (gA b9 (gA b12 (gA b13 (gA b14 (QA N (bj a0 1) b0 b1 (nI b2) (nI b3) (nI b4) (nI b5) (nI b6) b7 b8 b9 b10 (cg (az b11)) b12 b13 b14 (fun d1 m1=>(bif !dg (dk d1 0)then(gA b8 (gA b9 (gA b12 (gA b13 (gA b14 (k1 [bf 1,b10,cg (az b11),b0,b1,nI b2,nI b3,nI b4,nI b5,nI b6,b7,bf (↑(ax (az b8)):Int),b8,bf (↑(ax (az b9)):Int),b9,bf (↑(ax (az b12)):Int),b12,bf (↑(ax (az b13)):Int),b13,bf (↑(ax (az b14)):Int),b14] []))))))else(bif decide (ar (bj a0 3)<ar b0)then(gA b8 (gA b9 (gA b12 (gA b13 (gA b14 (k1 [bf 23,b10,cg (az b11),b0,b1,nI b2,nI b3,nI b4,nI b5,nI b6,b7,bf (↑(ax (az b8)):Int),b8,bf (↑(ax (az b9)):Int),b9,bf (↑(ax (az b12)):Int),b12,bf (↑(ax (az b13)):Int),b13,bf (↑(ax (az b14)):Int),b14] []))))))else(if(av (ar b3)+1)*2368<=140737488355328/\av (ar b3)+1<=9223372036854775807 then(gA b8 (gA b9 (gA b12 (if av (ar b3)+1=ax (ek (av (ar b3)) (az b13)++[a0])then(gA b14 (k1 [bf 0,b10,cg (az b11),b0,b1,nI b2,bf (↑(av (ar b3)+1):Int),nI b4,nI b5,nI b6,b7,bf (↑(ax (az b8)):Int),b8,bf (↑(ax (az b9)):Int),b9,bf (↑(ax (az b12)):Int),b12,bf (↑(ax (az b13)):Int),dv (ek (av (ar b3)) (az b13)++[a0]),bf (↑(ax (az b14)):Int),b14] []))else none))))else none))))))))))
def KZ:=lid "" (@cH R N)
theorem uO {R N a0 b0 b1 b2 b3 b4 b5 b6 b7 b8 b9 b10 b11 b12 b13 b14 k}:@KZ R N a0 b0 b1 b2 b3 b4 b5 b6 b7 b8 b9 b10 b11 b12 b13 b14 k=cH N a0 b0 b1 b2 b3 b4 b5 b6 b7 b8 b9 b10 b11 b12 b13 b14 k:=by unfold KZ;rw[BQ]
def uM:OvG R:=DA q6v q6x (fun ds ms=>KZ N (dk ds 0) (dk ds 1) (dk ds 2) (dk ds 3) (dk ds 4) (dk ds 5) (dk ds 6) (dk ds 7) (dk ds 8) (dk ds 9) (dk ds 10) (dk ds 11) (dk ds 12) (dk ds 13) (dk ds 14) (dk ds 15)) fun ds ms K d1 m1=>K (V.d (bm bb) (dk d1 0)) [(di (bz 5),dj (jj Bo [V.d Bf (dk d1 1),V.ts 72 Bv (az (dk d1 2))])),
 (di (bz 1),
  dj
   (jj Ba
    [V.ptr (di (bz 2)) [] BF,V.ptr (di (bz 5)) [] Bo,V.d (bm ay) (dk d1 3),
     V.d (bm ay) (dk d1 4),
     ka (bz 1000000000234) [] 0 (av (ar (dk d1 5))) none 240 AR,
     ka (bz 1000000000266) [] 0 (av (ar (dk d1 6))) none 2368 tTx,
     ka (bz 1000000000298) [] 0 (av (ar (dk d1 7))) none 40 AU])),
 (di (bz 2),
  dj
   (jj BF
    [ka (bz 1000000000106) [] 0 (av (ar (dk d1 8))) none 8 (bm ay),
     ka (bz 1000000000138) [] 0 (av (ar (dk d1 9))) none 8 (bm ay),
     V.d (bm ay) (dk d1 10)])),
 (di (bz 3),fh (bu (av (ar (dk d1 11))) (bm ay))),
 (bz 1000000000106,dj (V.d (bu (ax (az (dk d1 12))) (bm ay)) (dk d1 12))),
 (di (bz 4),fh (bu (av (ar (dk d1 13))) (bm ay))),
 (bz 1000000000138,dj (V.d (bu (ax (az (dk d1 14))) (bm ay)) (dk d1 14))),
 (di (bz 7),fh (bu (av (ar (dk d1 15))) AR)),
 (bz 1000000000234,dj (V.d (bu (ax (az (dk d1 16))) AR) (dk d1 16))),
 (di (bz 8),fh (bu (av (ar (dk d1 17))) tTx)),
 (bz 1000000000266,dj (V.d (bu (ax (az (dk d1 18))) tTx) (dk d1 18))),
 (di (bz 9),fh (bu (av (ar (dk d1 19))) AU)),
 (bz 1000000000298,dj (V.d (bu (ax (az (dk d1 20))) AU) (dk d1 20)))]
theorem q6w:okX 26 (@uM R N):=DF (Ap (uQ N) <| BS) N [(26,[(0,[(3,5)])])] [(26,[([9],⟨[],[(4,.d (.int .i64))],[.g (.l 1),.g (.l 2),.g (.l 3),.g (.l 4),.g (.l 5),.g (.l 7),.g (.l 8),.g (.l 9)],[(.g (.l 5),.box (.agg Bo [.d Bf,.ts 72 Bv]))],[],[(.int .u64),AR,tTx,AU]⟩)])] (fun _ _ _=>uO)
section
variable {R:Type} {N:Nat}
section
variable (n:Nat) (a x b1 b2 b3 b4:C) (k:KD R)
theorem vP:Ls N a (.int n) b1 b2 b3 b4 k=k [.bool (decide (inR n a))] []:=by rw[uC];unfold bW inR;simp only[AW,AG,bc,AB];by_cases h1:0<=a.toInt;{by_cases h2:a.toInt<(n:Int) <;> simp[h1,h2,AF,AZ]};{simp[h1,AF,AZ]}
theorem cW:SX N a x (.int n) (.int n) b2 b3 b4 k=k [.int (Ep n a x b4).1,.int n,.int n,b2,.int b3.elems.length,b3,.int b4.elems.length,(Ep n a x b4).2] []:=by rw[uB];unfold bU Ep;simp only[AG,AZ,bc,vP,AF,eq_self,if_true,bh,Gf,AB];by_cases h:inR n a;{have h2:0<=a.toInt/\a.toInt<(n:Int):=h;by_cases h3:(b4.get a.toInt.toNat).toInt=x.toInt;{simp only[h,h2,h3,and_self,AE,eq_self,AB]};{have h4:¬x.toInt=(b4.get a.toInt.toNat).toInt:=fun h=>h3 h.symm;simp only[h,h2,h3,h4,and_self,AE,AB]}};{simp only[h,AE]}
theorem vM:SW N a x (.int n) (.int n) b2 b3 b4 k=k [.int (DH n a x b2 b3).1,.int n,.int n,(DH n a x b2 b3).2.1,.int b3.elems.length,(DH n a x b2 b3).2.2,.int b4.elems.length,b4] []:=by rw[tZ];unfold bT DH Dp;simp only[AG,AZ,bc,vP,AF,eq_self,if_true,bh,Gf,AB];by_cases h:inR n a;{have h2:0<=a.toInt/\a.toInt<(n:Int):=h;by_cases h3:(b3.get a.toInt.toNat).toInt<x.toInt;{simp only[h,h2,h3,and_self,AE,show ¬(12:Int)=0 by decide,AB]};{simp only[h,h2,h3,and_self,AE,AB]}};{simp only[h,AE]}
end
structure MS where
 tab:C
 lst:List C
 least:C
 yc:C
 kept:C
 has:C
 ye:C
 yd:List C
 yb:List C
 evs:List C
def MS.out (s:MS) (n:Nat) (e:Int) (j:Nat->C):List C:=[.int e,s.tab,.slice s.lst,s.least,s.yc,.int s.yd.length,.int s.yb.length,.int s.evs.length,.int n,.int n,s.kept,j 0,s.has,j 1,s.ye,j 2,.agg s.yd,j 3,.agg s.yb,j 4,.agg s.evs]
def MS.JG (s:MS) (kept has ye:C):MS:={s with kept:=kept,has:=has,ye:=ye}
def MS.J (s:MS):Nat->C:=jL (.int s.has.elems.length) (.int s.ye.elems.length) (.int s.yd.length) (.int s.yb.length) (.int s.evs.length)
structure MFr (s s':MS):Prop where
 tab:s'.tab=s.tab
 least:s'.least=s.least
 yc:s'.yc=s.yc
 yb:s'.yb=s.yb
 evs:s'.evs=s.evs
 n:s.yd.length<=16->s'.yd.length<=16
 l:s'.lst.length<=s.lst.length+1
theorem MFr.refl (s:MS):MFr s s:=⟨rfl,rfl,rfl,rfl,rfl,id,ly _⟩
theorem Kl (n:Nat) (hn:n<4611686018427387904) (a b0 b1 b2 b3 b4 b6 b7 b8 b9 b10 b11 b12 b13 b14:C) (k:KD R):QA N a b0 b1 b2 b3 b4 (.int n) b6 b7 b8 b9 b10 b11 b12 b13 b14 k=k [.bool (decide (0<=a.toInt/\a.toInt<(n:Int)-1))] []:=by rw[uR];unfold cI;simp only[AW,AG,bc,Hz hn,AB];by_cases h1:0<=a.toInt;{by_cases h2:a.toInt<(n:Int)-1 <;> simp[h1,h2,AF,AZ]};{simp[h1,AF,AZ]}
theorem q6W (id:Int) (who rts:C) (ym:List C):∃(e:Int) (b:C),(∀k:KD R,Pw N (.int id) who rts (.slice ym) k=k [.int e,b] [])/\(e=0->b=mkB (.int id) who rts ym zz zz (.int 0) (.int 0) (stZ id)):=by
 have main:∀k:KD R,Pw N (.int id) who rts (.slice ym) k=if(who.get 0).toInt=(who.get 1).toInt then k [.int 1,zB] []else if(rts.get 1).toInt<0 then k [.int 1,zB] []else if 8<(rts.get 1).toInt then k [.int 1,zB] []else
   if Df ym=0 then k [.int 0,mkB (.int id) who rts ym zz zz (.int 0) (.int 0) (stZ id)] []else k [.int (Df ym),zB] []:=fun k=>by
  have t0:av 0=0:=rfl;have t1:av 1=1:=rfl;rw[uJ];unfold cF;rw[XA];simp only[AW,t0,t1,AB];by_cases h1:(who.get 0).toInt=(who.get 1).toInt;{simp only[h1,AE,AV,AZ,AB]};by_cases h2:(rts.get 1).toInt<0;{simp only[h1,h2,AE,AV,AZ,AB]};by_cases h3:8<(rts.get 1).toInt;{simp only[h1,h2,h3,AE,AV,AZ,AB]};by_cases h4:Df ym=0;{simp only[h1,h2,h3,h4,AE,AF,AJ,AL,AP,AV,AZ,AQ,bo,Bool.true_and,AB];rfl};{simp only[h1,h2,h3,h4,AE,AF,AJ,AL,AP,AV,AZ,AQ,AB]}
 by_cases h1:(who.get 0).toInt=(who.get 1).toInt;{exact⟨1,zB,fun k=>by rw[main,if_pos h1],fun h=>by omega⟩};by_cases h2:(rts.get 1).toInt<0;{exact⟨1,zB,fun k=>by rw[main,if_neg h1,if_pos h2],fun h=>by omega⟩};by_cases h3:8<(rts.get 1).toInt;{exact⟨1,zB,fun k=>by rw[main,if_neg h1,if_neg h2,if_pos h3],fun h=>by omega⟩};by_cases h4:Df ym=0;{exact⟨0,_,fun k=>by rw[main,if_neg h1,if_neg h2,if_neg h3,if_pos h4],fun _=>rfl⟩};{exact⟨_,zB,fun k=>by rw[main,if_neg h1,if_neg h2,if_neg h3,if_neg h4],fun h=>absurd h h4⟩}
structure MOp (s s':MS):Prop where
 non:s'.ye=s.ye
 l:s'.lst=s.lst
 pos:Pos s.has->Pos s'.has
theorem MOp.refl (s:MS):MOp s s:=⟨rfl,rfl,id⟩
structure TxM (n:Nat) (t:C):Prop where
 FF:TxG t
 am:W64 (t.get 5).toInt
 z69:0<=(t.get 1).toInt
 z7a:(t.get 1).toInt<(n:Int)-1
section
variable {s:MS} {n:Nat} (hn:n<4611686018427387904) {t:C} (ht:TxG t) (ha:W64 (t.get 5).toInt)
include hn ht ha
theorem q3X:∃(e:Int) (s':MS),MFr s s'/\MOp s s'/\∀k:KD R,Pz N t s.least s.yc (.int s.yd.length) (.int s.yb.length) (.int s.evs.length) (.int n) (.int n) s.kept s.has s.ye s.tab (.slice s.lst) (.agg s.yd) (.agg s.yb) (.agg s.evs) k=
  k (s'.out n e s.J) []:=by
 by_cases h1:(16:Int)<=(s.yd.length:Int);{refine⟨4,s,.refl s,.refl s,fun k=>?_⟩;rw[Lt];unfold Ka;simp only[AW,AG,AZ,BM,bc,Ac,AQ,eq_self,AE,Ag,BU,Ah,Bb,Bc,and_self,bh,bo,BD,AF,AJ,AL,AP,AV,Ab,Af,Ak,Ao,BC,Aq,Ar,Au,Av,Aw,Ax,Ay,Az,BA,BB,BG,BH,BI,BJ,BK,BL,h1,AB];rfl};by_cases h2:0<=(t.get 4).toInt/\(t.get 4).toInt<(n:Int)-1
 case neg=>
  refine⟨1,s,.refl s,.refl s,fun k=>?_⟩;rw[Lt];unfold Ka;simp only[AW,AG,AZ,BM,bc,Ac,AQ,eq_self,AE,Ag,BU,Ah,Bb,Bc,and_self,bh,bo,BD,AF,AJ,AL,AP,AV,Ab,Af,Ak,Ao,BC,Aq,Ar,Au,Av,Aw,Ax,Ay,Az,BA,BB,BG,BH,BI,BJ,BK,BL,h1,Kl n hn,h2,AB];rfl
 obtain⟨rl,hrl⟩:∃rl,t.get 9= .slice rl:=⟨_,ht.ym.1⟩;obtain⟨e1,b1,yp,z7y⟩:=q6W (R:=R) (N:=N) (IntKind.u32.wrap (s.yd.length:Int)) (cm (cm (AH (bu 2 (bm bb))) 0 (bj t 1)) 1 (bj t 4)) (t.get 8) rl;have hlen:(s.yd.length+1)*240<=140737488355328/\s.yd.length+1<=9223372036854775807:=by omega
 by_cases h5:e1=0
 case neg=>
  refine⟨e1,s,.refl s,.refl s,fun k=>?_⟩;rw[Lt];unfold Ka;simp only[AW,AG,AZ,BM,bc,Ac,AQ,eq_self,AE,Ag,BU,Ah,Bb,Bc,and_self,bh,bo,BD,AF,AJ,AL,AP,AV,Ab,Af,Ak,Ao,BC,Aq,Ar,Au,Av,Aw,Ax,Ay,Az,BA,BB,BG,BH,BI,BJ,BK,BL,h1,Kl n hn,h2,hrl,yp,h5,AB];rfl
 subst h5;have z7X:=z7y rfl;by_cases h6:0<(t.get 5).toInt
 case neg=>
  refine⟨0,{s with yd:=s.yd++[b1]},⟨rfl,rfl,rfl,rfl,rfl,fun _=>by simp;omega,ly _⟩,⟨rfl,rfl,id⟩,fun k=>?_⟩;rw[Lt];unfold Ka;simp only[AW,AG,AZ,BM,bc,Ac,AQ,eq_self,AE,Ag,BU,Ah,Bb,Bc,and_self,bh,bo,BD,AF,AJ,AL,AP,AV,Ab,Af,Ak,Ao,BC,Aq,Ar,Au,Av,Aw,Ax,Ay,Az,BA,BB,BG,BH,BI,BJ,BK,BL,h1,Kl n hn,h2,h6,hrl,yp,hlen,dx,bt,cn,cu,AB];simp[MS.out,MS.J,jL]
 have hm:∀k:KD R,Pv N b1 (.int 0) (t.get 5) k=k [.int (KP (.int (IntKind.u32.wrap (s.yd.length:Int))) (cm (cm (AH (bu 2 (bm bb))) 0 (bj t 1)) 1 (bj t 4)) (t.get 8) rl zz zz (.int 0) (.int 0) (stZ (IntKind.u32.wrap (s.yd.length:Int))) 0 (t.get 5).toInt).1,(KP (.int (IntKind.u32.wrap (s.yd.length:Int))) (cm (cm (AH (bu 2 (bm bb))) 0 (bj t 1)) 1 (bj t 4)) (t.get 8) rl zz zz (.int 0) (.int 0) (stZ (IntKind.u32.wrap (s.yd.length:Int))) 0 (t.get 5).toInt).2] []:=fun k=>by rw[z7X];exact q6V (.int 0) (t.get 5) ⟨by decide,by decide⟩ ⟨by decide,by decide⟩ ha rfl k
 generalize KP (.int (IntKind.u32.wrap (s.yd.length:Int))) (cm (cm (AH (bu 2 (bm bb))) 0 (bj t 1)) 1 (bj t 4)) (t.get 8) rl zz zz (.int 0) (.int 0) (stZ (IntKind.u32.wrap (s.yd.length:Int))) 0 (t.get 5).toInt=m at hm;by_cases h7:m.1=0
 case neg=>
  refine⟨m.1,s,.refl s,.refl s,fun k=>?_⟩;rw[Lt];unfold Ka;simp only[AW,AG,AZ,BM,bc,Ac,AQ,eq_self,AE,Ag,BU,Ah,Bb,Bc,and_self,bh,bo,BD,AF,AJ,AL,AP,AV,Ab,Af,Ak,Ao,BC,Aq,Ar,Au,Av,Aw,Ax,Ay,Az,BA,BB,BG,BH,BI,BJ,BK,BL,h1,Kl n hn,h2,h6,h7,hrl,yp,hm,AB];rfl
 by_cases h8:(DH n (t.get 1) (t.get 5) s.kept s.has).1=0
 case neg=>
  refine⟨(DH n (t.get 1) (t.get 5) s.kept s.has).1,s,.refl s,.refl s,fun k=>?_⟩;rw[Lt];unfold Ka;simp only[AW,AG,AZ,BM,bc,Ac,AQ,eq_self,AE,Ag,BU,Ah,Bb,Bc,and_self,bh,bo,BD,AF,AJ,AL,AP,AV,Ab,Af,Ak,Ao,BC,Aq,Ar,Au,Av,Aw,Ax,Ay,Az,BA,BB,BG,BH,BI,BJ,BK,BL,h1,Kl n hn,h2,h6,h7,h8,hrl,yp,hm,vM,ZD n (t.get 1) (t.get 5) s.kept s.has h8,AB];rfl
 refine⟨0,{(s.JG (DH n (t.get 1) (t.get 5) s.kept s.has).2.1 (DH n (t.get 1) (t.get 5) s.kept s.has).2.2 s.ye)with yd:=s.yd++[m.2]},⟨rfl,rfl,rfl,rfl,rfl,fun _=>by simp;omega,ly _⟩,⟨rfl,rfl,fun h=>h.Cn n (t.get 1) (t.get 5)⟩,fun k=>?_⟩;rw[Lt];unfold Ka;simp only[AW,AG,AZ,BM,bc,Ac,AQ,eq_self,AE,Ag,BU,Ah,Bb,Bc,and_self,bh,bo,BD,AF,AJ,AL,AP,AV,Ab,Af,Ak,Ao,BC,Aq,Ar,Au,Av,Aw,Ax,Ay,Az,BA,BB,BG,BH,BI,BJ,BK,BL,h1,Kl n hn,h2,h6,h7,h8,hrl,yp,hm,vM,hlen,dx,bt,cn,cu,AB];simp[MS.out,MS.JG,MS.J,jL]
end
end
section
variable {R:Type} {N:Nat}
structure ML (n:Nat) (t:C):Prop where
 z69:0<=(t.get 1).toInt
 z7a:(t.get 1).toInt<(n:Int)-1
 fee:(t.get 3).toInt=0
 sec:FL 32 (t.get 7)
def FH (n:Nat) (h:Int) (x:C × List Ent) (t:C):C × List Ent:=((Ep n (t.get 1) (t.get 2) x.1).2,if(Ep n (t.get 1) (t.get 2) x.1).1=0 then JF h t x.2 else x.2)
def Gy (n:Nat) (h:Int) (ts:List C) (x:C × List Ent):C × List Ent:=ts.foldl (FH n h) x
theorem q8p (h:Int) (t:C) (l:List Ent):(JF h t l).length<=l.length+1:=by unfold JF;split;{exact xF l (t.get 7) h};{exact ly _}
theorem q4a (n:Nat) (h:Int) (x:C × List Ent) (t:C):(FH n h x t).2.length<=x.2.length+1:=by unfold FH;dsimp only;split;{exact q8p h t x.2};{exact ly _}
theorem qV (n:Nat) (h:Int):∀(ts:List C) (x:C × List Ent),(Gy n h ts x).2.length<=x.2.length+ts.length
 | [],x=>bx _|t::ts,x=>by have h1:=qV n h ts (FH n h x t);have h2:=q4a n h x t;unfold Gy at h1 ⊢;simp only[List.foldl_cons,cn]at h1 ⊢;omega
theorem q38 (n:Nat) (h:Int) (ts:List C) (t:C) (x:C × List Ent):Gy n h (ts++[t]) x=FH n h (Gy n h ts x) t:=by unfold Gy;rw[List.foldl_append];rfl
theorem q32 {n:Nat} {t b2 b3:C} (ho:ML n t) (hp:Pos b3):(IM n (t.get 1) (t.get 3) b2 b3 (.int ((n:Int)-1))).1=0/\Pos (IM n (t.get 1) (t.get 3) b2 b3 (.int ((n:Int)-1))).2.2:=by
 have f0:=ho.z69;have f1:=ho.z7a;have r1:inR n (t.get 1):=⟨f0,by omega⟩;have r2:inR n (.int ((n:Int)-1)):=⟨by show 0<=(n:Int)-1;omega,by show(n:Int)-1<n;omega⟩;have k1:(DH n (t.get 1) (t.get 3) b2 b3).1=0:=by
  unfold DH;have:(Dp (b3.get (t.get 1).toInt.toNat).toInt (t.get 3).toInt).2=0:=by have:=hp (t.get 1).toInt.toNat;unfold Dp;rw[ho.fee,if_neg (by omega)]
  rw[if_pos r1,if_pos this]
 have k2:0<=(DH n (t.get 1) (t.get 3) b2 b3).2.1.toInt:=by
  unfold DH;have:(Dp (b3.get (t.get 1).toInt.toNat).toInt (t.get 3).toInt).2=0:=by have:=hp (t.get 1).toInt.toNat;unfold Dp;rw[ho.fee,if_neg (by omega)]
  rw[if_pos r1,if_pos this];exact QX _
 unfold IM;rw[if_pos r1,if_pos r2,if_pos k1];refine⟨?_,(hp.Cn n (t.get 1) (t.get 3)).q1w n _ _⟩;unfold Ja;have:(Dp (DH n (t.get 1) (t.get 3) b2 b3).2.1.toInt (t.get 3).toInt).2=0:=by unfold Dp;rw[ho.fee,if_neg (by omega)]
 rw[if_pos r2,if_pos this]
theorem F8 {s s1:CS} {n:Nat} {t:C} {e:Int} (h:DoR s n t s1 e) (ho:ML n t) (hp:Pos s.has) {l:List Ent} (hl:s.book=l.map EJ) (hh:s.yc= .int s.yc.toInt):
  s1.ye=(FH n s.yc.toInt (s.ye,l) t).1/\s1.book=(FH n s.yc.toInt (s.ye,l) t).2.map EJ/\Pos s1.has:=by
 have f0:=ho.z69;have f1:=ho.z7a;have r1:inR n (t.get 1):=⟨f0,by omega⟩;have hf:¬(PD n (t.get 1) s.has).toInt<(t.get 3).toInt:=by have:=hp (t.get 1).toInt.toNat;unfold PD;rw[if_pos r1,ho.fee];omega
 obtain⟨m1,m2⟩:=q32 (b2:=s.kept) ho hp;unfold DoR Gb at h;rw[if_neg hf]at h;unfold FH;dsimp only;by_cases g:(Ep n (t.get 1) (t.get 2) s.ye).1=0;{rw[if_neg (by simpa using g)]at h;rw[if_pos g];rcases h with⟨h1,_⟩|⟨_,h2⟩;{exact absurd m1 h1};{exact⟨h2.act.non,h2.book l hl ho.sec hh,h2.pos m2⟩}};{rw[if_pos (by simpa using g)]at h;rw[if_neg g];rcases h with⟨_,_,rfl⟩|⟨h1,_⟩;{exact⟨rfl,hl,hp⟩};{exact absurd h1 g}}
theorem jW {n:Nat}:∀{ts:List C} {s:CS} {outs:List C} {s1:CS} {l:List Ent},DoL n s ts outs s1->GQ s->(∀t∈ts,ML n t)->Pos s.has->s.book=l.map EJ->s.yc= .int s.yc.toInt->
  s1.ye=(Gy n s.yc.toInt ts (s.ye,l)).1/\s1.book=(Gy n s.yc.toInt ts (s.ye,l)).2.map EJ/\Pos s1.has
 | [],s,outs,s1,l,h,_,_,hp,hl,_=>by obtain⟨_,rfl⟩:=h;exact⟨rfl,hl,hp⟩
 |t::ts,s,outs,s1,l,h,hs,ht,hp,hl,hh=>by obtain⟨e,s2,o',h1,_,h2⟩:=h;obtain⟨g1,g2⟩:=h1.FF hs;obtain⟨q1,q2,q3⟩:=F8 h1 (ht t (List.mem_cons_self ..)) hp hl hh;have e1:s2.yc=s.yc:=g2.yc;have:=jW (l:=(FH n s.yc.toInt (s.ye,l) t).2) h2 ⟨g1.b,g1.n⟩ (fun x hx=>ht x (List.mem_cons_of_mem _ hx)) q3 q2 (by show s2.yc= .int s2.yc.toInt;rw[e1];exact hh);have e2:(s2.ev t e).yc=s.yc:=e1;have e3:(s2.ev t e).ye=(FH n s.yc.toInt (s.ye,l) t).1:=q1;rw[e2,e3]at this;exact this
end
section
variable {R:Type} {N:Nat}
theorem IY (x:C) (a:Int) (h0:0<=a) (h1:a<=40) (b:Bool) (hN:100<N):∃v:Int,∀k:KD R,Db N x (.int a) (.bool b) k=k [.int v] []:=by
 obtain⟨n,rfl⟩:=oy h0
 obtain⟨d,⟨p,hp,rfl⟩,h⟩:=GZ (R:=R) (F:=fun k2=>Lr N k2) n (fun i st=>∃p:Nat,st=[x,.int n,.bool b,.int p,.int i]/\1<=p/\p<=2^i) (fun d=>∃p:Nat,1<=p/\d=[x,.bool b,.int p])
  (fun i st hi hst=>by
   obtain⟨p,rfl,hp,hp2⟩:=hst;have e1:(i:Int)<(n:Int):=by omega
   have e2:2^i<=2^40:=Nat.pow_le_pow_right (by omega) (by omega);have e3:IntKind.u64.wrap ((p:Int)*2)=((p*2:Nat):Int):=by rw[wrap_u64 (by omega) (by omega)];omega
   refine⟨_,⟨p*2,rfl,by omega,by rw[Nat.pow_succ];omega⟩,fun k rec=>?_⟩;unfold Lr;simp only[AF,AJ,AL,AP,AV,AG,AZ,e1,e3,AE,CV (show i<4611686018427387904 by omega),AB])
  (fun st hst=>by
   obtain⟨p,rfl,hp,hp2⟩:=hst;refine⟨_,⟨p,hp,rfl⟩,fun k rec=>?_⟩;unfold Lr;simp only[AF,AJ,AL,AP,AV,AG,AZ,fj,AE,AB])
  (N:=N) (by omega) (st:=[x,.int n,.bool b,.int (1:Nat),.int (0:Nat)]) ⟨1,rfl,by omega,by simp⟩
 have hne:(p:Int)≠0:=by omega
 cases b
 ·refine⟨?v1,fun k=>?eq1⟩
  case eq1=>
   rw[Vz];unfold SV;simp only[AW,AZ,AB];refine(h _).trans ?_;simp only[AF,AJ,AL,AZ,AG,cond_false,AB];exact if_pos hne
 ·refine⟨?v2,fun k=>?eq2⟩
  case eq2=>
   rw[Vz];unfold SV;simp only[AW,AZ,AB];refine(h _).trans ?_;simp only[AF,AJ,AL,AZ,AG,cond_true,AB];refine(if_pos hne).trans ?_;refine(if_pos hne).trans ?_;exact if_pos hne
theorem gL (s:C) (a:Int) (h0:0<=a) (h1:8*a+8<=(s.toStr.length:Int)) (h2:a<=1000) (hN:100<N):∃v:Int,∀k:KD R,KW N s (.int a) k=k [.int v] []:=by
 obtain⟨n,rfl⟩:=oy h0;have q1:IntKind.i64.wrap (8*(n:Int))=8*n:=wrap_i64 (by omega) (by omega);have q2:IntKind.i64.wrap (8*(n:Int)+8)=8*n+8:=wrap_i64 (by omega) (by omega)
 obtain⟨d,⟨v,rfl⟩,h⟩:=GZ (R:=R) (F:=fun k2=>KV N k2) 8 (fun i st=>∃v:Int,st=[s,.int n,.int v,.int (8*n+i)]) (fun d=>∃v:Int,d=[.int v])
  (fun i st hi hst=>by
   obtain⟨v,rfl⟩:=hst;have e1:8*(n:Int)+i<8*n+8:=by omega
   have e2:0<=8*(n:Int)+i/\8*(n:Int)+i<(s.toStr.length:Int):=by omega
   have e3:IntKind.i64.wrap (8*(n:Int)+i+1)=8*n+((i+1:Nat):Int):=by rw[wrap_i64 (by omega) (by omega)];omega
   by_cases z:97<=IntKind.u64.wrap ((List.getD s.toStr (8*(n:Int)+i).toNat 0).toNat:Int)
   ·refine⟨_,⟨?x3,rfl⟩,fun k rec=>?eq3⟩
    case eq3=>
     unfold KV;simp only[AW,AF,AJ,AL,AP,AV,AG,q1,q2,e1,e3,AE,AB];rw[if_pos e2];refine(congrArg (fun b=>cond b _ _) (decide_eq_true z)).trans ?_;rfl
   ·refine⟨_,⟨?x4,rfl⟩,fun k rec=>?eq4⟩
    case eq4=>
     unfold KV;simp only[AW,AF,AJ,AL,AP,AV,AG,q1,q2,e1,e3,AE,AB];rw[if_pos e2];refine(congrArg (fun b=>cond b _ _) (decide_eq_false z)).trans ?_;rfl)
  (fun st hst=>by
   obtain⟨v,rfl⟩:=hst;refine⟨_,⟨v,rfl⟩,fun k rec=>?_⟩;unfold KV;have e:¬8*(n:Int)+((8:Nat):Int)<8*n+8:=by omega
   simp only[AF,AJ,AL,AP,AG,q1,q2,e,AE,AB])
  (N:=N) (by omega) (st:=[s,.int n,.int 0,.int (8*n+(0:Nat))]) ⟨0,rfl⟩
 refine⟨v,fun k=>?_⟩;rw[bS];unfold Vy;simp only[AW,AG,q1,AB];rw[show(8*(n:Int))=8*n+(0:Nat) by omega];exact(h _).trans rfl
theorem Wb (l:List C) (i:Nat) (x:C):cm (.agg l) i x= .agg (l.set i x):=rfl
theorem u2 (t:C) (h b:List C) (hh:h.length=8) (hb:b.length=64) (ht:(t.get 1).toStr.length=512) (hN:1000<N):∃v:List C,v.length=8/\∀k:KD R,NW N t (.slice h) (.slice b) k=k [.int 8,.agg v] []:=by
 obtain⟨d1,⟨w,hw,rfl⟩,h1⟩:=GZ (R:=R) (F:=fun k2=>Ji N k2) 64 (fun i st=>∃w:List C,w.length=i/\st=[.slice h,.slice b,t,.slice w,.int i]) (fun d=>∃w:List C,w.length=64/\d=[.slice h,t,.slice w])
  (fun i st hi hst=>by
   obtain⟨w,hw,rfl⟩:=hst;have e1:(i:Int)<64:=by omega
   have g1:(i+1)*8<=140737488355328/\i+1<=9223372036854775807:=by omega
   by_cases z:(i:Int)<16
   ·have p0:IntKind.i64.wrap (4*(i:Int))=4*i:=wrap_i64 (by omega) (by omega);have p1:IntKind.i64.wrap (4*(i:Int)+1)=4*i+1:=wrap_i64 (by omega) (by omega);have p2:IntKind.i64.wrap (4*(i:Int)+2)=4*i+2:=wrap_i64 (by omega) (by omega);have p3:IntKind.i64.wrap (4*(i:Int)+3)=4*i+3:=wrap_i64 (by omega) (by omega);have c0:0<=4*(i:Int)/\4*(i:Int)<((64:Nat):Int):=by omega
    have c1:0<=4*(i:Int)+1/\4*(i:Int)+1<((64:Nat):Int):=by omega
    have c2:0<=4*(i:Int)+2/\4*(i:Int)+2<((64:Nat):Int):=by omega
    have c3:0<=4*(i:Int)+3/\4*(i:Int)+3<((64:Nat):Int):=by omega
    refine⟨_,⟨w++[?x5],by simp[hw],rfl⟩,fun k rec=>?eq5⟩
    case eq5=>
     unfold Ji;simp only[AW,AF,AJ,AL,AP,AV,AG,AQ,e1,z,p0,p1,p2,p3,hb,c0,c1,c2,c3,hw,g1,AE,and_self,bo,bt,cn,cu,bh,CV (show i<4611686018427387904 by omega),AB];rfl
   ·have p15:IntKind.i64.wrap ((i:Int)-15)=i-15:=wrap_i64 (by omega) (by omega);have p2:IntKind.i64.wrap ((i:Int)-2)=i-2:=wrap_i64 (by omega) (by omega);have p16:IntKind.i64.wrap ((i:Int)-16)=i-16:=wrap_i64 (by omega) (by omega);have p7:IntKind.i64.wrap ((i:Int)-7)=i-7:=wrap_i64 (by omega) (by omega);have c15:0<=(i:Int)-15/\(i:Int)-15<(i:Int):=by omega
    have c2:0<=(i:Int)-2/\(i:Int)-2<(i:Int):=by omega
    have c16:0<=(i:Int)-16/\(i:Int)-16<(i:Int):=by omega
    have c7:0<=(i:Int)-7/\(i:Int)-7<(i:Int):=by omega
    obtain⟨a1,r1⟩:=IY (R:=R) (N:=N) (w.getD ((i:Int)-15).toNat .nil) 7 (by omega) (by omega) true (by omega);obtain⟨a2,r2⟩:=IY (R:=R) (N:=N) (w.getD ((i:Int)-15).toNat .nil) 18 (by omega) (by omega) true (by omega);obtain⟨a3,r3⟩:=IY (R:=R) (N:=N) (w.getD ((i:Int)-15).toNat .nil) 3 (by omega) (by omega) false (by omega);obtain⟨a4,r4⟩:=IY (R:=R) (N:=N) (w.getD ((i:Int)-2).toNat .nil) 17 (by omega) (by omega) true (by omega);obtain⟨a5,r5⟩:=IY (R:=R) (N:=N) (w.getD ((i:Int)-2).toNat .nil) 19 (by omega) (by omega) true (by omega);obtain⟨a6,r6⟩:=IY (R:=R) (N:=N) (w.getD ((i:Int)-2).toNat .nil) 10 (by omega) (by omega) false (by omega);refine⟨_,⟨w++[?x6],by simp[hw],rfl⟩,fun k rec=>?eq6⟩
    case eq6=>
     unfold Ji;simp only[AW,AF,AJ,AL,AP,AV,AG,AQ,e1,z,p15,p2,p16,p7,c15,c2,c16,c7,hw,g1,r1,r2,r3,r4,r5,r6,AE,and_self,bo,bt,cn,cu,bh,CV (show i<4611686018427387904 by omega),AB];rfl)
  (fun st hst=>by
   obtain⟨w,hw,rfl⟩:=hst;refine⟨_,⟨w,hw,rfl⟩,fun k rec=>?_⟩;unfold Ji;have e:¬((64:Nat):Int)<64:=by decide
   simp only[AF,AJ,AL,AP,AV,AG,AQ,e,AE,bo,AB])
  (N:=N) (by omega) (st:=[.slice h,.slice b,t,.slice [],.int (0:Nat)]) ⟨[],rfl,rfl⟩
 obtain⟨d2,⟨v,hv,rfl⟩,h2⟩:=GZ (R:=R) (F:=fun k2=>KU N k2) 64 (fun i st=>∃v:List C,v.length=8/\st=[.slice h,t,.int 8,.slice w,.int i,.agg v]) (fun d=>∃v:List C,v.length=8/\d=[.slice h,.int 8,.agg v])
  (fun i st hi hst=>by
   obtain⟨v,hv,rfl⟩:=hst;have e1:(i:Int)<64:=by omega
   have e0:0<=(i:Int)/\(i:Int)<((64:Nat):Int):=by omega
   have e8:av 8=8:=rfl;have q:∀a:Int,64<=a->a<=71->IntKind.i64.wrap (a-(i:Int))=a-i/\0<=bn (a-i) 8/\bn (a-i) 8<((8:Nat):Int):=fun a h1 h2=>⟨wrap_i64 (by omega) (by omega),(JH _ 8 (by omega) (by omega)).1,(JH _ 8 (by omega) (by omega)).2⟩;have q64:=q 64 (by omega) (by omega);have q65:=q 65 (by omega) (by omega);have q66:=q 66 (by omega) (by omega);have q67:=q 67 (by omega) (by omega);have q68:=q 68 (by omega) (by omega);have q69:=q 69 (by omega) (by omega);have q70:=q 70 (by omega) (by omega);have q71:=q 71 (by omega) (by omega);clear q;obtain⟨a1,r1⟩:=IY (R:=R) (N:=N) (bj (.agg v) (0+(bn (68-(i:Int)) 8).toNat)) 6 (by omega) (by omega) true (by omega);obtain⟨a2,r2⟩:=IY (R:=R) (N:=N) (bj (.agg v) (0+(bn (68-(i:Int)) 8).toNat)) 11 (by omega) (by omega) true (by omega);obtain⟨a3,r3⟩:=IY (R:=R) (N:=N) (bj (.agg v) (0+(bn (68-(i:Int)) 8).toNat)) 25 (by omega) (by omega) true (by omega);obtain⟨a4,r4⟩:=IY (R:=R) (N:=N) (bj (.agg v) (0+(bn (64-(i:Int)) 8).toNat)) 2 (by omega) (by omega) true (by omega);obtain⟨a5,r5⟩:=IY (R:=R) (N:=N) (bj (.agg v) (0+(bn (64-(i:Int)) 8).toNat)) 13 (by omega) (by omega) true (by omega);obtain⟨a6,r6⟩:=IY (R:=R) (N:=N) (bj (.agg v) (0+(bn (64-(i:Int)) 8).toNat)) 22 (by omega) (by omega) true (by omega);obtain⟨a7,r7⟩:=gL (R:=R) (N:=N) (t.get 1) i (by omega) (by omega) (by omega) (by omega);refine⟨_,⟨List.set (List.set v ?a7 ?b7) ?c7 ?d7,by simp[hv],rfl⟩,fun k rec=>?eq7⟩
   case eq7=>
    unfold KU;simp only[AF,AJ,AL,AP,AV,Ab,AG,AQ,Ac,Wb,e0,e1,e8,q64,q65,q66,q67,q68,q69,q70,q71,hw,hv,r1,r2,r3,r4,r5,r6,r7,AE,and_self,bo,dp,CV (show i<4611686018427387904 by omega),AB];rfl)
  (fun st hst=>by
   obtain⟨v,hv,rfl⟩:=hst;refine⟨_,⟨v,hv,rfl⟩,fun k rec=>?_⟩;unfold KU;have e:¬((64:Nat):Int)<64:=by decide
   simp only[AF,AJ,AL,AP,AV,Ab,AG,AQ,e,AE,AB];rfl)
  (N:=N) (by omega) (st:=[.slice h,t,.int 8,.slice w,.int (0:Nat),.agg h]) ⟨h,hh,rfl⟩
 obtain⟨d3,⟨o,ho,rfl⟩,h3⟩:=GZ (R:=R) (F:=fun k2=>Lp N k2) 8 (fun i st=>∃o:List C,o.length=i/\st=[.slice h,.int 8,.int i,.int i,.agg v,.agg o]) (fun d=>∃o:List C,o.length=8/\d=[.int 8,.agg o])
  (fun i st hi hst=>by
   obtain⟨o,ho,rfl⟩:=hst;have e1:(i:Int)<8:=by omega
   have e8:av 8=8:=rfl;have e2:0<=(i:Int)/\(i:Int)<((8:Nat):Int):=by omega
   have g1:(i+1)*8<=140737488355328/\i+1<=9223372036854775807:=by omega
   have ht:o.take i=o:=eu (by omega);refine⟨_,⟨o++[?x8],by simp[ho],rfl⟩,fun k rec=>?eq8⟩
   case eq8=>
    unfold Lp;simp only[AF,AJ,AL,AP,AV,Ab,AG,AQ,Ac,e1,e2,e8,hh,g1,ht,ho,AE,and_self,bc,bt,cn,cu,bh,CV (show i<4611686018427387904 by omega),AB];rfl)
  (fun st hst=>by
   obtain⟨o,ho,rfl⟩:=hst;refine⟨_,⟨o,ho,rfl⟩,fun k rec=>?_⟩;unfold Lp;have e:¬((8:Nat):Int)<8:=by decide
   simp only[AF,AJ,AL,AP,AV,Ab,AG,AQ,e,AE,AB];rfl)
  (N:=N) (by omega) (st:=[.slice h,.int 8,.int (0:Nat),.int (0:Nat),.agg v,.agg []]) ⟨[],rfl,rfl⟩
 refine⟨o,ho,fun k=>?_⟩;rw[bQ];unfold Vw;simp only[AW,AB];refine(h1 _).trans ?_;have ne:h.isEmpty=false:=by cases h <;> simp_all
 simp only[AF,AJ,AL,AQ,Ac,ne,hh,bo,AE,AB];refine(h2 _).trans ?_;simp only[AF,AJ,AL,AG,if_true,AB];refine(h3 _).trans ?_;simp only[AF,AJ,AL,AG,if_true,AB];rfl
end
section
variable {R:Type} {N:Nat}
def Kt (t:C):Prop:=(t.get 0).toStr.length=64/\(t.get 1).toStr.length=512
theorem zU (t:C) (ht:Kt t) (p:List C) (hp:p.length<=200000) (hN:300000<N):∃c,Dig c/\∀k:KD R,NV N t (.slice p) k=k [c] []:=by
 have e8:av 8=8:=rfl
 obtain⟨d5,⟨b,hb1,hb2,rfl⟩,h5⟩:=LZ (R:=R) (F:=fun k2=>Ln N k2)
  (fun n st=>∃b:List C,n=(120-b.length%64)%64/\b.length+n<=200100/\st=[.slice p,t,.slice b,AH (.arr 32 (.int .u8))]) (fun d=>∃b:List C,b.length%64=56/\b.length<=200100/\d=[.slice p,t,.slice b,AH (.arr 32 (.int .u8))])
  (fun n st hst=>by
   obtain⟨b,hn,hb,rfl⟩:=hst;have em:bn (b.length:Int) 64=(b.length:Int)%64:=Int.tmod_eq_emod_of_nonneg (by omega);have g1:(b.length+1)*1<=140737488355328/\b.length+1<=9223372036854775807:=by omega
   by_cases z:b.length%64=56
   ·have z':(b.length:Int)%64=56:=by omega
    refine .inr ⟨_,⟨b,z,by omega,rfl⟩,fun k rec=>?_⟩;unfold Ln;simp only[AF,AJ,AL,AP,AQ,em,z',AE,bo]
   ·have z':¬(b.length:Int)%64=56:=by omega
    refine .inl ⟨_,n-1,by omega,⟨b++[bf 0],by simp;omega,by simp;omega,rfl⟩,fun k rec=>?_⟩;unfold Ln;simp only[AF,AJ,AL,AP,AQ,em,z',g1,AE,bo,and_self,bt,cn,cu,bh,AB])
  64 ((120-(p.length+1)%64)%64) [.slice p,t,.slice (p++[bf 128]),AH (.arr 32 (.int .u8))] N (by omega) ⟨p++[bf 128],by simp,by simp;omega,rfl⟩ (by omega)
 obtain⟨d4,⟨e,he,rfl⟩,h4⟩:=LZ (R:=R) (F:=fun k2=>KT N k2)
  (fun n st=>∃(e:List C) (x:Int),e.length=8/\n<=8/\st=[t,.int 0,.int (8:Nat),.int (8:Nat),.slice b,.int x,.int ((n:Int)-1),AH (.arr 32 (.int .u8)),.agg e]) (fun d=>∃e:List C,e.length=8/\d=[t,.int (0:Nat),.int (8:Nat),.int (8:Nat),.slice b,AH (.arr 32 (.int .u8)),.agg e])
  (fun n st hst=>by
   obtain⟨e,x,he,hn,rfl⟩:=hst;by_cases z:n=0
   ·have z':¬0<=(n:Int)-1:=by omega
    refine .inr ⟨_,⟨e,he,rfl⟩,fun k rec=>?_⟩;unfold KT;simp only[AF,AJ,AL,AP,AV,Ab,Af,Ak,Ao,AQ,AG,z',AE,bo,bc,Int.toNat_zero,AB]
   ·have z':0<=(n:Int)-1:=by omega
    have c1:0<=(n:Int)-1/\(n:Int)-1<((8:Nat):Int):=by omega
    have w1:IntKind.i64.wrap ((n:Int)-1-1)=((n-1:Nat):Int)-1:=by rw[wrap_i64 (by omega) (by omega)];omega
    refine .inl ⟨_,n-1,by omega,⟨e.set ?i1 ?v1,?x1,by simp[he],by omega,rfl⟩,fun k rec=>?eq1⟩
    case eq1=>
     unfold KT;simp only[AF,AJ,AL,AP,AV,Ab,Af,Ak,Ao,AQ,AG,c1,w1,Wb,AE,bo,and_self,bc,AB];rfl)
  8 8 [t,.int 0,.int (8:Nat),.int (8:Nat),.slice b,bf (au ay (au ay (p.length:Int)*8)),.int (((8:Nat):Int)-1),AH (.arr 32 (.int .u8)),dv (bw 8 (AH (bm cq)))] N (bx _) ⟨_,_,by simp,bx _,rfl⟩ (by omega)
 have te:ek 8 (List.drop 0 e)=e:=by rw[jr];exact eu (by omega)
 have hbl:(b++e).length%64=0:=by simp;omega
 have hbl2:(b++e).length<=200200:=by simp;omega
 generalize hb3:b++e=b3 at*
 obtain⟨d3,⟨h,hh,rfl⟩,h3⟩:=GZ (R:=R) (F:=fun k2=>Lm N k2) 8
  (fun i st=>∃h:List C,h.length=8/\st=[t,.slice b3,.int (8:Nat),.int i,AH (.arr 32 (.int .u8)),.agg h]) (fun d=>∃h:List C,h.length=8/\d=[t,.slice b3,.int (8:Nat),AH (.arr 32 (.int .u8)),.agg h])
  (fun i st hi hst=>by
   obtain⟨h,hh,rfl⟩:=hst;have e1:(i:Int)<8:=by omega
   have c1:0<=(i:Int)/\(i:Int)<((8:Nat):Int):=by omega
   obtain⟨v,hv⟩:=gL (R:=R) (N:=N) (t.get 0) i (by omega) (by have:=ht.1;omega) (by omega) (by omega);refine⟨_,⟨h.set (0+i) (.int v),by simp[hh],rfl⟩,fun k rec=>?_⟩;unfold Lm;simp only[AF,AJ,AL,AP,AV,Ab,AQ,AG,Ac,e1,c1,hv,Wb,AE,bo,and_self,bc,dp,CV (show i<4611686018427387904 by omega),AB])
  (fun st hst=>by
   obtain⟨h,hh,rfl⟩:=hst;refine⟨_,⟨h,hh,rfl⟩,fun k rec=>?_⟩;unfold Lm;have e:¬((8:Nat):Int)<8:=by decide
   simp only[AF,AJ,AL,AP,AV,Ab,AQ,AG,e,AE,bo,bc,AB])
  (N:=N) (by omega) (st:=[t,.slice b3,.int (8:Nat),.int (0:Nat),AH (.arr 32 (.int .u8)),dv (bw 8 (AH (bm ay)))]) ⟨_,by simp,rfl⟩
 obtain⟨d2,⟨v,hv,rfl⟩,h2⟩:=LZ (R:=R) (F:=fun k2=>NU N k2)
  (fun n st=>∃(b h:List C),b.length=n/\n%64=0/\h.length=8/\st=[t,.slice b,.int (8:Nat),AH (.arr 32 (.int .u8)),.agg h]) (fun d=>∃h:List C,h.length=8/\d=[.int (8:Nat),AH (.arr 32 (.int .u8)),.agg h])
  (fun n st hst=>by
   obtain⟨b,h,hb,hn,hh,rfl⟩:=hst;by_cases z:n=0
   ·have z':¬0<(b.length:Int):=by omega
    refine .inr ⟨_,⟨h,hh,rfl⟩,fun k rec=>?_⟩;unfold NU;simp only[AF,AJ,AL,AP,AV,AQ,AG,z',AE,bc,AB]
   ·have z':0<(b.length:Int):=by omega
    have c1:64<=(b.length:Int):=by omega
    have c2:Int.ofNat 0<=0/\Int.ofNat 0<=64/\64<=(b.length:Int):=⟨by decide,by decide,c1⟩;have th:ek 8 (List.drop 0 h)=h:=by rw[jr];exact eu (by omega)
    obtain⟨v,hv,hbl⟩:=u2 (R:=R) (N:=N) t h (cut b 0 64) hh (by simp[cut];omega) ht.2 (by omega);refine .inl ⟨_,(cut b 64 (b.length:Int)).length,by simp[cut];omega,⟨cut b 64 (b.length:Int),v,rfl,by simp[cut];omega,hv,rfl⟩,fun k rec=>?_⟩;unfold NU;simp only[AF,AJ,AL,AP,AV,AQ,AG,Ac,z',c2,c1,th,hbl,AE,and_self,bc,Int.le_refl,AB];rfl)
  b3.length b3.length [t,.slice b3,.int (8:Nat),AH (.arr 32 (.int .u8)),.agg h] N (bx _) ⟨b3,h,rfl,hbl,hh,rfl⟩ (by omega)
 obtain⟨d1,⟨c,hc,rfl⟩,h1⟩:=LZ (R:=R) (F:=fun k2=>Ll N k2)
  (fun n st=>∃(c h:List C),c.length=32/\h.length=8/\n<=32/\st=[.int (8:Nat),.int ((n:Int)-1),AH (.arr 32 (.int .u8)),.agg c,.agg h]) (fun d=>∃c:List C,c.length=32/\d=[AH (.arr 32 (.int .u8)),.agg c])
  (fun n st hst=>by
   obtain⟨c,h,hc,hh,hn,rfl⟩:=hst;by_cases z:n=0
   ·have z':¬0<=(n:Int)-1:=by omega
    refine .inr ⟨_,⟨c,hc,rfl⟩,fun k rec=>?_⟩;unfold Ll;simp only[AF,AJ,AL,AP,AV,AG,z',AE,AB]
   ·have z':0<=(n:Int)-1:=by omega
    have z2:(n:Int)-1<32:=by omega
    have q:Int.tdiv ((n:Int)-1) 4=((n:Int)-1) / 4:=Int.tdiv_eq_ediv_of_nonneg z';have q2:IntKind.i64.wrap (((n:Int)-1) / 4)=((n:Int)-1) / 4:=wrap_i64 (by omega) (by omega);have c1:0<=((n:Int)-1) / 4/\((n:Int)-1) / 4<((8:Nat):Int):=by omega
    have w1:IntKind.i64.wrap ((n:Int)-1-1)=((n-1:Nat):Int)-1:=by rw[wrap_i64 (by omega) (by omega)];omega
    refine .inl ⟨_,n-1,by omega,⟨c.set ?i2 ?v2,h.set ?j2 ?w2,by simp[hc],by simp[hh],by omega,rfl⟩,fun k rec=>?eq2⟩
    case eq2=>
     unfold Ll;simp only[AF,AJ,AL,AP,AV,AG,Ac,z',z2,q,q2,c1,w1,Wb,AE,and_self,bc,dp,AB];rfl)
  32 32 [.int (8:Nat),.int (((32:Nat):Int)-1),AH (.arr 32 (.int .u8)),AH (.arr 32 (.int .u8)),.agg v] N (bx _) ⟨bw 32 (.int 0),v,by simp,hv,bx _,rfl⟩ (by omega)
 refine⟨.agg c,⟨c,rfl,hc⟩,fun k=>?_⟩;rw[bP];unfold Vv;have g1:(p.length+1)*1<=140737488355328/\p.length+1<=9223372036854775807:=by omega
 have g2:(b.length+8)*1<=140737488355328/\b.length+8<=9223372036854775807:=by omega
 simp only[AW,AQ,bo,AE,g1,and_self,bt,cn,cu,bh,AB];refine(h5 _).trans ?_;simp only[AF,AJ,AL,AP,AQ,bo,cond_true,e8];refine(h4 _).trans ?_;simp only[AF,AJ,AL,AP,AV,Ab,Af,AQ,Ac,AG,bo,AE,bc,te,he,g2,and_self,hb3,bt,AB];refine(h3 _).trans ?_;simp only[AF,AJ,AL,AP,AV,Ab,AQ,AG,bo,AE,bc,AB];refine(h2 _).trans ?_;simp only[AF,AJ,AL,AG,bc,if_true,AB];refine(h1 _).trans ?_;rfl
end
section
variable {R:Type} {N:Nat}
def fL (B:Nat) (l:List C):Prop:=∀x∈l,∃y:List C,x= .slice y/\y.length<=B
theorem zX (a0:C) (l:List C) (B:Nat) (hb:fL B l) (hB:B<=1000000) (hl:l.length<=100) (hN:1000<N):∃o:List C,o.length<=2+l.length*(B+4)/\∀k:KD R,Pt N a0 (.slice l) k=k [.slice o] []:=by
 obtain⟨d,⟨o,ho,rfl⟩,h⟩:=GZ (R:=R) (F:=fun k2=>Lq N k2) l.length (fun i st=>∃o:List C,o.length<=2+i*(B+4)/\st=[.slice l,.slice o,.int i]) (fun d=>∃o:List C,o.length<=2+l.length*(B+4)/\d=[.slice o])
  (fun i st hi hst=>by
   obtain⟨o,ho,rfl⟩:=hst;have e1:(i:Int)<(l.length:Int):=by omega
   obtain⟨y,hy,hyl⟩:=hb _ (Ez hi);have m1:i*(B+4)<=100*(B+4):=Nat.mul_le_mul_right _ (by omega);have g1:(o.length+4)*1<=140737488355328/\o.length+4<=9223372036854775807:=by omega
   have g2:(o.length+4+y.length)*1<=140737488355328/\o.length+4+y.length<=9223372036854775807:=by omega
   refine⟨_,⟨o++[?a1,?b1,?c1,?d1]++y,by simp[Nat.succ_mul];omega,rfl⟩,fun k rec=>?eq1⟩
   case eq1=>
    unfold Lq;simp only[AF,AJ,AL,AG,AQ,e1,hy,g1,g2,AE,cf,and_self,bc,bo,bt,cn,cu,bh,Nat.reduceAdd,CV (show i<4611686018427387904 by omega),AB];rfl)
  (fun st hst=>by
   obtain⟨o,ho,rfl⟩:=hst;refine⟨_,⟨o,ho,rfl⟩,fun k rec=>?_⟩;unfold Lq;simp only[AF,AJ,AL,AG,AQ,fj,AE,bo,AB])
  (N:=N) (by omega) (st:=[.slice l,.slice [a0,bf (au cq (l.length:Int))],.int (0:Nat)]) ⟨_,by simp,rfl⟩
 refine⟨o,ho,fun k=>?_⟩;rw[bR];unfold Vx;simp only[AW,AQ,AB];refine(h _).trans ?_;simp only[AF,AQ,bo,cond_true]
section
variable {t:C} (hOf:∀(p:List C),p.length<=200000->∃c,Dig c/\∀k:KD R,NV N t (.slice p) k=k [c] [])
include hOf
theorem q5r (a0:C) (l:List C) (B:Nat) (hb:fL B l) (hB:B<=1100) (hl:l.length<=100) (hN:1000<N):∃c,Dig c/\∀k:KD R,Pr N t a0 (.slice l) k=k [c] []:=by obtain⟨o,ho,h1⟩:=zX (R:=R) (N:=N) a0 l B hb (by omega) hl hN;have m1:l.length*(B+4)<=100*1104:=Nat.mul_le_mul hl (by omega);obtain⟨c,hc,h2⟩:=hOf o (by omega);refine⟨c,hc,fun k=>?_⟩;rw[bM];unfold Vt;simp only[h1,AF,AQ,h2]
end
end
section
variable {R:Type} {N:Nat}
theorem q6U (t:C) (ht:Kt t) (s:C) (hN:300000<N):∃c,∀k:KD R,Ps N t s k=k [c] []:=by have hOf:=fun p hp=>zU (R:=R) (N:=N) t ht p hp hN;obtain⟨c,_,h⟩:=q5r (R:=R) (N:=N) hOf (.int 6) [cg (cut (az s) 0 32)] 100 (fun x hx=>⟨_,List.mem_singleton.1 hx,by simp[cut];omega⟩) (by decide) (by simp) (by omega);refine⟨c,fun k=>?_⟩;rw[bO];unfold Vu;simp only[h,AF]
def YZ (x:C) (l:List C):Int:=match CQ (fun(i:Nat) (_:Unit) (d:C)=>if C.beq (bj d 0) x=true then(.inr i:Unit ⊕ Nat)else .inl ()) 0 () l with| .inl _=>-1| .inr i=>(i:Int)
theorem q6R (x:C) (l:List C) (hl:l.length<4611686018427387904) (hN:l.length<N) (a c:C):∃v:Int,∀k:KD R,Pu N x a (.slice l) c k=k [.int v] []:=by
 have key:∀(k k2:KD R),(k2=fun _ _=>k [.int (-1)] [])->BO N (KX N (.slice l) k k2) [x,.int (0:Nat)] []=k [.int (YZ x l)] []:=by
  intro k k2 hk2;refine(LY (F:=KX N (.slice l) k k2) (fun i (_:Unit)=>[x,.int i]) (fun _ _=>[]) l (fun(i:Nat) (_:Unit) (d:C)=>if C.beq (bj d 0) x=true then(.inr i:Unit ⊕ Nat)else .inl ()) (fun _=>k [.int (-1)] []) (fun i=>k [.int (i:Nat)] []) (s0:=()) ?_ ?_ hN).trans ?_
  ·intro i _ d hx hi rec;have h1:(i:Int)<(l.length:Int):=by omega
   unfold KX;simp only[AF,AJ,AG,AQ,h1,Fo hx,cf,and_self,AE,bc,CV (show i<4611686018427387904 by omega),AB];cases C.beq (bj d 0) x <;> rfl
  ·intro _ rec;unfold KX;simp only[AF,AJ,AG,AQ,fj,AE,hk2,AB]
  ·unfold YZ;cases CQ (fun(i:Nat) (_:Unit) (d:C)=>if C.beq (bj d 0) x=true then(.inr i:Unit ⊕ Nat)else .inl ()) 0 () l <;> rfl
 refine⟨YZ x l,fun k=>?_⟩;rw[bX];unfold WB;rw[AW];exact key k _ rfl
theorem q7a (s yc tab b1:C) (ht:Kt tab) (l:List C) (hl:l.length<=100000) (hN:300000<N):∃(e:Int) (l':List C),l'.length<=l.length+1/\∀k:KD R,NX N s yc tab (.slice l) b1 k=k [.int e,tab,.slice l'] []:=by
 obtain⟨c,hc⟩:=q6U (R:=R) (N:=N) tab ht s hN;obtain⟨v,hv⟩:=q6R (R:=R) (N:=N) c l (by omega) (by omega) tab .nil;by_cases h:0<=v;{refine⟨7,l,ly _,fun k=>?_⟩;rw[WC];unfold SY;simp only[AW,AG,AZ,BM,bc,Ac,AQ,eq_self,AE,Ag,BU,Ah,Bb,Bc,and_self,bh,bo,BD,AF,AJ,AL,AP,AV,Ab,Af,Ak,Ao,BC,Aq,Ar,Au,Av,Aw,Ax,Ay,Az,BA,BB,BG,BH,BI,BJ,BK,BL,hc,hv,h,AB]}
 ·have g:(l.length+1)*72<=140737488355328/\l.length+1<=9223372036854775807:=by omega
  refine⟨0,l++[cm (cm (cm (dv [dv (bw 32 (bf 0)),dv (bw 32 (bf 0)),bf 0]) 0 c) 1 s) 2 yc],by simp,fun k=>?_⟩;rw[WC];unfold SY;simp only[AW,AG,AZ,BM,bc,Ac,AQ,eq_self,AE,Ag,BU,Ah,Bb,Bc,and_self,bh,bo,BD,AF,AJ,AL,AP,AV,Ab,Af,Ak,Ao,BC,Aq,Ar,Au,Av,Aw,Ax,Ay,Az,BA,BB,BG,BH,BI,BJ,BK,BL,hc,hv,h,g,bt,cn,cu,AB]
def Mk (s:MS) (n:Nat) (t:C):C:=cm (cm s.has (t.get 1).toInt.toNat (.int (IntKind.u64.wrap ((s.has.get (t.get 1).toInt.toNat).toInt-(t.get 3).toInt)))) ((n:Int)-1).toNat (.int (IntKind.u64.wrap (((cm s.has (t.get 1).toInt.toNat (.int (IntKind.u64.wrap ((s.has.get (t.get 1).toInt.toNat).toInt-(t.get 3).toInt)))).get ((n:Int)-1).toNat).toInt+(t.get 3).toInt)))
theorem q04 (s:MS) (n:Nat) (t:C):(Mk s n t).elems.length=s.has.elems.length:=by unfold Mk;rw[Gf,Gf]
theorem lS {s:MS} (h:Pos s.has) (n:Nat) (t:C):Pos (Mk s n t):=by unfold Mk;exact(h.set (v:=.int _) (QX _) _).set (v:=.int _) (QX _) _
theorem q0V {x y:Ent} (h:EI x=EI y):x=y:=by obtain⟨a,b,c⟩:=x;obtain⟨a',b',c'⟩:=y;simp only[EI,C.agg.injEq,qf,C.int.injEq,and_true]at h;obtain⟨rfl,rfl,rfl⟩:=h;rfl
theorem q3b {l m:List Ent} (h:l.map EI=m.map EI):l=m:=by
 induction l generalizing m with
 |nil=>cases m <;> first|rfl|cases h
 |cons x l ih=>
  cases m with
  |nil=>cases h
  |cons y m=>
   simp only[List.map_cons,qf]at h;rw[q0V h.1,ih h.2]
def MDo (s:MS) (n:Nat) (t:C) (s':MS):Prop:=∀l:List Ent,ML n t->s.lst=l.map EI->Pos s.has->s.yc= .int s.yc.toInt->Fz s.tab->l.length<=1000->
 s'.ye=(FH n s.yc.toInt (s.ye,l) t).1/\s'.lst=(FH n s.yc.toInt (s.ye,l) t).2.map EI/\Pos s'.has
theorem q3k {s:MS} (hs:s.lst.length<=100000) (z7j:Kt s.tab) {n:Nat} (hn:n<4611686018427387904) {t:C} (ht:TxM n t) (hN:300000<N):∃(e:Int) (s':MS),MFr s s'/\MDo s n t s'/\∀k:KD R,Sg N t s.least s.yc (.int s.yd.length) (.int s.yb.length) (.int s.evs.length) (.int n) (.int n) s.kept s.has s.ye s.tab (.slice s.lst) (.agg s.yd) (.agg s.yb) (.agg s.evs) k=
  k (s'.out n e s.J) []:=by
 have f0:=ht.z69;have f1:=ht.z7a;have r:0<=(t.get 1).toInt/\(t.get 1).toInt<(n:Int):=by omega
 have rl:0<=(n:Int)-1/\(n:Int)-1<(n:Int):=by omega
 by_cases h1:(s.has.get (t.get 1).toInt.toNat).toInt<(t.get 3).toInt;{refine⟨23,s,.refl s,(fun l ho _ hp _ _ _=>by have:=hp (t.get 1).toInt.toNat;have:=ho.fee;omega),fun k=>?_⟩;rw[Si];unfold Py;simp only[AW,AG,AZ,BM,bc,Ac,AQ,eq_self,AE,Ag,BU,Ah,Bb,Bc,and_self,bh,bo,BD,AF,AJ,AL,AP,AV,Ab,Af,Ak,Ao,BC,Aq,Ar,Au,Av,Aw,Ax,Ay,Az,BA,BB,BG,BH,BI,BJ,BK,BL,r,h1,AB];rfl};by_cases h2:(Ep n (t.get 1) (t.get 2) s.ye).1=0
 case neg=>
  refine⟨(Ep n (t.get 1) (t.get 2) s.ye).1,s.JG s.kept s.has (Ep n (t.get 1) (t.get 2) s.ye).2,⟨rfl,rfl,rfl,rfl,rfl,id,ly _⟩,(fun l ho hl hp _ _ _=>by unfold FH;dsimp only;rw[if_neg h2];exact⟨rfl,hl,hp⟩),fun k=>?_⟩;rw[Si];unfold Py;simp only[AW,AG,AZ,BM,bc,Ac,AQ,eq_self,AE,Ag,BU,Ah,Bb,Bc,and_self,bh,bo,BD,AF,AJ,AL,AP,AV,Ab,Af,Ak,Ao,BC,Aq,Ar,Au,Av,Aw,Ax,Ay,Az,BA,BB,BG,BH,BI,BJ,BK,BL,r,h1,cW,h2,AB];rfl
 have hfl:=q04 s n t;rcases ht.FF.kind with hk|hk
 ·obtain⟨e,l',hl,hbk,hq⟩:∃(e:Int) (l':List C),l'.length<=s.lst.length+1/\(∀l:List Ent,s.lst=l.map EI->FL 32 (t.get 7)->s.yc= .int s.yc.toInt->Fz s.tab->l.length<=1000->l'=(JF s.yc.toInt t l).map EI)/\∀k:KD R,NX N (t.get 7) s.yc s.tab (.slice s.lst) .nil k=k [.int e,s.tab,.slice l'] []:=by by_cases g:∃l:List Ent,s.lst=l.map EI/\FL 32 (t.get 7)/\s.yc= .int s.yc.toInt/\Fz s.tab/\l.length<=1000;{obtain⟨l,g1,g2,g3,g4,g5⟩:=g;refine⟨_,(Jl l (t.get 7) s.yc.toInt).2.map EI,?_,fun l' h1' _ _ _ _=>?_,fun k=>by rw[g1];exact q63 (t.get 7) g2 s.yc g3 s.tab g4 l g5 (by omega) .nil k⟩;{rw[g1,fq,fq];exact xF l _ _};{have:l'=l:=q3b (h1'.symm.trans g1);subst this;unfold JF;rw[if_pos hk]}};{obtain⟨e,l',hl,hq⟩:=q7a (R:=R) (N:=N) (t.get 7) s.yc s.tab .nil z7j s.lst hs hN;exact⟨e,l',hl,fun l h1 h2 h3 h4 h5=>absurd ⟨l,h1,h2,h3,h4,h5⟩ g,hq⟩}
  refine⟨e,{(s.JG s.kept (Mk s n t) (Ep n (t.get 1) (t.get 2) s.ye).2)with lst:=l'},⟨rfl,rfl,rfl,rfl,rfl,id,hl⟩,(fun l ho hl hp hh hT hn=>by unfold FH;dsimp only;rw[if_pos h2];exact⟨rfl,hbk l hl ho.sec hh hT hn,lS hp n t⟩),fun k=>?_⟩;rw[Si];unfold Py;simp only[AW,AG,AZ,BM,bc,Ac,AQ,eq_self,AE,Ag,BU,Ah,Bb,Bc,and_self,bh,bo,BD,AF,AJ,AL,AP,AV,Ab,Af,Ak,Ao,BC,Aq,Ar,Au,Av,Aw,Ax,Ay,Az,BA,BB,BG,BH,BI,BJ,BK,BL,r,rl,h1,cW,h2,Hz hn,hk,hq,Gf,show ¬(1:Int)=0 by decide,AB];rfl
 ·obtain⟨e,s',hf,hop,hq⟩:=q3X (R:=R) (N:=N) (s:=s.JG s.kept (Mk s n t) (Ep n (t.get 1) (t.get 2) s.ye).2) hn ht.FF ht.am;have hq':∀k:KD R,Pz N t s.least s.yc (.int s.yd.length) (.int s.yb.length) (.int s.evs.length) (.int n) (.int n) s.kept (Mk s n t) (Ep n (t.get 1) (t.get 2) s.ye).2 s.tab (.slice s.lst) (.agg s.yd) (.agg s.yb) (.agg s.evs) k=_:=hq;refine⟨e,s',⟨hf.tab,hf.least,hf.yc,hf.yb,hf.evs,hf.n,hf.l⟩,(fun l ho hl hp hh hT hn=>by unfold FH JF;dsimp only;rw[if_pos h2,if_neg (by omega)];exact⟨hop.non,hop.l.trans hl,hop.pos (lS hp n t)⟩),fun k=>?_⟩;rw[Si];unfold Py;simp only[AW,AG,AZ,BM,bc,Ac,AQ,eq_self,AE,Ag,BU,Ah,Bb,Bc,and_self,bh,bo,BD,AF,AJ,AL,AP,AV,Ab,Af,Ak,Ao,BC,Aq,Ar,Au,Av,Aw,Ax,Ay,Az,BA,BB,BG,BH,BI,BJ,BK,BL,r,rl,h1,cW,h2,Hz hn,hk,Gf,show ¬(2:Int)=0 by decide,show ¬(2:Int)=1 by decide,AB];refine(hq' _).trans ?_;simp only[AW,AG,AZ,BM,bc,Ac,AQ,eq_self,AE,Ag,BU,Ah,Bb,Bc,and_self,bh,bo,BD,AF,AJ,AL,AP,AV,Ab,Af,Ak,Ao,BC,Aq,Ar,Au,Av,Aw,Ax,Ay,Az,BA,BB,BG,BH,BI,BJ,BK,BL,MS.out,MS.J,jL,AB]
  rfl
end
end Go.Proofs.YteealakhniofoaaGreatDoor
