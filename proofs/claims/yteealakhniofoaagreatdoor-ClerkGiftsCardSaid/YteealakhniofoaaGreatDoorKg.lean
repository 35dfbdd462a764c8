/-
 What the functions on the way compute, part 7.
 Conditions: none.
-/
import Derived.Test.YteealakhniofoaaGreatDoorKf
set_option linter.all false
noncomputable section
set_option maxRecDepth 100000
set_option maxHeartbeats 4000000
open Go.E.C renaming agg->dv,elems->az,get->bj,int->bf,nil->dh,set->cm,slice->cg,toInt->ar
open Go.E.Key renaming g->di,l->bz
open Go.E.O renaming box->dj,dead->fh
open Go.E.Ty renaming arr->bu,bool->dq,int->bm
open Go.IntKind renaming i64->bb,u64->ay,wrap->au
open Int renaming lt_irrefl->fj,natCast_nonneg->cf,toNat->av,toNat_natCast->bc,toNat_zero->cr
open List renaming countP_cons->vy,getD->br,getD_eq_getElem?_getD->bq,getElem?_eq_getElem->bp,getElem?_eq_none->gd,length->ax,length_append->bt,length_cons->cn,length_map->fq,length_nil->cu,length_set->dp,length_take->jq,map_append->pt,mem_append->ed,mem_of_getElem?->fa,mem_singleton->fv,range->gh,replicate->bw,take->ek,take_length->dx
open Nat renaming beq->dc,beq_refl->bo,le_refl->bx,le_trans->kq,zero_add->bh
open Prod.mk renaming injEq->fx
namespace Go.Proofs.YteealakhniofoaaGreatDoor
open Go Go.E
variable {R:Type} (N:Nat)
def q6o:List Sh:=[.as (.ptr (.g (.l 1)) [] Ba),.d (.slice 8 (.int .i64))]
def q6q:List (Key × OSh):=[(.l 1,.box (.agg Ba [.as (.ptr (.g (.l 2)) [] BF),.as (.ptr (.g (.l 5)) [] Bo),.d (.int .u64),.d (.int .u64),.vec (.g (.l 7)) 240 AR,.vec (.g (.l 8)) 2368 tTx,.vec (.g (.l 9)) 40 AU])),(.l 2,.box (.agg BF [.vec (.g (.l 3)) 8 (.int .u64),.vec (.g (.l 4)) 8 (.int .u64),.d (.int .u64)])),(.l 3,.box (.arr (.int .u64))),(.l 4,.box (.arr (.int .u64))),(.l 5,.box (.agg Bo [.d Bf,.ts 72 Bv])),(.l 7,.box (.arr AR)),(.l 8,.box (.arr tTx)),(.l 9,.box (.arr AU))]
def KY {R:Type} (N:Nat) (d1:List C) (k2:KD R):KD R->KD R:=fun k3 d4 m4=>(bif decide (ar (dk d4 5)<(↑(av (ar (dk d4 9))):Int))then(if 0<=ar (dk d4 5)/\ar (dk d4 5)<(↑(av (ar (dk d4 1))):Int)then(jn (fun d5 m5=>(bif dc (ax (az (dk d5 4))) (ax (az (dk d5 4)))then(gA (dk d5 14) (gA (dk d5 15) (gA (dk d5 18) (gA (dk d5 19) (gA (dk d5 20) (if bu (av (↑(av (ar (dk d1 4))):Int)) dq=bu (av (↑(av (ar (dk d1 4))):Int)) dq then(gA (dk d5 47) (k3 [nI (dk d5 0),nI (dk d5 1),nI (dk d5 2),cg (az (dk d5 4)),nI (dk d5 5),bf (au bb (ar (dk d5 3)+1)),dk d5 6,dk d5 7,nI (dk d5 8),nI (dk d5 9),nI (dk d5 10),nI (dk d5 11),nI (dk d5 12),dk d5 13,dk d5 14,dk d5 15,dk d5 16,cg (az (dk d5 17)),dk d5 18,dk d5 19,dk d5 20,dk d5 21,nI (dk d5 22),nI (dk d5 23),nI (dk d5 24),nI (dk d5 25),nI (dk d5 26),nI (dk d5 22),nI (dk d5 23),nI (dk d5 24),nI (dk d5 25),nI (dk d5 26),nI (dk d5 22),nI (dk d5 23),nI (dk d5 24),nI (dk d5 25),nI (dk d5 26),nI (dk d5 22),nI (dk d5 23),nI (dk d5 24),nI (dk d5 25),nI (dk d5 26),dk d5 47] []))else none))))))else none)) (fun k4=>(bif !C.toBool (bj (dk d4 21) (av (ar (dk d4 0))+av (ar (dk d4 5))))then(if 0<=ar (dk d4 5)/\ar (dk d4 5)<(↑(av (ar (dk d4 9))):Int)then(if(av (ar (dk d4 4))+1)*2368<=140737488355328/\av (ar (dk d4 4))+1<=9223372036854775807 then(bif dc (ax (az (dk d4 3))) (ax (az (dk d4 3)))then(gA (dk d4 14) (gA (dk d4 15) (gA (dk d4 18) (gA (dk d4 19) (gA (dk d4 20) (if bu (av (↑(av (ar (dk d1 4))):Int)) dq=bu (av (↑(av (ar (dk d1 4))):Int)) dq then(if av (ar (dk d4 4))+1=ax (ek (av (ar (dk d4 4))) (az (dk d4 42))++[bj (dk d4 19) (0+av (ar (dk d4 5)))])then(k4 [nI (dk d4 0),nI (dk d4 1),nI (dk d4 2),dk d4 5,cg (az (dk d4 3)),bf (↑(av (ar (dk d4 4))+1):Int),dk d4 6,dk d4 7,nI (dk d4 8),nI (dk d4 9),nI (dk d4 10),nI (dk d4 11),nI (dk d4 12),dk d4 13,dk d4 14,dk d4 15,dk d4 16,cg (az (dk d4 17)),dk d4 18,dk d4 19,dk d4 20,dk d4 21,nI (dk d4 22),nI (dk d4 23),nI (dk d4 24),nI (dk d4 25),nI (dk d4 26),nI (dk d4 22),nI (dk d4 23),nI (dk d4 24),nI (dk d4 25),nI (dk d4 26),nI (dk d4 22),nI (dk d4 23),nI (dk d4 24),nI (dk d4 25),nI (dk d4 26),nI (dk d4 22),nI (dk d4 23),nI (dk d4 24),nI (dk d4 25),nI (dk d4 26),nI (dk d4 22),nI (dk d4 23),nI (dk d4 24),nI (dk d4 25),nI (dk d4 26),dv (ek (av (ar (dk d4 4))) (az (dk d4 42))++[bj (dk d4 19) (0+av (ar (dk d4 5)))])] [])else none)else none))))))else none)else none)else none)else(bif dc (ax (az (dk d4 3))) (ax (az (dk d4 3)))then(gA (dk d4 14) (gA (dk d4 15) (gA (dk d4 18) (gA (dk d4 19) (gA (dk d4 20) (if bu (av (↑(av (ar (dk d1 4))):Int)) dq=bu (av (↑(av (ar (dk d1 4))):Int)) dq then(gA (dk d4 42) (k4 [nI (dk d4 0),nI (dk d4 1),nI (dk d4 2),dk d4 5,cg (az (dk d4 3)),nI (dk d4 4),dk d4 6,dk d4 7,nI (dk d4 8),nI (dk d4 9),nI (dk d4 10),nI (dk d4 11),nI (dk d4 12),dk d4 13,dk d4 14,dk d4 15,dk d4 16,cg (az (dk d4 17)),dk d4 18,dk d4 19,dk d4 20,dk d4 21,nI (dk d4 22),nI (dk d4 23),nI (dk d4 24),nI (dk d4 25),nI (dk d4 26),nI (dk d4 22),nI (dk d4 23),nI (dk d4 24),nI (dk d4 25),nI (dk d4 26),nI (dk d4 22),nI (dk d4 23),nI (dk d4 24),nI (dk d4 25),nI (dk d4 26),nI (dk d4 22),nI (dk d4 23),nI (dk d4 24),nI (dk d4 25),nI (dk d4 26),nI (dk d4 22),nI (dk d4 23),nI (dk d4 24),nI (dk d4 25),nI (dk d4 26),dk d4 42] []))else none))))))else none))))else none)else(bif dc (ax (az (dk d4 3))) (ax (az (dk d4 3)))then(gA (dk d4 14) (gA (dk d4 15) (gA (dk d4 18) (gA (dk d4 19) (gA (dk d4 20) (gA (dk d4 42) (k2 [cg (az (dk d4 3)),nI (dk d4 4),dk d4 6,dk d4 7,nI (dk d4 8),nI (dk d4 9),nI (dk d4 10),nI (dk d4 11),nI (dk d4 12),dk d4 13,dk d4 14,dk d4 15,dk d4 16,cg (az (dk d4 17)),dk d4 18,dk d4 19,dk d4 20,nI (dk d4 22),nI (dk d4 23),nI (dk d4 24),nI (dk d4 25),nI (dk d4 26),nI (dk d4 22),nI (dk d4 23),nI (dk d4 24),nI (dk d4 25),nI (dk d4 26),nI (dk d4 22),nI (dk d4 23),nI (dk d4 24),nI (dk d4 25),nI (dk d4 26),nI (dk d4 22),nI (dk d4 23),nI (dk d4 24),nI (dk d4 25),nI (dk d4 26),dk d4 42] [])))))))else none))
def NY (d1:List C) (k2:KD R):KD R->KD R:=fun k3 d2 m2=>(bif decide (ar (dk d2 5)<(↑(ax (az (dk d2 0))):Int))then(if 0<=ar (dk d2 5)/\ar (dk d2 5)<(↑(ax (az (dk d2 0))):Int)then(if 0<=ar (br (az (dk d2 0)) (av (ar (dk d2 5))) dh)/\ar (br (az (dk d2 0)) (av (ar (dk d2 5))) dh)<(↑(av (ar (dk d2 9))):Int)then(if 0<=ar (dk d2 5)/\ar (dk d2 5)<(↑(ax (az (dk d2 0))):Int)then(if 0<=ar (br (az (dk d2 0)) (av (ar (dk d2 5))) dh)/\ar (br (az (dk d2 0)) (av (ar (dk d2 5))) dh)<(↑(av (ar (dk d2 2))):Int)then(gA (dk d2 14) (gA (dk d2 15) (gA (dk d2 18) (gA (dk d2 19) (gA (dk d2 20) (Sg N (bj (dk d2 19) (0+av (ar (br (az (dk d2 0)) (av (ar (dk d2 5))) dh)))) (dk d2 6) (dk d2 7) (nI (dk d2 8)) (nI (dk d2 9)) (nI (dk d2 10)) (nI (dk d2 11)) (nI (dk d2 12)) (dk d2 13) (dk d2 14) (dk d2 15) (dk d2 16) (cg (az (dk d2 17))) (dk d2 18) (dk d2 19) (dk d2 20) (fun d3 m3=>(bif dc (ax (az (dk d2 4))) (ax (az (dk d2 4)))then(if(ax (az (dk d2 4))+1)*8<=140737488355328/\ax (az (dk d2 4))+1<=9223372036854775807 then(if(av (ar (dk d3 7))+1)*40<=140737488355328/\av (ar (dk d3 7))+1<=9223372036854775807 then(bif dc (ax (az (dk d2 4))+1) (ax (az (dk d2 4)++[dk d3 0]))then(gA (dk d3 12) (gA (dk d3 14) (gA (dk d3 16) (gA (dk d3 18) (if av (ar (dk d3 7))+1=ax (ek (av (ar (dk d3 7))) (az (dk d3 20))++[cm (cm (cm (cm (cm (dv [bf 0,bf 0,bf 0,bf 0,bf 0]) 0 (dk d3 4)) 1 (bj (bj (dk d2 19) (0+av (ar (br (az (dk d2 0)) (av (ar (dk d2 5))) dh)))) 0)) 2 (bj (bj (dk d2 19) (0+av (ar (br (az (dk d2 0)) (av (ar (dk d2 5))) dh)))) 1)) 3 (bj (bj (dk d2 19) (0+av (ar (br (az (dk d2 0)) (av (ar (dk d2 5))) dh)))) 6)) 4 (dk d3 0)])then(if bu (av (↑(av (ar (dk d1 4))):Int)) dq=bu (av (↑(av (ar (dk d1 4))):Int)) dq then(k3 [dk d2 0,nI (dk d2 1),nI (dk d2 2),nI (dk d2 3),cg (az (dk d2 4)++[dk d3 0]),bf (au bb (ar (dk d2 5)+1)),dk d3 3,dk d3 4,nI (dk d3 5),nI (dk d3 6),bf (↑(av (ar (dk d3 7))+1):Int),nI (dk d3 8),nI (dk d3 9),dk d3 10,dk d3 12,dk d3 14,dk d3 1,cg (az (dk d3 2)),dk d3 16,dk d3 18,dv (ek (av (ar (dk d3 7))) (az (dk d3 20))++[cm (cm (cm (cm (cm (dv [bf 0,bf 0,bf 0,bf 0,bf 0]) 0 (dk d3 4)) 1 (bj (bj (dk d2 19) (0+av (ar (br (az (dk d2 0)) (av (ar (dk d2 5))) dh)))) 0)) 2 (bj (bj (dk d2 19) (0+av (ar (br (az (dk d2 0)) (av (ar (dk d2 5))) dh)))) 1)) 3 (bj (bj (dk d2 19) (0+av (ar (br (az (dk d2 0)) (av (ar (dk d2 5))) dh)))) 6)) 4 (dk d3 0)]),cm (dk d2 21) (av (ar (dk d2 1))+av (ar (br (az (dk d2 0)) (av (ar (dk d2 5))) dh))) (C.bool true),nI (dk d2 22),nI (dk d2 23),nI (dk d2 24),nI (dk d2 25),nI (dk d2 26),nI (dk d2 22),nI (dk d2 23),nI (dk d2 24),nI (dk d2 25),nI (dk d2 26)] [])else none)else none)))))else none)else none)else none)else none))))))))else none)else none)else none)else none)else(bif dc (ax (az (dk d2 4))) (ax (az (dk d2 4)))then(gA (dk d2 14) (gA (dk d2 15) (gA (dk d2 18) (gA (dk d2 19) (gA (dk d2 20) (if bu (av (↑(av (ar (dk d1 4))):Int)) dq=bu (av (↑(av (ar (dk d1 4))):Int)) dq then(k2 [nI (dk d2 1),nI (dk d2 2),nI (dk d2 3),cg (az (dk d2 4)),dk d2 6,dk d2 7,nI (dk d2 8),nI (dk d2 9),nI (dk d2 10),nI (dk d2 11),nI (dk d2 12),dk d2 13,dk d2 14,dk d2 15,dk d2 16,cg (az (dk d2 17)),dk d2 18,dk d2 19,dk d2 20,dk d2 21,nI (dk d2 22),nI (dk d2 23),nI (dk d2 24),nI (dk d2 25),nI (dk d2 26),nI (dk d2 22),nI (dk d2 23),nI (dk d2 24),nI (dk d2 25),nI (dk d2 26)] [])else none))))))else none))
def Se {R:Type} (N:Nat) (k1:KD R) (k4:KD R):KD R->KD R:=fun k5 d3 m3=>(bif decide (ar (dk d3 2)<ar (dk d3 1))then(if 0<=ar (dk d3 2)/\ar (dk d3 2)<(↑(ax (az (dk d3 0))):Int)then(if 0<=ar (dk d3 1)/\ar (dk d3 1)<(↑(ax (az (dk d3 0))):Int)then(bif decide (ar (br (az (dk d3 0)) (av (ar (dk d3 2))) dh)=ar (br (az (dk d3 0)) (av (ar (dk d3 1))) dh))then(gA (dk d3 11) (gA (dk d3 12) (gA (dk d3 15) (gA (dk d3 16) (gA (dk d3 17) (k1 [cg [],bf 1,dk d3 13,cg (az (dk d3 14)),dk d3 3,dk d3 4,nI (dk d3 5),nI (dk d3 6),nI (dk d3 7),nI (dk d3 8),nI (dk d3 9),dk d3 10,nI (dk d3 18),dk d3 11,nI (dk d3 19),dk d3 12,nI (dk d3 20),dk d3 15,nI (dk d3 21),dk d3 16,nI (dk d3 22),dk d3 17] []))))))else(gA (dk d3 11) (gA (dk d3 12) (gA (dk d3 15) (gA (dk d3 16) (gA (dk d3 17) (k5 [dk d3 0,dk d3 1,bf (au bb (ar (dk d3 2)+1)),dk d3 3,dk d3 4,nI (dk d3 5),nI (dk d3 6),nI (dk d3 7),nI (dk d3 8),nI (dk d3 9),dk d3 10,dk d3 11,dk d3 12,dk d3 13,cg (az (dk d3 14)),dk d3 15,dk d3 16,dk d3 17,nI (dk d3 18),nI (dk d3 19),nI (dk d3 20),nI (dk d3 21),nI (dk d3 22),nI (dk d3 18),nI (dk d3 19),nI (dk d3 20),nI (dk d3 21),nI (dk d3 22),nI (dk d3 18),nI (dk d3 19),nI (dk d3 20),nI (dk d3 21),nI (dk d3 22)] [])))))))else none)else none)else(gA (dk d3 11) (gA (dk d3 12) (gA (dk d3 15) (gA (dk d3 16) (gA (dk d3 17) (k4 [dk d3 0,dk d3 1,dk d3 3,dk d3 4,nI (dk d3 5),nI (dk d3 6),nI (dk d3 7),nI (dk d3 8),nI (dk d3 9),dk d3 10,dk d3 11,dk d3 12,dk d3 13,cg (az (dk d3 14)),dk d3 15,dk d3 16,dk d3 17,nI (dk d3 18),nI (dk d3 19),nI (dk d3 20),nI (dk d3 21),nI (dk d3 22),nI (dk d3 18),nI (dk d3 19),nI (dk d3 20),nI (dk d3 21),nI (dk d3 22),nI (dk d3 18),nI (dk d3 19),nI (dk d3 20),nI (dk d3 21),nI (dk d3 22)] [])))))))
def Sf (k1:KD R) (k2:KD R):KD R->KD R:=fun k3 d1 m1=>(bif decide (ar (dk d1 1)<(↑(ax (az (dk d1 0))):Int))then(jn (fun d2 m2=>(bif C.toBool (dk d2 2)then(gA (dk d2 11) (gA (dk d2 12) (gA (dk d2 15) (gA (dk d2 16) (gA (dk d2 17) (k1 [cg [],bf 1,dk d2 13,cg (az (dk d2 14)),dk d2 3,dk d2 4,nI (dk d2 5),nI (dk d2 6),nI (dk d2 7),nI (dk d2 8),nI (dk d2 9),dk d2 10,nI (dk d2 18),dk d2 11,nI (dk d2 19),dk d2 12,nI (dk d2 20),dk d2 15,nI (dk d2 21),dk d2 16,nI (dk d2 22),dk d2 17] []))))))else(jn (fun d3 m3=>(gA (dk d3 10) (gA (dk d3 11) (gA (dk d3 14) (gA (dk d3 15) (gA (dk d3 16) (k3 [dk d3 0,bf (au bb (ar (dk d3 1)+1)),dk d3 2,dk d3 3,nI (dk d3 4),nI (dk d3 5),nI (dk d3 6),nI (dk d3 7),nI (dk d3 8),dk d3 9,nI (dk d3 17),dk d3 10,nI (dk d3 18),dk d3 11,dk d3 12,cg (az (dk d3 13)),nI (dk d3 19),dk d3 14,nI (dk d3 20),dk d3 15,nI (dk d3 21),dk d3 16] []))))))) (fun k4=>(gA (dk d2 11) (gA (dk d2 12) (gA (dk d2 15) (gA (dk d2 16) (gA (dk d2 17) (BO N (Se N k1 k4) [dk d2 0,dk d2 1,bf 0,dk d2 3,dk d2 4,nI (dk d2 5),nI (dk d2 6),nI (dk d2 7),nI (dk d2 8),nI (dk d2 9),dk d2 10,dk d2 11,dk d2 12,dk d2 13,cg (az (dk d2 14)),dk d2 15,dk d2 16,dk d2 17,nI (dk d2 18),nI (dk d2 19),nI (dk d2 20),nI (dk d2 21),nI (dk d2 22),nI (dk d2 18),nI (dk d2 19),nI (dk d2 20),nI (dk d2 21),nI (dk d2 22),nI (dk d2 18),nI (dk d2 19),nI (dk d2 20),nI (dk d2 21),nI (dk d2 22)] [])))))))))) (fun k4=>(if 0<=ar (dk d1 1)/\ar (dk d1 1)<(↑(ax (az (dk d1 0))):Int)then(bif decide (ar (br (az (dk d1 0)) (av (ar (dk d1 1))) dh)<0)then(gA (dk d1 11) (gA (dk d1 13) (gA (dk d1 17) (gA (dk d1 19) (gA (dk d1 21) (k4 [dk d1 0,dk d1 1,C.bool true,dk d1 2,dk d1 3,nI (dk d1 4),nI (dk d1 5),nI (dk d1 6),nI (dk d1 7),nI (dk d1 8),dk d1 9,dk d1 11,dk d1 13,dk d1 14,cg (az (dk d1 15)),dk d1 17,dk d1 19,dk d1 21,nI (dk d1 10),nI (dk d1 12),nI (dk d1 16),nI (dk d1 18),nI (dk d1 20),nI (dk d1 10),nI (dk d1 12),nI (dk d1 16),nI (dk d1 18),nI (dk d1 20)] []))))))else(if 0<=ar (dk d1 1)/\ar (dk d1 1)<(↑(ax (az (dk d1 0))):Int)then(gA (dk d1 11) (gA (dk d1 13) (gA (dk d1 17) (gA (dk d1 19) (gA (dk d1 21) (k4 [dk d1 0,dk d1 1,C.bool (decide ((↑(av (ar (dk d1 5))):Int)<=ar (br (az (dk d1 0)) (av (ar (dk d1 1))) dh))),dk d1 2,dk d1 3,nI (dk d1 4),nI (dk d1 5),nI (dk d1 6),nI (dk d1 7),nI (dk d1 8),dk d1 9,dk d1 11,dk d1 13,dk d1 14,cg (az (dk d1 15)),dk d1 17,dk d1 19,dk d1 21,nI (dk d1 10),nI (dk d1 12),nI (dk d1 16),nI (dk d1 18),nI (dk d1 20),nI (dk d1 10),nI (dk d1 12),nI (dk d1 16),nI (dk d1 18),nI (dk d1 20)] []))))))else none))else none)))else(gA (dk d1 11) (gA (dk d1 13) (gA (dk d1 17) (gA (dk d1 19) (gA (dk d1 21) (k2 [dk d1 0,dk d1 2,dk d1 3,nI (dk d1 4),nI (dk d1 5),nI (dk d1 6),nI (dk d1 7),nI (dk d1 8),dk d1 9,nI (dk d1 10),dk d1 11,nI (dk d1 12),dk d1 13,dk d1 14,cg (az (dk d1 15)),nI (dk d1 16),dk d1 17,nI (dk d1 18),dk d1 19,nI (dk d1 20),dk d1 21] [])))))))
def cG (a0 b0 b1 b2 b3 b4 b5 b6 b7 b8 b9 b10 b11 b12 b13 b14:C) (k1:KD R):Option R:=jn (fun d1 m1=>(if 0<=(↑(av (ar (dk d1 4))):Int)/\(↑(av (ar (dk d1 4))):Int)<=(↑(av (ar (dk d1 4))):Int)/\(↑(av (ar (dk d1 4))):Int)<=9223372036854775807/\av (↑(av (ar (dk d1 4))):Int)*1<=140737488355328 then(jn (fun d2 m2=>(jn (fun d3 m3=>(jn (fun d4 m4=>(bif dc (ax (az (dk d4 0))) (ax (az (dk d4 0)))then(gA (dk d4 10) (gA (dk d4 11) (gA (dk d4 14) (gA (dk d4 37) (gA (dk d4 16) (k1 [cg (az (dk d4 0)),bf 0,dk d4 12,cg (az (dk d4 13)),dk d4 2,dk d4 3,nI (dk d4 4),nI (dk d4 1),nI (dk d4 6),nI (dk d4 7),nI (dk d4 8),dk d4 9,nI (dk d4 17),dk d4 10,nI (dk d4 18),dk d4 11,nI (dk d4 19),dk d4 14,nI (dk d4 20),dk d4 37,nI (dk d4 21),dk d4 16] []))))))else none)) (fun k2=>(bif dc (ax (az (dk d3 3))) (ax (az (dk d3 3)))then(gA (dk d3 12) (gA (dk d3 13) (gA (dk d3 16) (gA (dk d3 17) (gA (dk d3 18) (if bu (av (↑(av (ar (dk d1 4))):Int)) dq=bu (av (↑(av (ar (dk d1 4))):Int)) dq then(BO N (KY N d1 k2) [nI (dk d3 0),nI (dk d3 1),nI (dk d3 2),cg (az (dk d3 3)),bf 0,bf 0,dk d3 4,dk d3 5,nI (dk d3 6),nI (dk d3 7),nI (dk d3 8),nI (dk d3 9),nI (dk d3 10),dk d3 11,dk d3 12,dk d3 13,dk d3 14,cg (az (dk d3 15)),dk d3 16,dk d3 17,dk d3 18,dk d3 19,nI (dk d3 20),nI (dk d3 21),nI (dk d3 22),nI (dk d3 23),nI (dk d3 24),nI (dk d3 20),nI (dk d3 21),nI (dk d3 22),nI (dk d3 23),nI (dk d3 24),nI (dk d3 20),nI (dk d3 21),nI (dk d3 22),nI (dk d3 23),nI (dk d3 24),nI (dk d3 20),nI (dk d3 21),nI (dk d3 22),nI (dk d3 23),nI (dk d3 24),dv []] [])else none))))))else none)))) (fun k2=>(bif decide (1024<(↑(av (ar (dk d2 8))):Int))then(if 0<=au bb ((↑(av (ar (dk d2 8))):Int)-1024)/\au bb ((↑(av (ar (dk d2 8))):Int)-1024)<=(↑(av (ar (dk d2 8))):Int)/\(↑(av (ar (dk d2 8))):Int)<=(↑(av (ar (dk d2 8))):Int)then(bif dc (ax (az (dk d2 3))) (ax (az (dk d2 3)))then(if bz 1000000000298=bz 1000000000298/\([]:List Nat)=[]/\0+av (au bb ((↑(av (ar (dk d2 8))):Int)-1024))=0/\true=true/\40=40/\AU=AU then(gA (dk d2 12) (gA (dk d2 13) (gA (dk d2 16) (gA (dk d2 17) (gA (dk d2 18) (if bu (av (↑(av (ar (dk d1 4))):Int)) dq=bu (av (↑(av (ar (dk d1 4))):Int)) dq then(k2 [nI (dk d2 0),nI (dk d2 1),nI (dk d2 2),cg (az (dk d2 3)),dk d2 4,dk d2 5,nI (dk d2 6),nI (dk d2 7),bf (↑(av ((↑(av (ar (dk d2 8))):Int)-au bb ((↑(av (ar (dk d2 8))):Int)-1024))):Int),nI (dk d2 9),nI (dk d2 10),dk d2 11,dk d2 12,dk d2 13,dk d2 14,cg (az (dk d2 15)),dk d2 16,dk d2 17,dk d2 18,dk d2 19,nI (dk d2 20),nI (dk d2 21),nI (dk d2 22),nI (dk d2 23),nI (dk d2 24),nI (dk d2 20),nI (dk d2 21),nI (dk d2 22),nI (dk d2 23),nI (dk d2 24),nI (dk d2 20),nI (dk d2 21),nI (dk d2 22),nI (dk d2 23),nI (dk d2 24)] [])else none))))))else none)else none)else none)else(bif dc (ax (az (dk d2 3))) (ax (az (dk d2 3)))then(gA (dk d2 12) (gA (dk d2 13) (gA (dk d2 16) (gA (dk d2 17) (gA (dk d2 18) (if bu (av (↑(av (ar (dk d1 4))):Int)) dq=bu (av (↑(av (ar (dk d1 4))):Int)) dq then(k2 [nI (dk d2 0),nI (dk d2 1),nI (dk d2 2),cg (az (dk d2 3)),dk d2 4,dk d2 5,nI (dk d2 6),nI (dk d2 7),nI (dk d2 8),nI (dk d2 9),nI (dk d2 10),dk d2 11,dk d2 12,dk d2 13,dk d2 14,cg (az (dk d2 15)),dk d2 16,dk d2 17,dk d2 18,dk d2 19,nI (dk d2 20),nI (dk d2 21),nI (dk d2 22),nI (dk d2 23),nI (dk d2 24),nI (dk d2 20),nI (dk d2 21),nI (dk d2 22),nI (dk d2 23),nI (dk d2 24),nI (dk d2 20),nI (dk d2 21),nI (dk d2 22),nI (dk d2 23),nI (dk d2 24)] [])else none))))))else none))))) (fun k2=>(gA (dk d1 10) (gA (dk d1 12) (gA (dk d1 16) (gA (dk d1 18) (gA (dk d1 20) (if bu (av (↑(av (ar (dk d1 4))):Int)) dq=bu (av (↑(av (ar (dk d1 4))):Int)) dq then(BO N (NY N d1 k2) [dk d1 0,bf 0,bf (↑(av (↑(av (ar (dk d1 4))):Int)):Int),bf (↑(av (↑(av (ar (dk d1 4))):Int)):Int),cg [],bf 0,dk d1 1,bf (au ay (ar (dk d1 2)+1)),nI (dk d1 3),nI (dk d1 4),nI (dk d1 5),nI (dk d1 6),nI (dk d1 7),dk d1 8,dk d1 10,dk d1 12,dk d1 13,cg (az (dk d1 14)),dk d1 16,dk d1 18,dk d1 20,dv (bw (av (↑(av (ar (dk d1 4))):Int)) (AH dq)),nI (dk d1 9),nI (dk d1 11),nI (dk d1 15),nI (dk d1 17),nI (dk d1 19),nI (dk d1 9),nI (dk d1 11),nI (dk d1 15),nI (dk d1 17),nI (dk d1 19)] [])else none))))))))else none)) (fun k2=>(gA b8 (gA b9 (gA b12 (gA b13 (gA b14 (BO N (Sf N k1 k2) [a0,bf 0,b0,b1,nI b2,nI b3,nI b4,nI b5,nI b6,b7,bf (↑(ax (az b8)):Int),b8,bf (↑(ax (az b9)):Int),b9,b10,cg (az b11),bf (↑(ax (az b12)):Int),b12,bf (↑(ax (az b13)):Int),b13,bf (↑(ax (az b14)):Int),b14] [])))))))
def Px:=lid "" (@cG R N)
theorem uL {R N a0 b0 b1 b2 b3 b4 b5 b6 b7 b8 b9 b10 b11 b12 b13 b14 k}:@Px R N a0 b0 b1 b2 b3 b4 b5 b6 b7 b8 b9 b10 b11 b12 b13 b14 k=cG N a0 b0 b1 b2 b3 b4 b5 b6 b7 b8 b9 b10 b11 b12 b13 b14 k:=by unfold Px;rw[BQ]
def uK:OvG R:=DA q6o q6q (fun ds ms=>Px N (dk ds 0) (dk ds 1) (dk ds 2) (dk ds 3) (dk ds 4) (dk ds 5) (dk ds 6) (dk ds 7) (dk ds 8) (dk ds 9) (dk ds 10) (dk ds 11) (dk ds 12) (dk ds 13) (dk ds 14) (dk ds 15)) fun ds ms K d1 m1=>K (V.tup [V.ts 8 (bm bb) (az (dk d1 0)),V.d (bm bb) (dk d1 1)]) [(di (bz 5),dj (V.agg Bo [V.d Bf (dk d1 2),V.ts 72 Bv (az (dk d1 3))])),
 (di (bz 1),
  dj
   (V.agg Ba
    [V.ptr (di (bz 2)) [] BF,V.ptr (di (bz 5)) [] Bo,V.d (bm ay) (dk d1 4),
     V.d (bm ay) (dk d1 5),
     V.sr (bz 1000000000234) [] 0 (av (ar (dk d1 6))) none 240 AR,
     V.sr (bz 1000000000266) [] 0 (av (ar (dk d1 7))) none 2368 tTx,
     V.sr (bz 1000000000298) [] 0 (av (ar (dk d1 8))) none 40 AU])),
 (di (bz 2),
  dj
   (V.agg BF
    [V.sr (bz 1000000000106) [] 0 (av (ar (dk d1 9))) none 8 (bm ay),
     V.sr (bz 1000000000138) [] 0 (av (ar (dk d1 10))) none 8 (bm ay),
     V.d (bm ay) (dk d1 11)])),
 (di (bz 3),fh (bu (av (ar (dk d1 12))) (bm ay))),
 (bz 1000000000106,dj (V.d (bu (ax (az (dk d1 13))) (bm ay)) (dk d1 13))),
 (di (bz 4),fh (bu (av (ar (dk d1 14))) (bm ay))),
 (bz 1000000000138,dj (V.d (bu (ax (az (dk d1 15))) (bm ay)) (dk d1 15))),
 (di (bz 7),fh (bu (av (ar (dk d1 16))) AR)),
 (bz 1000000000234,dj (V.d (bu (ax (az (dk d1 17))) AR) (dk d1 17))),
 (di (bz 8),fh (bu (av (ar (dk d1 18))) tTx)),
 (bz 1000000000266,dj (V.d (bu (ax (az (dk d1 19))) tTx) (dk d1 19))),
 (di (bz 9),fh (bu (av (ar (dk d1 20))) AU)),
 (bz 1000000000298,dj (V.d (bu (ax (az (dk d1 21))) AU) (dk d1 21)))]
theorem q6p:okX 28 (@uK R N):=DF (Ap (q6t N) <| BS) N [(28,[(21,[(11,6)])])] [(28,[([1,0,1],⟨[0,1],[],[.g (.l 1),.g (.l 2),.g (.l 3),.g (.l 4),.g (.l 5),.g (.l 7),.g (.l 8),.g (.l 9)],[],[],[(.int .u64),AR,tTx,AU]⟩),
  ([4,1,0,1],⟨[0,1],[(6,.d (.int .i64))],[.g (.l 1),.g (.l 2),.g (.l 3),.g (.l 4),.g (.l 5),.g (.l 7),.g (.l 8),.g (.l 9)],[],[],[(.int .u64),AR,tTx,AU]⟩),
  ([0,0,4,0,1,5,4,1,0,1],⟨[0,1,6],[(37,.d .bool)],[.g (.l 1),.g (.l 2),.g (.l 3),.g (.l 4),.g (.l 5),.g (.l 7),.g (.l 8),.g (.l 9)],[],[],[(.int .u64),AR,tTx,AU]⟩),
  ([1,1,4,0,1,5,4,1,0,1],⟨[0,1,6],[],[.g (.l 1),.g (.l 2),.g (.l 3),.g (.l 4),.g (.l 5),.g (.l 7),.g (.l 8),.g (.l 9)],[],[],[(.int .u64),AR,tTx,AU]⟩),
  ([4,1,1,4,0,1,5,4,1,0,1],⟨[0,1,6],[(7,.d (.int .i64))],[.g (.l 1),.g (.l 2),.g (.l 3),.g (.l 4),.g (.l 5),.g (.l 7),.g (.l 8),.g (.l 9)],[],[],[(.int .u64),AR,tTx,AU]⟩),
  ([1,0,1,1,1,1,1],⟨[0,9],[(8,.sl 8 (.int .i64) 5008)],[.g (.l 1),.g (.l 2),.g (.l 3),.g (.l 4),.g (.l 5),.g (.l 7),.g (.l 8),.g (.l 9)],[],[],[(.int .u64),AR,tTx,AU]⟩),
  ([4,1,0,1,1,1,1,1],⟨[0,1,9],[(8,.sl 8 (.int .i64) 5008),(10,.d (.int .i64))],[.g (.l 1),.g (.l 2),.g (.l 3),.g (.l 4),.g (.l 5),.g (.l 7),.g (.l 8),.g (.l 9)],[],[],[(.int .u64),AR,tTx,AU]⟩),
  ([1,0,1,1,1,1,1,1],⟨[0,9],[(8,.sl 8 (.int .i64) 5008)],[.g (.l 1),.g (.l 2),.g (.l 3),.g (.l 4),.g (.l 5),.g (.l 7),.g (.l 8),.g (.l 9)],[],[],[(.int .u64),AR,tTx,AU]⟩),
  ([1,0,1,1,1,1,1,1,1,1],⟨[0],[(8,.sl 8 (.int .i64) 5008),(13,.vec (.l 1000000000107) 2368 tTx)],[.g (.l 1),.g (.l 2),.g (.l 3),.g (.l 4),.g (.l 5),.g (.l 7),.g (.l 8),.g (.l 9)],[],[],[(.int .u64),AR,tTx,AU]⟩),
  ([4,1,0,1,1,1,1,1,1,1,1],⟨[0,9],[(8,.sl 8 (.int .i64) 5008),(13,.vec (.l 1000000000107) 2368 tTx),(14,.d (.int .i64))],[.g (.l 1),.g (.l 2),.g (.l 3),.g (.l 4),.g (.l 5),.g (.l 7),.g (.l 8),.g (.l 9)],[],[],[(.int .u64),AR,tTx,AU]⟩),
  ([1,4,0,1,5,4,1,0,1,1,1,1,1,1,1,1],⟨[0,9,14],[(8,.sl 8 (.int .i64) 5008),(13,.vec (.l 1000000000107) 2368 tTx)],[.g (.l 1),.g (.l 2),.g (.l 3),.g (.l 4),.g (.l 5),.g (.l 7),.g (.l 8),.g (.l 9)],[],[],[(.int .u64),AR,tTx,AU]⟩),
  ([9],⟨[],[(4,.sl 8 (.int .i64) 5004),(5,.d (.int .i64))],[.g (.l 1),.g (.l 2),.g (.l 3),.g (.l 4),.g (.l 5),.g (.l 7),.g (.l 8),.g (.l 9)],[(.g (.l 5),.box (.agg Bo [.d Bf,.ts 72 Bv]))],[],[(.int .u64),AR,tTx,AU]⟩)])] (fun _ _ _=>uL) fun ds ms K=>(show _=jn (fun d1 m1=>(bif dc (ax (az (dk d1 0))) (ax (az (dk d1 0)))then
  (K (V.tup [V.ts 8 (bm bb) (az (dk d1 0)),V.d (bm bb) (dk d1 1)]) [(di (bz 5),dj (V.agg Bo [V.d Bf (dk d1 2),V.ts 72 Bv (az (dk d1 3))])),
 (di (bz 1),
  dj
   (V.agg Ba
    [V.ptr (di (bz 2)) [] BF,V.ptr (di (bz 5)) [] Bo,V.d (bm ay) (dk d1 4),
     V.d (bm ay) (dk d1 5),
     V.sr (bz 1000000000234) [] 0 (av (ar (dk d1 6))) none 240 AR,
     V.sr (bz 1000000000266) [] 0 (av (ar (dk d1 7))) none 2368 tTx,
     V.sr (bz 1000000000298) [] 0 (av (ar (dk d1 8))) none 40 AU])),
 (di (bz 2),
  dj
   (V.agg BF
    [V.sr (bz 1000000000106) [] 0 (av (ar (dk d1 9))) none 8 (bm ay),
     V.sr (bz 1000000000138) [] 0 (av (ar (dk d1 10))) none 8 (bm ay),
     V.d (bm ay) (dk d1 11)])),
 (di (bz 3),fh (bu (av (ar (dk d1 12))) (bm ay))),
 (bz 1000000000106,dj (V.d (bu (ax (az (dk d1 13))) (bm ay)) (dk d1 13))),
 (di (bz 4),fh (bu (av (ar (dk d1 14))) (bm ay))),
 (bz 1000000000138,dj (V.d (bu (ax (az (dk d1 15))) (bm ay)) (dk d1 15))),
 (di (bz 7),fh (bu (av (ar (dk d1 16))) AR)),
 (bz 1000000000234,dj (V.d (bu (ax (az (dk d1 17))) AR) (dk d1 17))),
 (di (bz 8),fh (bu (av (ar (dk d1 18))) tTx)),
 (bz 1000000000266,dj (V.d (bu (ax (az (dk d1 19))) tTx) (dk d1 19))),
 (di (bz 9),fh (bu (av (ar (dk d1 20))) AU)),
 (bz 1000000000298,dj (V.d (bu (ax (az (dk d1 21))) AU) (dk d1 21)))])
 else
  none)) _ by kernel_rfl).trans (congrArg (fun k=>jn k _) (funext fun _=>funext fun _=>by simp only[bo,cond_true]))
section
variable {R:Type} {N:Nat}
theorem FP (a0 a1 a2 a3 a4 a5 a6 a7 a8 a9 a10 a11 a12 a13 a14 a15 a16 a17 a18 a19 a20 a21 a22 a23 a24 a25 a26 a27 a28 a29 a30 a31 a32 a33 a34 a35 a36 a37 a38 a39 a40:C) (l:List C):dk (a0::a1::a2::a3::a4::a5::a6::a7::a8::a9::a10::a11::a12::a13::a14::a15::a16::a17::a18::a19::a20::a21::a22::a23::a24::a25::a26::a27::a28::a29::a30::a31::a32::a33::a34::a35::a36::a37::a38::a39::a40::l) 40=a40:=rfl
theorem FQ (a0 a1 a2 a3 a4 a5 a6 a7 a8 a9 a10 a11 a12 a13 a14 a15 a16 a17 a18 a19 a20 a21 a22 a23 a24 a25 a26 a27 a28 a29 a30 a31 a32 a33 a34 a35 a36 a37 a38 a39 a40 a41:C) (l:List C):dk (a0::a1::a2::a3::a4::a5::a6::a7::a8::a9::a10::a11::a12::a13::a14::a15::a16::a17::a18::a19::a20::a21::a22::a23::a24::a25::a26::a27::a28::a29::a30::a31::a32::a33::a34::a35::a36::a37::a38::a39::a40::a41::l) 41=a41:=rfl
theorem FR (a0 a1 a2 a3 a4 a5 a6 a7 a8 a9 a10 a11 a12 a13 a14 a15 a16 a17 a18 a19 a20 a21 a22 a23 a24 a25 a26 a27 a28 a29 a30 a31 a32 a33 a34 a35 a36 a37 a38 a39 a40 a41 a42:C) (l:List C):dk (a0::a1::a2::a3::a4::a5::a6::a7::a8::a9::a10::a11::a12::a13::a14::a15::a16::a17::a18::a19::a20::a21::a22::a23::a24::a25::a26::a27::a28::a29::a30::a31::a32::a33::a34::a35::a36::a37::a38::a39::a40::a41::a42::l) 42=a42:=rfl
theorem FT (a0 a1 a2 a3 a4 a5 a6 a7 a8 a9 a10 a11 a12 a13 a14 a15 a16 a17 a18 a19 a20 a21 a22 a23 a24 a25 a26 a27 a28 a29 a30 a31 a32 a33 a34 a35 a36 a37 a38 a39 a40 a41 a42 a43:C) (l:List C):dk (a0::a1::a2::a3::a4::a5::a6::a7::a8::a9::a10::a11::a12::a13::a14::a15::a16::a17::a18::a19::a20::a21::a22::a23::a24::a25::a26::a27::a28::a29::a30::a31::a32::a33::a34::a35::a36::a37::a38::a39::a40::a41::a42::a43::l) 43=a43:=rfl
theorem FU (a0 a1 a2 a3 a4 a5 a6 a7 a8 a9 a10 a11 a12 a13 a14 a15 a16 a17 a18 a19 a20 a21 a22 a23 a24 a25 a26 a27 a28 a29 a30 a31 a32 a33 a34 a35 a36 a37 a38 a39 a40 a41 a42 a43 a44:C) (l:List C):dk (a0::a1::a2::a3::a4::a5::a6::a7::a8::a9::a10::a11::a12::a13::a14::a15::a16::a17::a18::a19::a20::a21::a22::a23::a24::a25::a26::a27::a28::a29::a30::a31::a32::a33::a34::a35::a36::a37::a38::a39::a40::a41::a42::a43::a44::l) 44=a44:=rfl
theorem FV (a0 a1 a2 a3 a4 a5 a6 a7 a8 a9 a10 a11 a12 a13 a14 a15 a16 a17 a18 a19 a20 a21 a22 a23 a24 a25 a26 a27 a28 a29 a30 a31 a32 a33 a34 a35 a36 a37 a38 a39 a40 a41 a42 a43 a44 a45:C) (l:List C):dk (a0::a1::a2::a3::a4::a5::a6::a7::a8::a9::a10::a11::a12::a13::a14::a15::a16::a17::a18::a19::a20::a21::a22::a23::a24::a25::a26::a27::a28::a29::a30::a31::a32::a33::a34::a35::a36::a37::a38::a39::a40::a41::a42::a43::a44::a45::l) 45=a45:=rfl
theorem FW (a0 a1 a2 a3 a4 a5 a6 a7 a8 a9 a10 a11 a12 a13 a14 a15 a16 a17 a18 a19 a20 a21 a22 a23 a24 a25 a26 a27 a28 a29 a30 a31 a32 a33 a34 a35 a36 a37 a38 a39 a40 a41 a42 a43 a44 a45 a46:C) (l:List C):dk (a0::a1::a2::a3::a4::a5::a6::a7::a8::a9::a10::a11::a12::a13::a14::a15::a16::a17::a18::a19::a20::a21::a22::a23::a24::a25::a26::a27::a28::a29::a30::a31::a32::a33::a34::a35::a36::a37::a38::a39::a40::a41::a42::a43::a44::a45::a46::l) 46=a46:=rfl
theorem FX (a0 a1 a2 a3 a4 a5 a6 a7 a8 a9 a10 a11 a12 a13 a14 a15 a16 a17 a18 a19 a20 a21 a22 a23 a24 a25 a26 a27 a28 a29 a30 a31 a32 a33 a34 a35 a36 a37 a38 a39 a40 a41 a42 a43 a44 a45 a46 a47:C) (l:List C):dk (a0::a1::a2::a3::a4::a5::a6::a7::a8::a9::a10::a11::a12::a13::a14::a15::a16::a17::a18::a19::a20::a21::a22::a23::a24::a25::a26::a27::a28::a29::a30::a31::a32::a33::a34::a35::a36::a37::a38::a39::a40::a41::a42::a43::a44::a45::a46::a47::l) 47=a47:=rfl
def Jj (s:MS) (n:Nat) (t:C):Int:=if 64<=s.yb.length then 4 else if ¬(0<=(t.get 1).toInt/\(t.get 1).toInt<(n:Int)-1)then 1 else if(t.get 3).toInt<s.least.toInt then 23 else 0
theorem q36 (s:MS) (n:Nat) (hn:n<4611686018427387904) (t:C) (k:KD R):KZ N t s.least s.yc (.int s.yd.length) (.int s.yb.length) (.int s.evs.length) (.int n) (.int n) s.kept s.has s.ye s.tab (.slice s.lst) (.agg s.yd) (.agg s.yb) (.agg s.evs) k=
  k ((if Jj s n t=0 then{s with yb:=s.yb++[t]} else s).out n (Jj s n t) s.J) []:=by
 rw[uO];unfold cH Jj;by_cases h1:64<=s.yb.length
 ·have h1':(64:Int)<=(s.yb.length:Int):=by omega
  simp only[AW,AG,AZ,BM,bc,Ac,AQ,eq_self,AE,Ag,BU,Ah,Bb,Bc,and_self,bh,bo,BD,cr,AF,AJ,AL,AP,AV,Ab,Af,Ak,Ao,BC,Aq,Ar,Au,Av,Aw,Ax,Ay,Az,BA,BB,BG,BH,BI,BJ,BK,BL,CB,CC,CD,CE,CF,CG,CH,CI,CJ,CK,CL,CM,CN,DP,FP,FQ,FR,FT,FU,FV,FW,FX,h1,h1',show ¬(4:Int)=0 by decide,AB];rfl
 have h1':¬(64:Int)<=(s.yb.length:Int):=by omega
 by_cases h2:0<=(t.get 1).toInt/\(t.get 1).toInt<(n:Int)-1
 case neg=>
  simp only[AW,AG,AZ,BM,bc,Ac,AQ,eq_self,AE,Ag,BU,Ah,Bb,Bc,and_self,bh,bo,BD,cr,AF,AJ,AL,AP,AV,Ab,Af,Ak,Ao,BC,Aq,Ar,Au,Av,Aw,Ax,Ay,Az,BA,BB,BG,BH,BI,BJ,BK,BL,CB,CC,CD,CE,CF,CG,CH,CI,CJ,CK,CL,CM,CN,DP,FP,FQ,FR,FT,FU,FV,FW,FX,h1,h1',Kl n hn,h2,not_false_iff,show ¬(1:Int)=0 by decide,AB];rfl
 by_cases h3:(t.get 3).toInt<s.least.toInt;{simp only[AW,AG,AZ,BM,bc,Ac,AQ,eq_self,AE,Ag,BU,Ah,Bb,Bc,and_self,bh,bo,BD,cr,AF,AJ,AL,AP,AV,Ab,Af,Ak,Ao,BC,Aq,Ar,Au,Av,Aw,Ax,Ay,Az,BA,BB,BG,BH,BI,BJ,BK,BL,CB,CC,CD,CE,CF,CG,CH,CI,CJ,CK,CL,CM,CN,DP,FP,FQ,FR,FT,FU,FV,FW,FX,h1,h1',Kl n hn,h2,h3,not_true,show ¬(23:Int)=0 by decide,AB];rfl};have hlen:(s.yb.length+1)*2368<=140737488355328/\s.yb.length+1<=9223372036854775807:=by omega
 simp only[AW,AG,AZ,BM,bc,Ac,AQ,eq_self,AE,Ag,BU,Ah,Bb,Bc,and_self,bh,bo,BD,cr,AF,AJ,AL,AP,AV,Ab,Af,Ak,Ao,BC,Aq,Ar,Au,Av,Aw,Ax,Ay,Az,BA,BB,BG,BH,BI,BJ,BK,BL,CB,CC,CD,CE,CF,CG,CH,CI,CJ,CK,CL,CM,CN,DP,FP,FQ,FR,FT,FU,FV,FW,FX,h1,h1',Kl n hn,h2,h3,hlen,not_true,dx,bt,cn,cu,AB];simp only[MS.out,MS.J,jL,bt,cn,cu,bh]
structure TW (s s1:MS) (i:Nat):Prop where
 tab:s1.tab=s.tab
 least:s1.least=s.least
 yc:s1.yc=s.yc
 yb:s1.yb=s.yb
 evs:s1.evs.length=s.evs.length+i
 n:s1.yd.length<=16
 l:s1.lst.length<=s.lst.length+i
def MNb (s:MS) (n:Nat) (ts:List C) (s1:MS):Prop:=∀l:List Ent,s.lst=l.map EI->Pos s.has->s.yc= .int s.yc.toInt->Fz s.tab->(∀t∈s.yb,ML n t)->l.length+ts.length<=1000->
 s1.ye=(Gy n s.yc.toInt ts (s.ye,l)).1/\s1.lst=(Gy n s.yc.toInt ts (s.ye,l)).2.map EI/\Pos s1.has
def Mf:List C->C->C
 | [],D=>D|c::l,D=>Mf l (cm D c.toInt.toNat (.bool true))
theorem kB (c:C):∀(l:List C) (D:C),Mf (l++[c]) D=cm (Mf l D) c.toInt.toNat (.bool true)
 | [],_=>rfl|_::l,D=>kB c l _
theorem q3j (s:MS) (hs:s.lst.length<=50000) (hb:s.yd.length<=16) (z7j:Kt s.tab) {n:Nat} (hn:n<4611686018427387904) (l:List C) (hl:l.length<=1000) (hg:∀c∈l,0<=c.toInt/\c.toInt<(s.yb.length:Int)) (hp:∀t∈s.yb,TxM n t) (hev:s.evs.length<=50000) (hN:300000<N) (d1:List C) (D:C) (x1 x2 x3 x4 x5:Nat):
  ∃(out:List C) (s1:MS) (D':C),TW s s1 l.length/\MNb s n (Ea l s.yb) s1/\D'=Mf l D/\out.length=l.length/\∀k2:KD R,BO N (NY N d1 k2) [.slice l,.int 0,.int s.yb.length,.int s.yb.length,.slice [],.int (0:Nat),s.least,s.yc,.int s.yd.length,.int s.yb.length,.int s.evs.length,.int n,.int n,s.kept,s.has,s.ye,s.tab,.slice s.lst,.agg s.yd,.agg s.yb,.agg s.evs,D,.int x1,.int x2,.int x3,.int x4,.int x5,.int x1,.int x2,.int x3,.int x4,.int x5] []=
   k2 [.int ((0:Nat):Int),.int s.yb.length,.int s.yb.length,.slice out,s1.least,s1.yc,.int s1.yd.length,.int s1.yb.length,.int s1.evs.length,.int n,.int n,s1.kept,s1.has,s1.ye,s1.tab,.slice s1.lst,.agg s1.yd,.agg s1.yb,.agg s1.evs,D',.int x1,.int x2,.int x3,.int x4,.int x5,.int x1,.int x2,.int x3,.int x4,.int x5] []:=by
 have key:=LW (R:=R) (F:=fun k2=>NY N d1 k2) l.length
  (fun i st sm=>∃(out:List C) (s1:MS) (D':C),TW s s1 i/\MNb s n (Ea (l.take i) s.yb) s1/\D'=Mf (l.take i) D/\out.length=i/\st=[.slice l,.int ((0:Nat):Int),.int s.yb.length,.int s.yb.length,.slice out,.int i,s1.least,s1.yc,.int s1.yd.length,.int s1.yb.length,.int s1.evs.length,.int n,.int n,s1.kept,s1.has,s1.ye,s1.tab,.slice s1.lst,.agg s1.yd,.agg s1.yb,.agg s1.evs,D',.int x1,.int x2,.int x3,.int x4,.int x5,.int x1,.int x2,.int x3,.int x4,.int x5]/\sm=[])
  (fun d m=>∃(out:List C) (s1:MS) (D':C),TW s s1 l.length/\MNb s n (Ea l s.yb) s1/\D'=Mf l D/\out.length=l.length/\d=[.int ((0:Nat):Int),.int s.yb.length,.int s.yb.length,.slice out,s1.least,s1.yc,.int s1.yd.length,.int s1.yb.length,.int s1.evs.length,.int n,.int n,s1.kept,s1.has,s1.ye,s1.tab,.slice s1.lst,.agg s1.yd,.agg s1.yb,.agg s1.evs,D',.int x1,.int x2,.int x3,.int x4,.int x5,.int x1,.int x2,.int x3,.int x4,.int x5]/\m=[]) ?_ ?_ l.length 0 _ _ N (by omega) (by omega) ⟨[],s,D,⟨rfl,rfl,rfl,rfl,rfl,hb,bx _⟩,(fun l h1 h2 _ _ _ _=>⟨rfl,h1,h2⟩),rfl,rfl,rfl,rfl⟩
 ·obtain⟨d,m',⟨out,s1,D',h1,hnb,hd,h2,rfl,rfl⟩,heq⟩:=key;exact⟨out,s1,D',h1,hnb,hd,h2,heq⟩
 ·rintro i st sm hi ⟨out,s1,D',h,hnb,hdn,ho,rfl,rfl⟩;obtain⟨c,hc⟩:∃c,l[i]? =some c:=⟨_,bp hi⟩;have h1:(i:Int)<(l.length:Int):=by omega
  have hr:=hg c (fa hc);have hr2:0<=c.toInt/\c.toInt<(s1.yb.length:Int):=by rw[h.yb];exact hr
  have ht:TxM n (s.yb.getD c.toInt.toNat .nil):=hp _ (Ez (by omega));have he:=h.evs;have hll:=h.l;obtain⟨e,s2,hf,hmd,hdo⟩:=q3k (R:=R) (N:=N) (s:=s1) (by omega) (by rw[h.tab];exact z7j) hn ht hN;have hpe:(dv s1.yb).get c.toInt.toNat=s.yb.getD c.toInt.toNat .nil:=by rw[h.yb];rfl
  have hol:(out.length+1)*8<=140737488355328/\out.length+1<=9223372036854775807:=by omega
  have he2:s2.evs.length=s1.evs.length:=by rw[hf.evs]
  have hel:(s2.evs.length+1)*40<=140737488355328/\s2.evs.length+1<=9223372036854775807:=by omega
  have hps:s2.yb=s1.yb:=hf.yb;refine⟨_,_,⟨out++[.int e],{s2 with evs:=s2.evs++[cm (cm (cm (cm (cm (dv [bf 0,bf 0,bf 0,bf 0,bf 0]) 0 s2.yc) 1 ((s.yb.getD c.toInt.toNat .nil).get 0)) 2 ((s.yb.getD c.toInt.toNat .nil).get 1)) 3 ((s.yb.getD c.toInt.toNat .nil).get 6)) 4 (.int e)]},cm D' c.toInt.toNat (.bool true),⟨hf.tab.trans h.tab,hf.least.trans h.least,hf.yc.trans h.yc,hf.yb.trans h.yb,?_,hf.n h.n,?_⟩,?_,by rw[List.take_add_one,hc];exact(congrArg (fun x=>cm x c.toInt.toNat (.bool true)) hdn).trans (kB c _ _).symm,by simp[ho],rfl,rfl⟩,fun k2 rec=>?_⟩;{show(s2.evs++[_]).length=_;rw[bt,he2,he];simp only[cn,cu];omega};{have:=hf.l;show s2.lst.length<=_;omega}
  ·intro l0 q1 q2 q3 q4 q5 q6;have q7:(Ea (l.take (i+1)) s.yb).length=i+1:=by unfold Ea;rw[fq,jq];omega
   have q8:(Ea (l.take i) s.yb).length=i:=by unfold Ea;rw[fq,jq];omega
   obtain⟨w1,w2,w3⟩:=hnb l0 q1 q2 q3 q4 q5 (by omega);have w4:=qV n s.yc.toInt (Ea (l.take i) s.yb) (s.ye,l0);have hh1:s1.yc=s.yc:=h.yc;have:=hmd _ (q5 _ (Ez (show c.toInt.toNat<s.yb.length by omega))) w2 w3 (by rw[hh1];exact q3) (by rw[h.tab];exact q4) (by dsimp only at w4;omega);rw[sK l s.yb hc,q38];rw[hh1,w1]at this;exact this
  show NY N d1 k2 rec _ _=_;unfold NY;simp only[AW,AG,AZ,BM,bc,Ac,AQ,eq_self,AE,Ag,BU,Ah,Bb,Bc,and_self,bh,bo,BD,cr,AF,AJ,AL,AP,AV,Ab,Af,Ak,Ao,BC,Aq,Ar,Au,Av,Aw,Ax,Ay,Az,BA,BB,BG,BH,BI,BJ,BK,BL,CB,CC,CD,CE,CF,CG,CH,CI,CJ,CK,CL,CM,CN,DP,FP,FQ,FR,FT,FU,FV,FW,FX,h1,Fo hc,cf,hr,hr2,hpe,hdo,AB];simp only[AW,AG,AZ,BM,bc,Ac,AQ,eq_self,AE,Ag,BU,Ah,Bb,Bc,and_self,bh,bo,BD,cr,AF,AJ,AL,AP,AV,Ab,Af,Ak,Ao,BC,Aq,Ar,Au,Av,Aw,Ax,Ay,Az,BA,BB,BG,BH,BI,BJ,BK,BL,CB,CC,CD,CE,CF,CG,CH,CI,CJ,CK,CL,CM,CN,DP,FP,FQ,FR,FT,FU,FV,FW,FX,MS.out,MS.J,jL,hol,hel,dx,bt,cn,cu,CV (show i<4611686018427387904 by omega),AB]
 ·rintro st sm ⟨out,s1,D',h,hnb,hdn,ho,rfl,rfl⟩;refine⟨_,_,⟨out,s1,D',h,by rw[dx]at hnb;exact hnb,by rw[hdn,dx],ho,rfl,rfl⟩,fun k2 rec=>?_⟩;show NY N d1 k2 rec _ _=_;unfold NY;simp only[AW,AG,AZ,BM,bc,Ac,AQ,eq_self,AE,Ag,BU,Ah,Bb,Bc,and_self,bh,bo,BD,cr,AF,AJ,AL,AP,AV,Ab,Af,Ak,Ao,BC,Aq,Ar,Au,Av,Aw,Ax,Ay,Az,BA,BB,BG,BH,BI,BJ,BK,BL,CB,CC,CD,CE,CF,CG,CH,CI,CJ,CK,CL,CM,CN,DP,FP,FQ,FR,FT,FU,FV,FW,FX,fj,AB]
theorem q3R (s:MS) (hpl:s.yb.length<=1000) (n:Nat) (out:List C) (hN:300000<N) (d1:List C) (D:C) (x1 x2 x3 x4 x5:Nat):
  ∃left:List C,left.length<=s.yb.length/\(∀t∈left,t∈s.yb)/\((∀i<s.yb.length,(D.get i).toBool=true)->left=[])/\∀k2:KD R,BO N (KY N d1 k2) [.int ((0:Nat):Int),.int s.yb.length,.int s.yb.length,.slice out,.int (0:Nat),.int (0:Nat),s.least,s.yc,.int s.yd.length,.int s.yb.length,.int s.evs.length,.int n,.int n,s.kept,s.has,s.ye,s.tab,.slice s.lst,.agg s.yd,.agg s.yb,.agg s.evs,D,.int x1,.int x2,.int x3,.int x4,.int x5,.int x1,.int x2,.int x3,.int x4,.int x5,.int x1,.int x2,.int x3,.int x4,.int x5,.int x1,.int x2,.int x3,.int x4,.int x5,.agg []] []=
   k2 [.slice out,.int left.length,s.least,s.yc,.int s.yd.length,.int s.yb.length,.int s.evs.length,.int n,.int n,s.kept,s.has,s.ye,s.tab,.slice s.lst,.agg s.yd,.agg s.yb,.agg s.evs,.int x1,.int x2,.int x3,.int x4,.int x5,.int x1,.int x2,.int x3,.int x4,.int x5,.int x1,.int x2,.int x3,.int x4,.int x5,.int x1,.int x2,.int x3,.int x4,.int x5,.agg left] []:=by
 have key:=LW (R:=R) (F:=fun k2=>KY N d1 k2) s.yb.length
  (fun i st sm=>∃left:List C,left.length<=i/\(∀t∈left,t∈s.yb)/\((∀i<s.yb.length,(D.get i).toBool=true)->left=[])/\st=[.int ((0:Nat):Int),.int s.yb.length,.int s.yb.length,.slice out,.int left.length,.int i,s.least,s.yc,.int s.yd.length,.int s.yb.length,.int s.evs.length,.int n,.int n,s.kept,s.has,s.ye,s.tab,.slice s.lst,.agg s.yd,.agg s.yb,.agg s.evs,D,.int x1,.int x2,.int x3,.int x4,.int x5,.int x1,.int x2,.int x3,.int x4,.int x5,.int x1,.int x2,.int x3,.int x4,.int x5,.int x1,.int x2,.int x3,.int x4,.int x5,.agg left]/\sm=[])
  (fun d m=>∃left:List C,left.length<=s.yb.length/\(∀t∈left,t∈s.yb)/\((∀i<s.yb.length,(D.get i).toBool=true)->left=[])/\d=[.slice out,.int left.length,s.least,s.yc,.int s.yd.length,.int s.yb.length,.int s.evs.length,.int n,.int n,s.kept,s.has,s.ye,s.tab,.slice s.lst,.agg s.yd,.agg s.yb,.agg s.evs,.int x1,.int x2,.int x3,.int x4,.int x5,.int x1,.int x2,.int x3,.int x4,.int x5,.int x1,.int x2,.int x3,.int x4,.int x5,.int x1,.int x2,.int x3,.int x4,.int x5,.agg left]/\m=[]) ?_ ?_ s.yb.length 0 _ _ N (by omega) (by omega) ⟨[],bx _,(fun _ h=>nomatch h),(fun _=>rfl),rfl,rfl⟩
 ·obtain⟨d,m',⟨left,h1,h2,h3,rfl,rfl⟩,heq⟩:=key;exact⟨left,h1,h2,h3,heq⟩
 ·rintro i st sm hi ⟨left,hl,hm,hz,rfl,rfl⟩;have h1:(i:Int)<(s.yb.length:Int):=by omega
  have hol:(left.length+1)*2368<=140737488355328/\left.length+1<=9223372036854775807:=by omega
  have hg:(dv s.yb).get i=s.yb.getD i .nil:=rfl;cases hD:(D.get i).toBool with
  |true=>
   refine⟨_,_,⟨left,by omega,hm,hz,rfl,rfl⟩,fun k2 rec=>?_⟩;show KY N d1 k2 rec _ _=_;unfold KY;simp only[AW,AG,AZ,BM,bc,Ac,AQ,eq_self,AE,Ag,BU,Ah,Bb,Bc,and_self,bh,bo,BD,cr,AF,AJ,AL,AP,AV,Ab,Af,Ak,Ao,BC,Aq,Ar,Au,Av,Aw,Ax,Ay,Az,BA,BB,BG,BH,BI,BJ,BK,BL,CB,CC,CD,CE,CF,CG,CH,CI,CJ,CK,CL,CM,CN,DP,FP,FQ,FR,FT,FU,FV,FW,FX,h1,cf,hD,CV (show i<4611686018427387904 by omega),AB]
  |false=>
   refine⟨_,_,⟨left++[s.yb.getD i .nil],by simp;omega,fun t ht=>?_,(fun h=>by rw[h i hi]at hD;cases hD),rfl,rfl⟩,fun k2 rec=>?_⟩;{rcases ed.1 ht with h|h;{exact hm t h};{rw[fv.1 h];exact Ez hi}};show KY N d1 k2 rec _ _=_;unfold KY;simp only[AW,AG,AZ,BM,bc,Ac,AQ,eq_self,AE,Ag,BU,Ah,Bb,Bc,and_self,bh,bo,BD,cr,AF,AJ,AL,AP,AV,Ab,Af,Ak,Ao,BC,Aq,Ar,Au,Av,Aw,Ax,Ay,Az,BA,BB,BG,BH,BI,BJ,BK,BL,CB,CC,CD,CE,CF,CG,CH,CI,CJ,CK,CL,CM,CN,DP,FP,FQ,FR,FT,FU,FV,FW,FX,h1,cf,hD,hol,hg,dx,bt,cn,cu,CV (show i<4611686018427387904 by omega),AB]
 ·rintro st sm ⟨left,hl,hm,hz,rfl,rfl⟩;refine⟨_,_,⟨left,hl,hm,hz,rfl,rfl⟩,fun k2 rec=>?_⟩;show KY N d1 k2 rec _ _=_;unfold KY;simp only[AW,AG,AZ,BM,bc,Ac,AQ,eq_self,AE,Ag,BU,Ah,Bb,Bc,and_self,bh,bo,BD,cr,AF,AJ,AL,AP,AV,Ab,Af,Ak,Ao,BC,Aq,Ar,Au,Av,Aw,Ax,Ay,Az,BA,BB,BG,BH,BI,BJ,BK,BL,CB,CC,CD,CE,CF,CG,CH,CI,CJ,CK,CL,CM,CN,DP,FP,FQ,FR,FT,FU,FV,FW,FX,fj,AB]
end
section
variable {R:Type} {N:Nat}
def CU (m:Nat):List C:=(gh m).map fun i=>bf (i:Nat)
theorem IZ (m:Nat):(CU m).length=m:=by simp[CU]
theorem Nb {m i:Nat} (h:i<m):(CU m)[i]? =some (.int (i:Nat)):=by simp[CU,h]
theorem cV {m:Nat} {c:C} (h:c∈CU m):0<=c.toInt/\c.toInt<(m:Int):=by unfold CU at h;obtain⟨i,hi,rfl⟩:=List.mem_map.1 h;have:=List.mem_range.1 hi;show 0<=(i:Int)/\(i:Int)<(m:Int);omega
theorem q0e (L:List C):∀(l:List C),(∀c∈l,0<=c.toInt/\c.toInt<(L.length:Int))->∃L':List C,Mf l (.agg L)= .agg L'/\L'.length=L.length/\(∀i,(L.getD i .nil).toBool=true->(L'.getD i .nil).toBool=true)/\∀c∈l,(L'.getD c.toInt.toNat .nil).toBool=true:=by
 intro l
 induction l generalizing L with
 |nil=>exact fun _=>⟨L,rfl,rfl,fun _ h=>h,fun _ h=>nomatch h⟩|cons c l ih=>
  intro h;have hc:=h c (List.mem_cons_self ..);obtain⟨L',h1,h2,h3,h4⟩:=ih (L.set c.toInt.toNat (.bool true)) fun d hd=>by rw[dp];exact h d (List.mem_cons_of_mem _ hd)
  rw[dp]at h2;have zj:((L.set c.toInt.toNat (.bool true)).getD c.toInt.toNat .nil).toBool=true:=by
   have hlt:c.toInt.toNat<L.length:=by omega
   rw[Fo (c:=.bool true) (by simp[hlt])];rfl
  refine⟨L',h1,h2,fun i hi=>h3 i ?_,fun d hd=>?_⟩
  ·by_cases e:i=c.toInt.toNat;{rw[e];exact zj}
   ·have:(L.set c.toInt.toNat (.bool true)).getD i .nil=L.getD i .nil:=by rw[bq,bq,List.getElem?_set_ne (fun h=>e h.symm)]
    rw[this];exact hi
  ·rcases List.mem_cons.1 hd with rfl|hd;{exact h3 _ zj};{exact h4 d hd}
def MS.Ga (s:MS) (n:Nat) (out:List C) (e:Int) (j:Nat->C):List C:=[.slice out,.int e,s.tab,.slice s.lst,s.least,s.yc,.int s.yd.length,.int s.yb.length,.int s.evs.length,.int n,.int n,s.kept,j 0,s.has,j 1,s.ye,j 2,.agg s.yd,j 3,.agg s.yb,j 4,.agg s.evs]
def MS.high (s:MS):MS:={s with yc:=.int (IntKind.u64.wrap (s.yc.toInt+1))}
theorem q37 (s:MS) (n m i:Nat) (hm:m<=1000) (hi:i<m) (hN:300000<N) (x1 x2 x3 x4 x5:Nat) (k1 k2:KD R):
  BO N (Se N k1 k2) [.slice (CU m),.int i,.int (0:Nat),s.least,s.yc,.int s.yd.length,.int s.yb.length,.int s.evs.length,.int n,.int n,s.kept,s.has,s.ye,s.tab,.slice s.lst,.agg s.yd,.agg s.yb,.agg s.evs,.int x1,.int x2,.int x3,.int x4,.int x5,.int x1,.int x2,.int x3,.int x4,.int x5,.int x1,.int x2,.int x3,.int x4,.int x5] []=k2 [.slice (CU m),.int i,s.least,s.yc,.int s.yd.length,.int s.yb.length,.int s.evs.length,.int n,.int n,s.kept,s.has,s.ye,s.tab,.slice s.lst,.agg s.yd,.agg s.yb,.agg s.evs,.int x1,.int x2,.int x3,.int x4,.int x5,.int x1,.int x2,.int x3,.int x4,.int x5,.int x1,.int x2,.int x3,.int x4,.int x5] []:=by
 refine Fw (R:=R) (F:=Se N k1 k2) (fun j=>[.slice (CU m),.int i,.int j,s.least,s.yc,.int s.yd.length,.int s.yb.length,.int s.evs.length,.int n,.int n,s.kept,s.has,s.ye,s.tab,.slice s.lst,.agg s.yd,.agg s.yb,.agg s.evs,.int x1,.int x2,.int x3,.int x4,.int x5,.int x1,.int x2,.int x3,.int x4,.int x5,.int x1,.int x2,.int x3,.int x4,.int x5]) (fun _=>[]) i _ ?_ ?_ (N:=N) (by omega)
 ·intro j hj rec;have h1:(j:Int)<(i:Int):=by omega
  have h2:(j:Int)<((CU m).length:Int):=by rw[IZ];omega
  have h3:(i:Int)<((CU m).length:Int):=by rw[IZ];omega
  have h4:¬(j:Int)=(i:Int):=by omega
  unfold Se;simp only[AW,AG,AZ,BM,bc,Ac,AQ,eq_self,AE,Ag,BU,Ah,Bb,Bc,and_self,bh,bo,BD,cr,AF,AJ,AL,AP,AV,Ab,Af,Ak,Ao,BC,Aq,Ar,Au,Av,Aw,Ax,Ay,Az,BA,BB,BG,BH,BI,BJ,BK,BL,CB,CC,CD,CE,CF,CG,CH,CI,CJ,CK,CL,CM,CN,DP,FP,FQ,FR,FT,FU,FV,FW,FX,h1,h2,h3,h4,Fo (Nb (show j<m by omega)),Fo (Nb hi),cf,CV (show j<4611686018427387904 by omega),AB]
 ·intro rec;unfold Se;simp only[AW,AG,AZ,BM,bc,Ac,AQ,eq_self,AE,Ag,BU,Ah,Bb,Bc,and_self,bh,bo,BD,cr,AF,AJ,AL,AP,AV,Ab,Af,Ak,Ao,BC,Aq,Ar,Au,Av,Aw,Ax,Ay,Az,BA,BB,BG,BH,BI,BJ,BK,BL,CB,CC,CD,CE,CF,CG,CH,CI,CJ,CK,CL,CM,CN,DP,FP,FQ,FR,FT,FU,FV,FW,FX,fj,AB]
theorem q3i (s:MS) (n:Nat) (hm:s.yb.length<=1000) (hN:300000<N) (x1 x2 x3 x4 x5:Nat) (k1 k2:KD R):
  BO N (Sf N k1 k2) [.slice (CU s.yb.length),.int (0:Nat),s.least,s.yc,.int s.yd.length,.int s.yb.length,.int s.evs.length,.int n,.int n,s.kept,.int x1,s.has,.int x2,s.ye,s.tab,.slice s.lst,.int x3,.agg s.yd,.int x4,.agg s.yb,.int x5,.agg s.evs] []=
   k2 [.slice (CU s.yb.length),s.least,s.yc,.int s.yd.length,.int s.yb.length,.int s.evs.length,.int n,.int n,s.kept,.int x1,s.has,.int x2,s.ye,s.tab,.slice s.lst,.int x3,.agg s.yd,.int x4,.agg s.yb,.int x5,.agg s.evs] []:=by
 refine Fw (R:=R) (F:=Sf N k1 k2) (fun i=>[.slice (CU s.yb.length),.int i,s.least,s.yc,.int s.yd.length,.int s.yb.length,.int s.evs.length,.int n,.int n,s.kept,.int x1,s.has,.int x2,s.ye,s.tab,.slice s.lst,.int x3,.agg s.yd,.int x4,.agg s.yb,.int x5,.agg s.evs]) (fun _=>[]) s.yb.length _ ?_ ?_ (N:=N) (by omega)
 ·intro i hi rec;have h1:(i:Int)<((CU s.yb.length).length:Int):=by rw[IZ];omega
  have h2:¬(i:Int)<0:=by omega
  have h3:¬(s.yb.length:Int)<=(i:Int):=by omega
  unfold Sf;simp only[AW,AG,AZ,BM,bc,Ac,AQ,eq_self,AE,Ag,BU,Ah,Bb,Bc,and_self,bh,bo,BD,cr,AF,AJ,AL,AP,AV,Ab,Af,Ak,Ao,BC,Aq,Ar,Au,Av,Aw,Ax,Ay,Az,BA,BB,BG,BH,BI,BJ,BK,BL,CB,CC,CD,CE,CF,CG,CH,CI,CJ,CK,CL,CM,CN,DP,FP,FQ,FR,FT,FU,FV,FW,FX,h1,h2,h3,Fo (Nb hi),cf,AB];refine(q37 s n s.yb.length i hm hi hN x1 x2 x3 x4 x5 _ _).trans ?_;simp only[AW,AG,AZ,BM,bc,Ac,AQ,eq_self,AE,Ag,BU,Ah,Bb,Bc,and_self,bh,bo,BD,cr,AF,AJ,AL,AP,AV,Ab,Af,Ak,Ao,BC,Aq,Ar,Au,Av,Aw,Ax,Ay,Az,BA,BB,BG,BH,BI,BJ,BK,BL,CB,CC,CD,CE,CF,CG,CH,CI,CJ,CK,CL,CM,CN,DP,FP,FQ,FR,FT,FU,FV,FW,FX,CV (show i<4611686018427387904 by omega),AB]
 ·intro rec;unfold Sf;simp only[AW,AG,AZ,BM,bc,Ac,AQ,eq_self,AE,Ag,BU,Ah,Bb,Bc,and_self,bh,bo,BD,cr,AF,AJ,AL,AP,AV,Ab,Af,Ak,Ao,BC,Aq,Ar,Au,Av,Aw,Ax,Ay,Az,BA,BB,BG,BH,BI,BJ,BK,BL,CB,CC,CD,CE,CF,CG,CH,CI,CJ,CK,CL,CM,CN,DP,FP,FQ,FR,FT,FU,FV,FW,FX,IZ,fj,AB]
theorem sJ (yb:List C):Ea (CU yb.length) yb=yb:=by apply List.ext_getElem?;intro i;unfold Ea;rw[List.getElem?_map];by_cases h:i<yb.length;{rw[Nb h];show some (yb.getD (i:Int).toNat .nil)=_;rw[bc,bq,bp h];rfl};{rw[gd (by rw[IZ];omega),gd (by omega)];rfl}
theorem q3h (s:MS) (hs:s.lst.length<=50000) (hb:s.yd.length<=16) (z7j:Kt s.tab) {n:Nat} (hn:n<4611686018427387904) (hpl:s.yb.length<=1000) (hp:∀t∈s.yb,TxM n t) (hev:s.evs.length+s.yb.length<=1024) (hN:300000<N):
  ∃(out:List C) (s1:MS),TW s.high s1 s.yb.length/\MNb s.high n s.yb s1/\∀k:KD R,Px N (.slice (CU s.yb.length)) s.least s.yc (.int s.yd.length) (.int s.yb.length) (.int s.evs.length) (.int n) (.int n) s.kept s.has s.ye s.tab (.slice s.lst) (.agg s.yd) (.agg s.yb) (.agg s.evs) k=
   k ({s1 with yb:=[]}.Ga n out 0 s.J) []:=by
 have hdo:=q3j (R:=R) (N:=N) s.high hs hb z7j hn (CU s.yb.length) (by rw[IZ];exact hpl) (fun c hc=>cV hc) hp (by show s.evs.length<=50000;omega) hN
  [.slice (CU s.yb.length),s.least,s.yc,.int s.yd.length,.int s.yb.length,.int s.evs.length,.int n,.int n,s.kept,.int s.has.elems.length,s.has,.int s.ye.elems.length,s.ye,s.tab,.slice s.lst,.int s.yd.length,.agg s.yd,.int s.yb.length,.agg s.yb,.int s.evs.length,.agg s.evs]
  (.agg (bw s.yb.length (AH dq))) s.has.elems.length s.ye.elems.length s.yd.length s.yb.length s.evs.length
 obtain⟨out,s1,D',hm,hnb,hD,ho,hq⟩:=hdo;have hnb:MNb s.high n (Ea (CU s.yb.length) s.yb) s1:=hnb;rw[sJ]at hnb;rw[IZ]at hm ho;have hp1:s1.yb=s.yb:=hm.yb;obtain⟨L',e1,e2,_,e4⟩:=q0e (bw s.yb.length (AH dq)) (CU s.yb.length) (fun c hc=>by rw[List.length_replicate];exact cV hc);rw[e1]at hD
 obtain⟨left,_,_,hz,hq2⟩:=q3R (R:=R) (N:=N) s1 (by rw[hp1];exact hpl) n out hN
  [.slice (CU s.yb.length),s.least,s.yc,.int s.yd.length,.int s.yb.length,.int s.evs.length,.int n,.int n,s.kept,.int s.has.elems.length,s.has,.int s.ye.elems.length,s.ye,s.tab,.slice s.lst,.int s.yd.length,.agg s.yd,.int s.yb.length,.agg s.yb,.int s.evs.length,.agg s.evs]
  D' s.has.elems.length s.ye.elems.length s.yd.length s.yb.length s.evs.length
 have z8Q:left=[]:=hz fun i hi=>by rw[hp1]at hi;rw[hD];exact e4 (.int (i:Nat)) (fa (Nb hi))
 subst z8Q;have hev1:s1.evs.length=s.evs.length+s.yb.length:=hm.evs;have hle:¬(1024:Int)<(s1.evs.length:Int):=by omega
 have g1:0<=(s.yb.length:Int)/\(s.yb.length:Int)<=(s.yb.length:Int)/\(s.yb.length:Int)<=9223372036854775807/\s.yb.length*1<=140737488355328:=by omega
 refine⟨out,s1,hm,hnb,fun k=>?_⟩;rw[uL];unfold cG;simp only[AW,AG,AZ,BM,bc,Ac,AQ,eq_self,AE,Ag,BU,Ah,Bb,Bc,and_self,bh,bo,BD,cr,AF,AJ,AL,AP,AV,Ab,Af,Ak,Ao,BC,Aq,Ar,Au,Av,Aw,Ax,Ay,Az,BA,BB,BG,BH,BI,BJ,BK,BL,CB,CC,CD,CE,CF,CG,CH,CI,CJ,CK,CL,CM,CN,DP,FP,FQ,FR,FT,FU,FV,FW,FX,AB];refine(q3i s n hpl hN _ _ _ _ _ _ _).trans ?_;simp only[AW,AG,AZ,BM,bc,Ac,AQ,eq_self,AE,Ag,BU,Ah,Bb,Bc,and_self,bh,bo,BD,cr,AF,AJ,AL,AP,AV,Ab,Af,Ak,Ao,BC,Aq,Ar,Au,Av,Aw,Ax,Ay,Az,BA,BB,BG,BH,BI,BJ,BK,BL,CB,CC,CD,CE,CF,CG,CH,CI,CJ,CK,CL,CM,CN,DP,FP,FQ,FR,FT,FU,FV,FW,FX,g1,AB];refine(hq _).trans ?_;simp only[AW,AG,AZ,BM,bc,Ac,AQ,eq_self,AE,Ag,BU,Ah,Bb,Bc,and_self,bh,bo,BD,cr,AF,AJ,AL,AP,AV,Ab,Af,Ak,Ao,BC,Aq,Ar,Au,Av,Aw,Ax,Ay,Az,BA,BB,BG,BH,BI,BJ,BK,BL,CB,CC,CD,CE,CF,CG,CH,CI,CJ,CK,CL,CM,CN,DP,FP,FQ,FR,FT,FU,FV,FW,FX,hle,AB];rw[hp1]at hq2 ⊢;refine(hq2 _).trans ?_;simp only[AW,AG,AZ,BM,bc,Ac,AQ,eq_self,AE,Ag,BU,Ah,Bb,Bc,and_self,bh,bo,BD,cr,AF,AJ,AL,AP,AV,Ab,Af,Ak,Ao,BC,Aq,Ar,Au,Av,Aw,Ax,Ay,Az,BA,BB,BG,BH,BI,BJ,BK,BL,CB,CC,CD,CE,CF,CG,CH,CI,CJ,CK,CL,CM,CN,DP,FP,FQ,FR,FT,FU,FV,FW,FX,AB];rfl
end
section
variable {R:Type} {N:Nat}
theorem iV (p q r:Nat->Bool) (h:∀x,r x=(p x||q x)) (hd:∀x,p x=true->q x=false):∀l:List Nat,l.countP r=l.countP p+l.countP q
 | []=>rfl|x::l=>by
  have ih:=iV p q r h hd l;simp only[vy,h x,ih];cases hp:p x with
  |true=>rw[hd x hp];simp;omega|false=>cases q x <;> simp <;> omega
def Ng (at_:List C) (m:Nat) (n:Int):Nat:=(gh m).countP fun i=>decide (i<at_.length/\(at_.getD i .nil).toInt=n)
def TG (at_:List C) (m:Nat) (n:Int):Nat:=(gh m).countP fun i=>decide (i<at_.length/\(at_.getD i .nil).toInt<n)
theorem q8n (at_:List C) (m:Nat) (n:Int):TG at_ m (n+1)=TG at_ m n+Ng at_ m n:=by refine iV _ _ _ (fun x=>?_) (fun x hx=>?_) _;{rw[Bool.eq_iff_iff];simp only[Bool.or_eq_true,decide_eq_true_iff];omega};{simp only[decide_eq_true_iff,decide_eq_false_iff_not]at hx ⊢;omega}
theorem xD (at_:List C) (m:Nat) (n:Int):TG at_ m n<=m:=by unfold TG;exact kq List.countP_le_length (by simp)
theorem q8m (at_:List C) (m i:Nat) (n:Int):Ng at_ (i+1) n=Ng at_ i n+(if i<at_.length/\(at_.getD i .nil).toInt=n then 1 else 0):=by unfold Ng;rw[List.range_succ,List.countP_append];simp[vy]
theorem q1v (c:C) (v:Int) (hb:(c.get 1).toInt=0\/(c.get 1).toInt=1) (hv:v=0\/v=1\/v=2) (own other:C) (ho:own.toInt=(c.get 1).toInt) (hr:other.toInt=1-(c.get 1).toInt):
  MP c own 3 v=0/\MP c other 4 v=0/\MP c other 3 v=(if v=1 then 0 else 30)/\MP c own 4 v=(if v=2 then 0 else 30):=by
 have h1:(c.get 1).toInt=own.toInt:=ho.symm;have h2:¬(c.get 1).toInt=other.toInt:=by omega
 unfold MP;simp[h1,h2];omega
end
section
variable {R:Type} {N:Nat}
theorem q75 (s:CS) (m:MS) (n:Nat) (t t':C) (hp:s.yb.length=m.yb.length) (hl:s.least=m.least) (h1:t.get 1=t'.get 1) (h3:t.get 3=t'.get 3):TE s n t=Jj m n t':=by
 unfold TE Jj;rw[hp,hl,h1,h3];by_cases g:(t'.get 1).toInt<0\/(n:Int)-1<=(t'.get 1).toInt
 ·have g':¬(0<=(t'.get 1).toInt/\(t'.get 1).toInt<(n:Int)-1):=by omega
  rw[if_pos g,if_pos g']
 ·have g':¬¬(0<=(t'.get 1).toInt/\(t'.get 1).toInt<(n:Int)-1):=by omega
  rw[if_neg g,if_neg g']
theorem q1H {m i:Nat} (h:i<m):Fp (CU m) (.int (i:Nat))=true:=by unfold Fp;rw[List.any_eq_true];exact⟨.int (i:Nat),fa (Nb h),decide_eq_true rfl⟩
theorem oW {m:Nat}:∀(l:List C) (i:Nat),i+l.length<=m->DT (CU m) i l=[]
 | [],_,_=>rfl|c::l,i,h=>by simp only[cn]at h;simp only[DT,q1H (show i<m by omega),if_true,AB];exact oW l (i+1) (by omega)
theorem q6X {m i:Nat} (hi:i<=m):cut (CU m) 0 i=CU i:=by simp only[cut,CU,cr,List.drop_zero,bc,<-List.map_take,List.take_range,Nat.min_eq_left hi]
theorem q1I {m i:Nat} (h:m<=i):Fp (CU m) (.int (i:Nat))=false:=by unfold Fp;rw[List.any_eq_false];intro c hc;have:=cV hc;simp only[decide_eq_true_iff];show ¬(i:Int)=c.toInt;omega
theorem gP {m:Nat}:∀(l:List C) (i:Nat),(∀j,l[j]? =(CU m)[i+j]?)->i+l.length=m->CQ (JN (CU m) m) i () l= .inl ()
 | [],_,_,_=>rfl|c::l,i,hg,hm=>by
  simp only[cn]at hm;have h0:=hg 0;rw[Nat.add_zero,Nb (show i<m by omega)]at h0;have hc:c= .int (i:Nat):=by simpa using h0
  have hb:JN (CU m) m i () c= .inl ():=by unfold JN;rw[hc,q6X (show i<=m by omega),q1I (bx i)];exact if_neg (by simp only[Bool.false_eq_true,or_false];show ¬((i:Int)<0\/(m:Int)<=(i:Int));omega)
  simp only[CQ,hb];refine gP l (i+1) (fun j=>?_) (by omega);have:=hg (j+1);rw[show i+1+j=i+(j+1) by omega,<-this];rfl
theorem u0 (s:CS) (h:s.yc.toInt<1073741824):Il s (CU s.yb.length)=0:=by unfold Il;rw[if_neg (by omega),gP (CU s.yb.length) 0 (fun j=>by rw[bh]) (by rw[IZ];omega)]
end
section
variable {R:Type} {N:Nat}
def HN (t:C):C × C × C × C:=(t.get 0,t.get 1,t.get 2,t.get 7)
theorem q39 {n:Nat} {h:Int} {x:C × List Ent} {t t':C} (e:HN t=HN t'):FH n h x t=FH n h x t':=by simp only[HN,fx]at e;obtain⟨e0,e1,e2,e7⟩:=e;unfold FH JF;rw[e0,e1,e2,e7]
theorem qU {n:Nat} {h:Int}:∀{ts ts':List C} {x:C × List Ent},ts.map HN=ts'.map HN->Gy n h ts x=Gy n h ts' x
 | [],[],_,_=>rfl| [],_::_,_,e=>by cases e
 |_::_,[],_,e=>by cases e
 |t::ts,t'::ts',x,e=>by simp only[List.map_cons,List.cons.injEq]at e;show Gy n h ts (FH n h x t)=Gy n h ts' (FH n h x t');rw[q39 e.1];exact qU e.2
structure Dy (s:CS) (m:MS) (u:Nat):Prop where
 FF:GQ s
 p:∀t∈s.yb,TxG t
 mp:∀t∈m.yb,TxM 5 t
 len:s.yb.length=m.yb.length
 least:s.least=m.least
 evs:s.evs.length+s.yb.length<=u
 z7k:m.evs.length+m.yb.length<=u
 tab:Kt m.tab
 lst:m.lst.length+m.yb.length<=u
 yd:m.yd.length<=16
 yc:0<=s.yc.toInt/\s.yc.toInt<=100000
 z7l:Fz m.tab
 heq:s.yc=m.yc
 hint:s.yc= .int s.yc.toInt
 ye:s.ye=m.ye
 pos:Pos s.has
 z7z:Pos m.has
 ord:∀t∈s.yb,ML 5 t
 z7A:∀t∈m.yb,ML 5 t
 keys:s.yb.map HN=m.yb.map HN
 book:∃l:List Ent,s.book=l.map EJ/\m.lst=l.map EI
theorem q7t {s:CS} {m:MS} {u:Nat} (h:Dy s m u) (hu:u<=64) (hh:s.yc.toInt<100000) (hN:2199023255552<N) (hN2:N<4611686018427387904):
  ∃(out:List C) (s':CS) (j:Nat->C) (z7B:List C) (m':MS),Dy s' m' u/\s'.yc.toInt=s.yc.toInt+1/\
   (∀k:KD R,OQ N (.slice (CU m.yb.length)) s.least s.yc (.int s.yd.length) (.int s.yb.length) (.int s.evs.length) (.int (5:Nat)) (.int (5:Nat)) s.kept s.has s.ye (.agg s.yd) (.agg s.yb) (.agg s.evs) .nil s.book k=k (s'.Ga 5 out 0 j) [s'.book])/\
   ∀k:KD R,Px N (.slice (CU m.yb.length)) m.least m.yc (.int m.yd.length) (.int m.yb.length) (.int m.evs.length) (.int (5:Nat)) (.int (5:Nat)) m.kept m.has m.ye m.tab (.slice m.lst) (.agg m.yd) (.agg m.yb) (.agg m.evs) k=k (m'.Ga 5 z7B 0 m.J) []:=by
 have he:=h.evs;have hme:=h.z7k;have hll:=h.lst;have hlen:=h.len;obtain⟨out,s',j,hb,hq⟩:=k7 (R:=R) (N:=N) s h.FF 5 (by decide) (CU s.yb.length) (by rw[IZ];omega) h.p (by omega) (by rw[IZ];omega) hN hN2;have hE:=u0 s (by omega);obtain⟨z7B,m1,hm,hmn,hmq⟩:=q3h (R:=R) (N:=N) m (by omega) h.yd h.tab (n:=5) (by decide) (by omega) h.mp (by omega) (by omega);rcases hb with⟨b1,_⟩|⟨_,s1,hs1,rfl⟩;{exact absurd hE b1};have hl0:DT (CU s.yb.length) 0 s.yb=[]:=oW s.yb 0 (by omega);have hev:=hs1.evs;have z7e:(Ea (CU s.yb.length) s.yb).length=s.yb.length:=by unfold Ea;rw[fq,IZ]
 rw[z7e]at hev;have hev:s1.evs.length=s.evs.length+s.yb.length:=hev;have hmev:m1.evs.length=m.evs.length+m.yb.length:=hm.evs;have hml:m1.lst.length<=m.lst.length+m.yb.length:=hm.l;have hlt:s1.least=s.least:=hs1.least;have z9l:m1.least=m.least:=hm.least;have hht:s1.yc= .int (IntKind.u64.wrap (s.yc.toInt+1)):=hs1.yc;rw[hE]at hq;obtain⟨l,hb1,hb2⟩:=h.book;have hh0:=h.yc;have hwr:IntKind.u64.wrap (s.yc.toInt+1)=s.yc.toInt+1:=wrap_u64 (by omega) (by omega);have hsh:s.high.yc= .int (s.yc.toInt+1):=congrArg bf hwr;have hmh:m.high.yc= .int (s.yc.toInt+1):=by show bf (IntKind.u64.wrap (m.yc.toInt+1))=_;rw[<-h.heq,hwr]
 have hob:Ea (CU s.yb.length) s.yb=s.yb:=sJ s.yb;have hd1:=jW (l:=l) hs1.d ⟨h.FF.b,h.FF.n⟩ (fun t ht=>h.ord t (by rw[hob]at ht;exact ht)) h.pos hb1 (by rw[hsh];rfl);have z7o:l.length=m.lst.length:=by rw[hb2,fq]
 have hd2:=hmn l hb2 h.z7z (by rw[hmh];rfl) h.z7l h.z7A (by omega);rw[hob,hsh]at hd1;rw[hmh]at hd2;obtain⟨n1,b1',p1⟩:=hd1;obtain⟨n2,b2',p2⟩:=hd2;have hnn:s.high.ye=m.high.ye:=h.ye;have hkk:Gy 5 (bf (s.yc.toInt+1)).toInt s.yb (s.high.ye,l)=Gy 5 (bf (s.yc.toInt+1)).toInt m.yb (m.high.ye,l):=by rw[hnn];exact qU h.keys
 rw[hkk]at n1 b1';have z7Y:s1.yc= .int (s.yc.toInt+1):=by rw[hht,hwr]
 have z9m:m1.yc= .int (s.yc.toInt+1):=by rw[show m1.yc=m.high.yc from hm.yc,hmh]
 refine⟨out,{s1 with yb:=DT (CU s.yb.length) 0 s.yb},j,z7B,{m1 with yb:=[]},⟨⟨hs1.FF.b,hs1.FF.n⟩,?_,(fun _ h=>nomatch h),?_,?_,?_,?_,?_,?_,hm.n,?_,?_,?_,?_,?_,?_,?_,(fun t ht=>?_),(fun _ h=>nomatch h),?_,?_⟩,congrArg ar z7Y,?_,hmq⟩;{intro t ht;have ht:t∈DT (CU s.yb.length) 0 s.yb:=ht;rw[hl0]at ht;cases ht};{show(DT (CU s.yb.length) 0 s.yb).length=0;rw[hl0];rfl};{show s1.least=m1.least;rw[hlt,z9l,h.least]};{show s1.evs.length+(DT (CU s.yb.length) 0 s.yb).length<=u;rw[hl0,hev];simpa using he};{show m1.evs.length+0<=u;omega};{show Kt m1.tab;have:m1.tab=m.tab:=hm.tab;rw[this];exact h.tab};{show m1.lst.length+0<=u;omega};{have hh0:=h.yc;show 0<=s1.yc.toInt/\s1.yc.toInt<=100000;rw[hht];show 0<=IntKind.u64.wrap (s.yc.toInt+1)/\_;rw[wrap_u64 (by omega) (by omega)];show 0<=s.yc.toInt+1/\s.yc.toInt+1<=100000;omega};{show Fz m1.tab;have:m1.tab=m.tab:=hm.tab;rw[this];exact h.z7l};{show s1.yc=m1.yc;rw[z7Y,z9m]};{show s1.yc= .int s1.yc.toInt;rw[z7Y];rfl};{show s1.ye=m1.ye;rw[n1,n2]};{exact p1};{exact p2};{have ht:t∈DT (CU s.yb.length) 0 s.yb:=ht;rw[hl0]at ht;cases ht};{show(DT (CU s.yb.length) 0 s.yb).map HN=[].map HN;rw[hl0]};{exact⟨_,b1',b2'⟩};{rw[<-hlen];exact hq}
end
section
variable {R:Type} {N:Nat}
theorem Dy.mono {s:CS} {m:MS} {u v:Nat} (h:Dy s m u) (hv:u<=v):Dy s m v:=
 ⟨h.FF,h.p,h.mp,h.len,h.least,kq h.evs hv,kq h.z7k hv,h.tab,kq h.lst hv,h.yd,h.yc,h.z7l,h.heq,h.hint,h.ye,h.pos,h.z7z,h.ord,h.z7A,h.keys,h.book⟩
theorem q77 {t d:C} (h:TxG t) (hd:Nt d):TxG (Wi t d):=by refine⟨?_,hd,h.no,h.kind⟩;show C.wf (.slice 1 (.int .u8)) (.slice (t.get 9).elems);have e:t.get 9= .slice (t.get 9).elems:=h.ym.1;rw[<-e];exact h.ym
theorem dA {m:MS} {n:Nat} {t:C} (h:Jj m n t=0):0<=(t.get 1).toInt/\(t.get 1).toInt<(n:Int)-1:=by unfold Jj at h;split at h;{cases h};{split at h;{cases h};{rename_i g;exact Classical.not_not.1 g}}
theorem wM {s:CS} {m:MS} {u:Nat} (h:Dy s m u) {t t':C} (ht:TxG t) (ht':TxG t') (ha:W64 (t'.get 5).toInt) (h1:t.get 1=t'.get 1) (h3:t.get 3=t'.get 3) (hk:HN t=HN t') (hf:(t.get 3).toInt=0) (hs:FL 32 (t.get 7)):
  ∃(s':CS) (j:Nat->C) (m':MS) (e:Int),Dy s' m' (u+1)/\s'.yc=s.yc/\
   (∀k:KD R,Ju N t s.least s.yc (.int s.yd.length) (.int s.yb.length) (.int s.evs.length) (.int (5:Nat)) (.int (5:Nat)) s.kept s.has s.ye (.agg s.yd) (.agg s.yb) (.agg s.evs) .nil s.book k=k (s'.out 5 e j) [s'.book])/\
   ∀k:KD R,KZ N t' m.least m.yc (.int m.yd.length) (.int m.yb.length) (.int m.evs.length) (.int (5:Nat)) (.int (5:Nat)) m.kept m.has m.ye m.tab (.slice m.lst) (.agg m.yd) (.agg m.yb) (.agg m.evs) k=k (m'.out 5 e m.J) []:=by
 obtain⟨d,j,hd,_,hq⟩:=q78 (R:=R) (N:=N) s (n:=5) (by decide) ht;have hm:∀k:KD R,_=_:=fun k=>q36 (N:=N) m 5 (by decide) t' k;have hE:=q75 s m 5 t t' h.len h.least h1 h3;rw[hE]at hq;have he:=h.evs;have hme:=h.z7k;have hll:=h.lst;have hlen:=h.len;by_cases g:Jj m 5 t'=0
 ·rw[if_pos g]at hq hm;refine⟨{s with yb:=s.yb++[Wi t d]},j,{m with yb:=m.yb++[t']},Jj m 5 t',⟨⟨h.FF.b,h.FF.n⟩,fun x hx=>?_,fun x hx=>?_,?_,h.least,?_,?_,h.tab,?_,h.yd,h.yc,h.z7l,h.heq,h.hint,h.ye,h.pos,h.z7z,fun x hx=>?_,fun x hx=>?_,?_,h.book⟩,rfl,hq,hm⟩;{rcases ed.1 hx with hx|hx;{exact h.p x hx};{rw[fv.1 hx];exact q77 ht hd}};{rcases ed.1 hx with hx|hx;{exact h.mp x hx};{rw[fv.1 hx];have:=dA g;exact⟨ht',ha,this.1,this.2⟩}};{show(s.yb++[_]).length=(m.yb++[_]).length;simp[hlen]};{show s.evs.length+(s.yb++[_]).length<=u+1;simp;omega};{show m.evs.length+(m.yb++[_]).length<=u+1;simp;omega};{show m.lst.length+(m.yb++[_]).length<=u+1;simp;omega};{rcases ed.1 hx with hx|hx;{exact h.ord x hx};{rw[fv.1 hx];have:=dA g;rw[<-h1]at this;exact⟨this.1,this.2,hf,hs⟩}}
  ·rcases ed.1 hx with hx|hx;{exact h.z7A x hx}
   ·rw[fv.1 hx];have:=dA g;have e7:t.get 7=t'.get 7:=by simp only[HN,fx]at hk;exact hk.2.2.2
    exact⟨this.1,this.2,by rw[<-h3];exact hf,by rw[<-e7];exact hs⟩
  ·show(s.yb++[_]).map HN=(m.yb++[_]).map HN;rw[pt,pt,h.keys];exact congrArg (fun x=>_++[x]) hk
 ·rw[if_neg g]at hq hm;exact⟨s,j,m,Jj m 5 t',h.mono (Nat.le_succ _),rfl,hq,hm⟩
end
end Go.Proofs.YteealakhniofoaaGreatDoor
