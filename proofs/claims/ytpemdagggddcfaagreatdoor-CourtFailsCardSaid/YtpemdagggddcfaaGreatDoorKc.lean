/-
 What the functions on the way compute, part 3.
 Conditions: none.
-/
import Derived.Test.YtpemdagggddcfaaGreatDoorKb
set_option linter.all false
noncomputable section
set_option maxRecDepth 100000
set_option maxHeartbeats 4000000
open Go.BinOp renaming and->fv
open Go.E.C renaming agg->eg,bool->dv,elems->bq,get->cd,int->bt,nil->gj,set->dp,slice->cz,toBool->ek,toInt->bp
open Go.E.Key renaming l->dg
open Go.E.Ty renaming arr->dc,int->cg
open Go.E.V renaming tup->qs
open Go.IntKind renaming i64->ca,u32->di,u64->bu,wrap->bw
open Go.IntWalk renaming i64_in->je
open Int renaming fdiv->fp,lt_irrefl->fq,natCast_nonneg->dd,toNat->bo,toNat_natCast->bx,toNat_of_nonneg->gy
open List renaming getD->dt,getD_cons_zero->tf,getD_eq_getElem?_getD->du,getElem?_eq_getElem->cq,length->bn,length_append->da,length_cons->dq,length_map->lf,length_nil->dw,map_append->mr,replicate->db,reverse_cons->oz,take->dy,take_add_one->qn,take_length->ei,take_of_length_le->mh
open Nat renaming beq->dj,beq_refl->ct,zero_add->cf
namespace Go.Proofs.YtpemdagggddcfaaGreatDoor
open Go Go.E
variable {R:Type} (N:Nat)
def Zt (a0 a1:C) (k1:KD R):Option R:=RH N a0 a1 (fun d1 m1=>(bif !decide (bp (dk d1 0)=0)then(k1 [bt 0,bt 11] [])else(k1 [dk d1 1,bt 0] [])))
def RU:=lid "" (@Zt R N)
theorem qX {R N a0 a1 k}:@RU R N a0 a1 k=Zt N a0 a1 k:=by unfold RU;rw[Ag]
def q4o:OvG R:=BS [.int .u64,.int .u64] (DY (RU N)) fun a K d1 m1=>K (qs [V.d (cg bu) (dk d1 0),V.d (cg ca) (dk d1 1)]) []
theorem q4p:okX 187 (@q4o R N):=BW (AP (q3P N) <| Ah) N [] [(187,[([9],(Bc [(4,.d (.int .u64)),(5,.d (.int .i64))]))])] (fun _ _=>qX)
def Z8:List Sh:=[.as (.ptr (.g (.l 1)) [] DG),.d .bool]
def Y1:List (Key × OSh):=[(.l 1,.box (.agg DG [.vec (.g (.l 2)) 8 (.int .u64),.d (.int .i64)])),(.l 2,.box (.arr (.int .u64)))]
def XN (a0 b0 b1 b2:C) (k1:KD R):Option R:=bif ek a0 then(if bn (bq b2)=bn (bq b2)then(Fq N (cz [bt 1]) (bt (↑(bo (bp b0)):Int)) b1 b2 (fun d1 m1=>(if bn (bq (dk d1 3))=bn (bq (dk d1 3))then(k1 [bt (↑(bo (bp (dk d1 0))):Int),dk d1 1,bt (↑(bo (bp (dk d1 2))):Int),dk d1 3] [])else none)))else none)else(if bn (bq b2)=bn (bq b2)then(Fq N (cz [bt 0]) (bt (↑(bo (bp b0)):Int)) b1 b2 (fun d1 m1=>(if bn (bq (dk d1 3))=bn (bq (dk d1 3))then(k1 [bt (↑(bo (bp (dk d1 0))):Int),dk d1 1,bt (↑(bo (bp (dk d1 2))):Int),dk d1 3] [])else none)))else none)
def HF:=lid "" (@XN R N)
theorem iJ {R N a0 b0 b1 b2 k}:@HF R N a0 b0 b1 b2 k=XN N a0 b0 b1 b2 k:=by unfold HF;rw[Ag]
def Z9:OvG R:=CP Z8 Y1 (fun ds ms=>HF N (dk ds 0) (dk ds 1) (dk ds 2) (dk ds 3)) fun ds ms K d1 m1=>K (qs []) [(Key.g (dg 1),
  O.box
   (V.agg DG
    [V.sr (dg 1000000000074) [] 0 (bo (bp (dk d1 0))) none 8 (cg bu),
     V.d (cg ca) (dk d1 1)])),
 (Key.g (dg 2),O.dead (dc (bo (bp (dk d1 2))) (cg bu))),
 (dg 1000000000074,O.box (V.d (dc (bn (bq (dk d1 3))) (cg bu)) (dk d1 3)))]
theorem Y0:okX 188 (@Z9 R N):=CT (AP (iM N) <| Ah) N [] [(188,[([9],⟨[],[],[.g (.l 1),.g (.l 2)],[],[],[(.int .u64)]⟩)])] (fun _ _ _=>iJ)
def Z2:List Sh:=[.d FD,.as (.ptr (.g (.l 1)) [] DG),.d (.int .i64),.d (.int .u64)]
def Z5:List (Key × OSh):=[(.l 1,.box (.agg DG [.vec (.g (.l 2)) 8 (.int .u64),.d (.int .i64)])),(.l 2,.box (.arr (.int .u64)))]
def Dq (a0 a1 a2 b0 b1 b2:C) (k1:KD R):Option R:=bif decide (bp a1=1)then(if bn (bq b2)=bn (bq b2)then(Fq N (cz [a2]) (bt (↑(bo (bp b0)):Int)) b1 b2 (fun d1 m1=>(if bn (bq (dk d1 3))=bn (bq (dk d1 3))then(k1 [bt (↑(bo (bp (dk d1 0))):Int),dk d1 1,bt (↑(bo (bp (dk d1 2))):Int),dk d1 3] [])else none)))else none)else(bif decide (bp a1=2)then(bif decide (bw bu (↑(bn (bq (cd a0 0))):Int)<=bp a2)then(if bn (bq b2)=bn (bq b2)then(IJ N (bt 1) (bt (↑(bo (bp b0)):Int)) b1 b2 (fun d1 m1=>(if bn (bq (dk d1 3))=bn (bq (dk d1 3))then(k1 [bt (↑(bo (bp (dk d1 0))):Int),dk d1 1,bt (↑(bo (bp (dk d1 2))):Int),dk d1 3] [])else none)))else none)else(if 0<=bp a2/\bp a2<(↑(bn (bq (cd a0 0))):Int)then(if bn (bq b2)=bn (bq b2)then(Fq N (cz [dt (bq (cd a0 0)) (bo (bp a2)) gj]) (bt (↑(bo (bp b0)):Int)) b1 b2 (fun d1 m1=>(if bn (bq (dk d1 3))=bn (bq (dk d1 3))then(k1 [bt (↑(bo (bp (dk d1 0))):Int),dk d1 1,bt (↑(bo (bp (dk d1 2))):Int),dk d1 3] [])else none)))else none)else none))else(bif decide (bp a1=3)then(jn (fun d1 m1=>(if bn (bq (dk d1 3))=bn (bq (dk d1 3))then(k1 [bt (↑(bo (bp (dk d1 0))):Int),dk d1 1,bt (↑(bo (bp (dk d1 2))):Int),dk d1 3] [])else none)) (fun k2=>(if bn (bq b2)=bn (bq b2)then(DZ N (bt (↑(bo (bp b0)):Int)) b1 b2 (fun d1 m1=>(if bn (bq (dk d1 4))=bn (bq (dk d1 4))then(DZ N (bt (↑(bo (bp (dk d1 1))):Int)) (dk d1 2) (dk d1 4) (fun d2 m2=>(bif !decide (bp (dk d2 2)=0)then(if bn (bq (dk d2 4))=bn (bq (dk d2 4))then(k2 [bt (↑(bo (bp (dk d2 1))):Int),dk d2 2,bt (↑(bo (bp (dk d1 3))):Int),dk d2 4] [])else none)else(JH N (dk d2 0) (dk d1 0) (fun d3 m3=>(bif !decide (bp (dk d3 1)=0)then(if bn (bq (dk d2 4))=bn (bq (dk d2 4))then(IJ N (dk d3 1) (bt (↑(bo (bp (dk d2 1))):Int)) (dk d2 2) (dk d2 4) (fun d4 m4=>(if bn (bq (dk d4 3))=bn (bq (dk d4 3))then(k2 [bt (↑(bo (bp (dk d4 0))):Int),dk d4 1,bt (↑(bo (bp (dk d1 3))):Int),dk d4 3] [])else none)))else none)else(if bn (bq (dk d2 4))=bn (bq (dk d2 4))then(Fq N (cz [dk d3 0]) (bt (↑(bo (bp (dk d2 1))):Int)) (dk d2 2) (dk d2 4) (fun d4 m4=>(if bn (bq (dk d4 3))=bn (bq (dk d4 3))then(k2 [bt (↑(bo (bp (dk d4 0))):Int),dk d4 1,bt (↑(bo (bp (dk d1 3))):Int),dk d4 3] [])else none)))else none)))))))else none)))else none)))else(bif decide (bp a1=4)then(jn (fun d1 m1=>(if bn (bq (dk d1 3))=bn (bq (dk d1 3))then(k1 [bt (↑(bo (bp (dk d1 0))):Int),dk d1 1,bt (↑(bo (bp (dk d1 2))):Int),dk d1 3] [])else none)) (fun k2=>(if bn (bq b2)=bn (bq b2)then(DZ N (bt (↑(bo (bp b0)):Int)) b1 b2 (fun d1 m1=>(if bn (bq (dk d1 4))=bn (bq (dk d1 4))then(DZ N (bt (↑(bo (bp (dk d1 1))):Int)) (dk d1 2) (dk d1 4) (fun d2 m2=>(bif !decide (bp (dk d2 2)=0)then(if bn (bq (dk d2 4))=bn (bq (dk d2 4))then(k2 [bt (↑(bo (bp (dk d2 1))):Int),dk d2 2,bt (↑(bo (bp (dk d1 3))):Int),dk d2 4] [])else none)else(Jw N (dk d2 0) (dk d1 0) (fun d3 m3=>(bif !decide (bp (dk d3 1)=0)then(if bn (bq (dk d2 4))=bn (bq (dk d2 4))then(IJ N (dk d3 1) (bt (↑(bo (bp (dk d2 1))):Int)) (dk d2 2) (dk d2 4) (fun d4 m4=>(if bn (bq (dk d4 3))=bn (bq (dk d4 3))then(k2 [bt (↑(bo (bp (dk d4 0))):Int),dk d4 1,bt (↑(bo (bp (dk d1 3))):Int),dk d4 3] [])else none)))else none)else(if bn (bq (dk d2 4))=bn (bq (dk d2 4))then(Fq N (cz [dk d3 0]) (bt (↑(bo (bp (dk d2 1))):Int)) (dk d2 2) (dk d2 4) (fun d4 m4=>(if bn (bq (dk d4 3))=bn (bq (dk d4 3))then(k2 [bt (↑(bo (bp (dk d4 0))):Int),dk d4 1,bt (↑(bo (bp (dk d1 3))):Int),dk d4 3] [])else none)))else none)))))))else none)))else none)))else(bif decide (bp a1=5)then(jn (fun d1 m1=>(if bn (bq (dk d1 3))=bn (bq (dk d1 3))then(k1 [bt (↑(bo (bp (dk d1 0))):Int),dk d1 1,bt (↑(bo (bp (dk d1 2))):Int),dk d1 3] [])else none)) (fun k2=>(if bn (bq b2)=bn (bq b2)then(DZ N (bt (↑(bo (bp b0)):Int)) b1 b2 (fun d1 m1=>(if bn (bq (dk d1 4))=bn (bq (dk d1 4))then(DZ N (bt (↑(bo (bp (dk d1 1))):Int)) (dk d1 2) (dk d1 4) (fun d2 m2=>(bif !decide (bp (dk d2 2)=0)then(if bn (bq (dk d2 4))=bn (bq (dk d2 4))then(k2 [bt (↑(bo (bp (dk d2 1))):Int),dk d2 2,bt (↑(bo (bp (dk d1 3))):Int),dk d2 4] [])else none)else(RU N (dk d2 0) (dk d1 0) (fun d3 m3=>(bif !decide (bp (dk d3 1)=0)then(if bn (bq (dk d2 4))=bn (bq (dk d2 4))then(IJ N (dk d3 1) (bt (↑(bo (bp (dk d2 1))):Int)) (dk d2 2) (dk d2 4) (fun d4 m4=>(if bn (bq (dk d4 3))=bn (bq (dk d4 3))then(k2 [bt (↑(bo (bp (dk d4 0))):Int),dk d4 1,bt (↑(bo (bp (dk d1 3))):Int),dk d4 3] [])else none)))else none)else(if bn (bq (dk d2 4))=bn (bq (dk d2 4))then(Fq N (cz [dk d3 0]) (bt (↑(bo (bp (dk d2 1))):Int)) (dk d2 2) (dk d2 4) (fun d4 m4=>(if bn (bq (dk d4 3))=bn (bq (dk d4 3))then(k2 [bt (↑(bo (bp (dk d4 0))):Int),dk d4 1,bt (↑(bo (bp (dk d1 3))):Int),dk d4 3] [])else none)))else none)))))))else none)))else none)))else(bif decide (bp a1=6)then(if bn (bq b2)=bn (bq b2)then(DZ N (bt (↑(bo (bp b0)):Int)) b1 b2 (fun d1 m1=>(if bn (bq (dk d1 4))=bn (bq (dk d1 4))then(DZ N (bt (↑(bo (bp (dk d1 1))):Int)) (dk d1 2) (dk d1 4) (fun d2 m2=>(if bn (bq (dk d2 4))=bn (bq (dk d2 4))then(HF N (dv (decide (bp (dk d2 0)<bp (dk d1 0)))) (bt (↑(bo (bp (dk d2 1))):Int)) (dk d2 2) (dk d2 4) (fun d3 m3=>(if bn (bq (dk d3 3))=bn (bq (dk d3 3))then(k1 [bt (↑(bo (bp (dk d3 0))):Int),dk d3 1,bt (↑(bo (bp (dk d1 3))):Int),dk d3 3] [])else none)))else none)))else none)))else none)else(bif decide (bp a1=7)then(if bn (bq b2)=bn (bq b2)then(DZ N (bt (↑(bo (bp b0)):Int)) b1 b2 (fun d1 m1=>(if bn (bq (dk d1 4))=bn (bq (dk d1 4))then(DZ N (bt (↑(bo (bp (dk d1 1))):Int)) (dk d1 2) (dk d1 4) (fun d2 m2=>(if bn (bq (dk d2 4))=bn (bq (dk d2 4))then(HF N (dv (decide (bp (dk d2 0)=bp (dk d1 0)))) (bt (↑(bo (bp (dk d2 1))):Int)) (dk d2 2) (dk d2 4) (fun d3 m3=>(if bn (bq (dk d3 3))=bn (bq (dk d3 3))then(k1 [bt (↑(bo (bp (dk d3 0))):Int),dk d3 1,bt (↑(bo (bp (dk d1 3))):Int),dk d3 3] [])else none)))else none)))else none)))else none)else(bif decide (bp a1=8)then(if bn (bq b2)=bn (bq b2)then(DZ N (bt (↑(bo (bp b0)):Int)) b1 b2 (fun d1 m1=>(if bn (bq (dk d1 4))=bn (bq (dk d1 4))then(HF N (dv (decide (bp (dk d1 0)=0))) (bt (↑(bo (bp (dk d1 1))):Int)) (dk d1 2) (dk d1 4) (fun d2 m2=>(if bn (bq (dk d2 3))=bn (bq (dk d2 3))then(k1 [bt (↑(bo (bp (dk d2 0))):Int),dk d2 1,bt (↑(bo (bp (dk d1 3))):Int),dk d2 3] [])else none)))else none)))else none)else(bif decide (bp a1=9)then(if bn (bq b2)=bn (bq b2)then(DZ N (bt (↑(bo (bp b0)):Int)) b1 b2 (fun d1 m1=>(if bn (bq (dk d1 4))=bn (bq (dk d1 4))then(DZ N (bt (↑(bo (bp (dk d1 1))):Int)) (dk d1 2) (dk d1 4) (fun d2 m2=>(jn (fun d3 m3=>(if bn (bq (dk d3 2))=bn (bq (dk d3 2))then(k1 [bt (↑(bo (bp (dk d3 0))):Int),dk d3 1,bt (↑(bo (bp (dk d3 3))):Int),dk d3 2] [])else none)) (fun k2=>(bif !decide (bp (dk d2 0)=0)then(if bn (bq (dk d2 4))=bn (bq (dk d2 4))then(HF N (dv !decide (bp (dk d1 0)=0)) (bt (↑(bo (bp (dk d2 1))):Int)) (dk d2 2) (dk d2 4) (fun d3 m3=>(if bn (bq (dk d3 3))=bn (bq (dk d3 3))then(k2 [bt (↑(bo (bp (dk d3 0))):Int),dk d3 1,dk d3 3,bt (↑(bo (bp (dk d1 3))):Int),bt (↑(bo (bp (dk d1 3))):Int)] [])else none)))else none)else(if bn (bq (dk d2 4))=bn (bq (dk d2 4))then(HF N (dv false) (bt (↑(bo (bp (dk d2 1))):Int)) (dk d2 2) (dk d2 4) (fun d3 m3=>(if bn (bq (dk d3 3))=bn (bq (dk d3 3))then(k2 [bt (↑(bo (bp (dk d3 0))):Int),dk d3 1,dk d3 3,bt (↑(bo (bp (dk d1 3))):Int),bt (↑(bo (bp (dk d1 3))):Int)] [])else none)))else none))))))else none)))else none)else(bif decide (bp a1=10)then(if bn (bq b2)=bn (bq b2)then(DZ N (bt (↑(bo (bp b0)):Int)) b1 b2 (fun d1 m1=>(if bn (bq (dk d1 4))=bn (bq (dk d1 4))then(DZ N (bt (↑(bo (bp (dk d1 1))):Int)) (dk d1 2) (dk d1 4) (fun d2 m2=>(jn (fun d3 m3=>(if bn (bq (dk d3 2))=bn (bq (dk d3 2))then(k1 [bt (↑(bo (bp (dk d3 0))):Int),dk d3 1,bt (↑(bo (bp (dk d3 3))):Int),dk d3 2] [])else none)) (fun k2=>(bif !decide (bp (dk d2 0)=0)then(if bn (bq (dk d2 4))=bn (bq (dk d2 4))then(HF N (dv true) (bt (↑(bo (bp (dk d2 1))):Int)) (dk d2 2) (dk d2 4) (fun d3 m3=>(if bn (bq (dk d3 3))=bn (bq (dk d3 3))then(k2 [bt (↑(bo (bp (dk d3 0))):Int),dk d3 1,dk d3 3,bt (↑(bo (bp (dk d1 3))):Int),bt (↑(bo (bp (dk d1 3))):Int)] [])else none)))else none)else(if bn (bq (dk d2 4))=bn (bq (dk d2 4))then(HF N (dv !decide (bp (dk d1 0)=0)) (bt (↑(bo (bp (dk d2 1))):Int)) (dk d2 2) (dk d2 4) (fun d3 m3=>(if bn (bq (dk d3 3))=bn (bq (dk d3 3))then(k2 [bt (↑(bo (bp (dk d3 0))):Int),dk d3 1,dk d3 3,bt (↑(bo (bp (dk d1 3))):Int),bt (↑(bo (bp (dk d1 3))):Int)] [])else none)))else none))))))else none)))else none)else(bif decide (bp a1=13)then(if bn (bq b2)=bn (bq b2)then(DZ N (bt (↑(bo (bp b0)):Int)) b1 b2 (fun d1 m1=>(if bn (bq (dk d1 4))=bn (bq (dk d1 4))then(Fq N (cz [dk d1 0,dk d1 0]) (bt (↑(bo (bp (dk d1 1))):Int)) (dk d1 2) (dk d1 4) (fun d2 m2=>(if bn (bq (dk d2 3))=bn (bq (dk d2 3))then(k1 [bt (↑(bo (bp (dk d2 0))):Int),dk d2 1,bt (↑(bo (bp (dk d1 3))):Int),dk d2 3] [])else none)))else none)))else none)else(bif decide (bp a1=14)then(if bn (bq b2)=bn (bq b2)then(DZ N (bt (↑(bo (bp b0)):Int)) b1 b2 (fun d1 m1=>(if bn (bq (dk d1 4))=bn (bq (dk d1 4))then(DZ N (bt (↑(bo (bp (dk d1 1))):Int)) (dk d1 2) (dk d1 4) (fun d2 m2=>(if bn (bq (dk d2 4))=bn (bq (dk d2 4))then(Fq N (cz [dk d1 0,dk d2 0]) (bt (↑(bo (bp (dk d2 1))):Int)) (dk d2 2) (dk d2 4) (fun d3 m3=>(if bn (bq (dk d3 3))=bn (bq (dk d3 3))then(k1 [bt (↑(bo (bp (dk d3 0))):Int),dk d3 1,bt (↑(bo (bp (dk d1 3))):Int),dk d3 3] [])else none)))else none)))else none)))else none)else(bif decide (bp a1=15)then(if bn (bq b2)=bn (bq b2)then(DZ N (bt (↑(bo (bp b0)):Int)) b1 b2 (fun d1 m1=>(if bn (bq (dk d1 4))=bn (bq (dk d1 4))then(k1 [bt (↑(bo (bp (dk d1 1))):Int),dk d1 2,bt (↑(bo (bp (dk d1 3))):Int),dk d1 4] [])else none)))else none)else(bif decide (bp a1=16)then(bif decide (bw bu (↑(bn (bq (cd a0 1))):Int)<=bp a2)then(if bn (bq b2)=bn (bq b2)then(IJ N (bt 1) (bt (↑(bo (bp b0)):Int)) b1 b2 (fun d1 m1=>(if bn (bq (dk d1 3))=bn (bq (dk d1 3))then(k1 [bt (↑(bo (bp (dk d1 0))):Int),dk d1 1,bt (↑(bo (bp (dk d1 2))):Int),dk d1 3] [])else none)))else none)else(if 0<=bp a2/\bp a2<(↑(bn (bq (cd a0 1))):Int)then(if bn (bq b2)=bn (bq b2)then(HF N (dt (bq (cd a0 1)) (bo (bp a2)) gj) (bt (↑(bo (bp b0)):Int)) b1 b2 (fun d1 m1=>(if bn (bq (dk d1 3))=bn (bq (dk d1 3))then(k1 [bt (↑(bo (bp (dk d1 0))):Int),dk d1 1,bt (↑(bo (bp (dk d1 2))):Int),dk d1 3] [])else none)))else none)else none))else(bif decide (bp a1=17)then(if bn (bq b2)=bn (bq b2)then(Fq N (cz [cd a0 2]) (bt (↑(bo (bp b0)):Int)) b1 b2 (fun d1 m1=>(if bn (bq (dk d1 3))=bn (bq (dk d1 3))then(k1 [bt (↑(bo (bp (dk d1 0))):Int),dk d1 1,bt (↑(bo (bp (dk d1 2))):Int),dk d1 3] [])else none)))else none)else(if bn (bq b2)=bn (bq b2)then(k1 [bt (↑(bo (bp b0)):Int),b1,bt (↑(bn (bq b2)):Int),b2] [])else none)))))))))))))))
def Lf:=lid "" (@Dq R N)
theorem iH {R N a0 a1 a2 b0 b1 b2 k}:@Lf R N a0 a1 a2 b0 b1 b2 k=Dq N a0 a1 a2 b0 b1 b2 k:=by unfold Lf;rw[Ag]
def Z3:OvG R:=CP Z2 Z5 (fun ds ms=>Lf N (dk ds 0) (dk ds 1) (dk ds 2) (dk ds 3) (dk ds 4) (dk ds 5)) fun ds ms K d1 m1=>K (qs []) [(Key.g (dg 1),
  O.box
   (V.agg DG
    [V.sr (dg 1000000000074) [] 0 (bo (bp (dk d1 0))) none 8 (cg bu),
     V.d (cg ca) (dk d1 1)])),
 (Key.g (dg 2),O.dead (dc (bo (bp (dk d1 2))) (cg bu))),
 (dg 1000000000074,O.box (V.d (dc (bn (bq (dk d1 3))) (cg bu)) (dk d1 3)))]
theorem Z4:okX 167 (@Z3 R N):=CT (AP (Uu N) <| AP (RV N) <| AP (iL N) <| AP (XO N) <| AP (iM N) <| AP (q4p N) <| AP (Y0 N) <| Ah) N [(167,[(0,[(4,5)])])] [(167,[([1,2,1,3,1,3,1,3,1,3,1,3,1,3,1,3,1,3,1,4,1,1],⟨[1],[],[.g (.l 1),.g (.l 2)],[],[],[(.int .u64)]⟩),
  ([1,2,1,3,1,3,1,3,1,3,1,3,1,3,1,3,1,3,1,3,1,4,1,1],⟨[1],[],[.g (.l 1),.g (.l 2)],[],[],[(.int .u64)]⟩),
  ([9],⟨[],[],[.g (.l 1),.g (.l 2)],[],[],[(.int .u64)]⟩)]),(186,[([9],⟨[0],[],[],[],[],[(.int .u64)]⟩)])] (fun _ _ _=>iH)
def XL (k1:KD R):KD R->KD R:=fun k2 d2 m2=>(if bn (bq (dk d2 0))<=256/\0<=bp (dk d2 3)/\bp (dk d2 3)<=100000 then(bif !decide (Bi (bq (dk d2 0)) (bo (bp (dk d2 3)))=0)then(k1 [bt 0,dk d2 4,bt (Bi (bq (dk d2 0)) (bo (bp (dk d2 3))))] [])else(if(0<=if Bi (bq (dk d2 0)) (bo (bp (dk d2 3)))=0 then bN (bq (dk d2 0)) (bo (bp (dk d2 3)))else 0)/\(if Bi (bq (dk d2 0)) (bo (bp (dk d2 3)))=0 then bN (bq (dk d2 0)) (bo (bp (dk d2 3)))else 0)<18 then(bif decide (bw ca (bp (dk d2 1)-bp (dk d2 4))<bp (cd (cd (eg Er) (bo (if Bi (bq (dk d2 0)) (bo (bp (dk d2 3)))=0 then bN (bq (dk d2 0)) (bo (bp (dk d2 3)))else 0))) 2))then(k1 [bt 0,dk d2 4,bt 24] [])else(if(0<=if Bi (bq (dk d2 0)) (bo (bp (dk d2 3)))=0 then bN (bq (dk d2 0)) (bo (bp (dk d2 3)))else 0)/\(if Bi (bq (dk d2 0)) (bo (bp (dk d2 3)))=0 then bN (bq (dk d2 0)) (bo (bp (dk d2 3)))else 0)<18 then(bif decide ((if Bi (bq (dk d2 0)) (bo (bp (dk d2 3)))=0 then bN (bq (dk d2 0)) (bo (bp (dk d2 3)))else 0)=0)then(if bn (bq (dk d2 7))=bn (bq (dk d2 7))then(DZ N (bt (↑(bo (bp (dk d2 5))):Int)) (dk d2 6) (dk d2 7) (fun d3 m3=>(k1 [dk d3 0,bt (bw ca (bp (dk d2 4)+bp (cd (cd (eg Er) (bo (if Bi (bq (dk d2 0)) (bo (bp (dk d2 3)))=0 then bN (bq (dk d2 0)) (bo (bp (dk d2 3)))else 0))) 2))),dk d3 2] [])))else none)else(jn (fun d3 m3=>(bif !decide (bp (dk d3 6)=0)then(k1 [bt 0,dk d3 3,dk d3 6] [])else(if bn (bq (dk d3 7))=bn (bq (dk d3 7))then(k2 [dk d3 0,dk d3 1,dk d3 2,dk d3 4,dk d3 3,bt (↑(bo (bp (dk d3 5))):Int),dk d3 6,dk d3 7] [])else none))) (fun k3=>(bif decide ((if Bi (bq (dk d2 0)) (bo (bp (dk d2 3)))=0 then bN (bq (dk d2 0)) (bo (bp (dk d2 3)))else 0)=11)then(if bn (bq (dk d2 7))=bn (bq (dk d2 7))then(k3 [dk d2 0,dk d2 1,dk d2 2,bt (bw ca (bp (dk d2 4)+bp (cd (cd (eg Er) (bo (if Bi (bq (dk d2 0)) (bo (bp (dk d2 3)))=0 then bN (bq (dk d2 0)) (bo (bp (dk d2 3)))else 0))) 2))),bt (bw ca (if Bi (bq (dk d2 0)) (bo (bp (dk d2 3)))=0 then EB (bq (dk d2 0)) (bo (bp (dk d2 3))+1) (CQ (bN (bq (dk d2 0)) (bo (bp (dk d2 3)))))else 0)),bt (↑(bo (bp (dk d2 5))):Int),dk d2 6,dk d2 7] [])else none)else(bif decide ((if Bi (bq (dk d2 0)) (bo (bp (dk d2 3)))=0 then bN (bq (dk d2 0)) (bo (bp (dk d2 3)))else 0)=12)then(if bn (bq (dk d2 7))=bn (bq (dk d2 7))then(DZ N (bt (↑(bo (bp (dk d2 5))):Int)) (dk d2 6) (dk d2 7) (fun d3 m3=>(bif !decide (bp (dk d3 0)=0)then(if bn (bq (dk d3 4))=bn (bq (dk d3 4))then(k3 [dk d2 0,dk d2 1,dk d2 2,bt (bw ca (bp (dk d2 4)+bp (cd (cd (eg Er) (bo (if Bi (bq (dk d2 0)) (bo (bp (dk d2 3)))=0 then bN (bq (dk d2 0)) (bo (bp (dk d2 3)))else 0))) 2))),bt (bw ca (if Bi (bq (dk d2 0)) (bo (bp (dk d2 3)))=0 then EB (bq (dk d2 0)) (bo (bp (dk d2 3))+1) (CQ (bN (bq (dk d2 0)) (bo (bp (dk d2 3)))))else 0)),bt (↑(bo (bp (dk d3 1))):Int),dk d3 2,dk d3 4] [])else none)else(if bn (bq (dk d3 4))=bn (bq (dk d3 4))then(k3 [dk d2 0,dk d2 1,dk d2 2,bt (bw ca (bp (dk d2 4)+bp (cd (cd (eg Er) (bo (if Bi (bq (dk d2 0)) (bo (bp (dk d2 3)))=0 then bN (bq (dk d2 0)) (bo (bp (dk d2 3)))else 0))) 2))),bt (if Bi (bq (dk d2 0)) (bo (bp (dk d2 3)))=0 then(↑(bo (bp (dk d2 3))+1+CQ (bN (bq (dk d2 0)) (bo (bp (dk d2 3))))):Int)else 0),bt (↑(bo (bp (dk d3 1))):Int),dk d3 2,dk d3 4] [])else none))))else none)else(if bn (bq (dk d2 7))=bn (bq (dk d2 7))then(Lf N (dk d2 2) (bt (if Bi (bq (dk d2 0)) (bo (bp (dk d2 3)))=0 then bN (bq (dk d2 0)) (bo (bp (dk d2 3)))else 0)) (bt (if Bi (bq (dk d2 0)) (bo (bp (dk d2 3)))=0 then EB (bq (dk d2 0)) (bo (bp (dk d2 3))+1) (CQ (bN (bq (dk d2 0)) (bo (bp (dk d2 3)))))else 0)) (bt (↑(bo (bp (dk d2 5))):Int)) (dk d2 6) (dk d2 7) (fun d3 m3=>(if bn (bq (dk d3 3))=bn (bq (dk d3 3))then(k3 [dk d2 0,dk d2 1,dk d2 2,bt (bw ca (bp (dk d2 4)+bp (cd (cd (eg Er) (bo (if Bi (bq (dk d2 0)) (bo (bp (dk d2 3)))=0 then bN (bq (dk d2 0)) (bo (bp (dk d2 3)))else 0))) 2))),bt (if Bi (bq (dk d2 0)) (bo (bp (dk d2 3)))=0 then(↑(bo (bp (dk d2 3))+1+CQ (bN (bq (dk d2 0)) (bo (bp (dk d2 3))))):Int)else 0),bt (↑(bo (bp (dk d3 0))):Int),dk d3 1,dk d3 3] [])else none)))else none))))))else none))else none))else none)
def TR (a0 a1 a2:C) (k1:KD R):Option R:=jn (fun d1 m1=>(bif ek (dk d1 3)then(k1 [bt 0,bt 0,bt 1] [])else(BU N (XL N k1) [dk d1 0,dk d1 1,dk d1 2,bt 0,bt 0,bt 0,AL (cg ca),eg []] []))) (fun k2=>(bif decide (256<(↑(bn (bq a0)):Int))then(k2 [a0,a2,a1,dv true] [])else(bif decide (bp a2<0)then(k2 [a0,a2,a1,dv true] [])else(k2 [a0,a2,a1,dv (decide (4096<bp a2))] []))))
def NM:=lid "" (@TR R N)
theorem XM {R N a0 a1 a2 k}:@NM R N a0 a1 a2 k=TR N a0 a1 a2 k:=by unfold NM;rw[Ag]
def Z0:OvG R:=BS [.slice 1 (.int .u8),FD,.int .i64] (Ip (NM N)) fun a K d1 m1=>K (qs [V.d (cg bu) (dk d1 0),V.d (cg ca) (dk d1 1),V.d (cg ca) (dk d1 2)]) []
theorem Z1:okX 150 (@Z0 R N):=BW (AP (Z7 N) <| AP (iL N) <| AP (Z4 N) <| Ah) N [(150,[(0,[(4,5)])])] [(150,[([1],⟨[0,2,4,9],[(10,.d (.int .i64)),(11,.d (.int .i64))],[],[],[],[(.int .u64)]⟩),
  ([0,0,6,1],⟨[0,2,4],[(27,.d .bool)],[],[],[],[(.int .u64)]⟩),
  ([1,3,1,4,1,0,1,1,1,1,1,7,1],⟨[0,2,4,9,11],[(10,.d (.int .i64))],[],[],[],[(.int .u64)]⟩),
  ([9],⟨[],[(6,.d (.int .u64)),(7,.d (.int .i64)),(8,.d (.int .i64))],[],[],[],[(.int .u64)]⟩)])] (fun _ _=>XM)
section
variable {R:Type} {N:Nat}
structure St where
 s:List Int
 e:Int
def GS (b:Bool):Int:=if b=true then 1 else 0
def St.fail (x:St) (c:Int):St:=⟨x.s,if x.e=0 then c else x.e⟩
def St.pop (x:St):Int × St:=match x.s with| []=>(0,x.fail 12)|a::r=>(a,⟨r,x.e⟩)
def St.push (x:St) (a:Int):St:=if 32<=x.s.length then x.fail 4 else⟨a::x.s,x.e⟩
def St.Hn (x:St) (a b:Int):St:=if 32<=x.s.length then x.fail 4 else(x.push a).push b
structure OkA (x:St) (arr:C):Prop where
 le:x.s.length<=32
 is:arr.elems.take x.s.length=x.s.reverse.map bt
def St.Gv (x:St) (arr:C) (a:Int):C:=if 32<=x.s.length then arr else .agg (arr.elems.take x.s.length++[.int a])
def St.OY (x:St) (arr:C) (a b:Int):C:=if 32<=x.s.length then arr else(x.push a).Gv (x.Gv arr a) b
section
variable {x:St} {arr:C}
theorem OkA.fail (h:OkA x arr) (c:Int):OkA (x.fail c) arr:=⟨h.le,h.is⟩
theorem OkA.pop (h:OkA x arr):OkA x.pop.2 arr:=by
 obtain⟨s,e⟩:=x;cases s with
 |nil=>exact⟨h.le,h.is⟩|cons a r=>
  have h1:r.length+1<=32:=h.le;have h2:arr.elems.take (r.length+1)=(a::r).reverse.map bt:=h.is;refine⟨show r.length<=32 by omega,show arr.elems.take r.length=r.reverse.map bt from ?_⟩;have h3:=congrArg (dy r.length) h2;rw[List.take_take,Nat.min_eq_left (Nat.le_succ _),oz,mr,List.take_append_of_le_length (by rw[lf,List.length_reverse];exact Nat.le_refl _),mh (l:=List.map bt r.reverse) (by simp)]at h3;exact h3
theorem OkA.len (h:OkA x arr):x.s.length<=arr.elems.length:=by have:=congrArg bn h.is;simp at this;omega
theorem OkA.top {a:Int} {r:List Int} {e:Int} (h:OkA ⟨a::r,e⟩ arr):arr.get r.length= .int a:=by
 have h2:arr.elems.take (r.length+1)=(a::r).reverse.map bt:=h.is;have h3:=congrArg (fun l=>l[r.length]?) h2;simp only[List.getElem?_take,Nat.lt_succ_self,if_true,oz,mr]at h3;rw[List.getElem?_append_right (by simp)]at h3;have h4:arr.elems[r.length]? =some (.int a):=by simpa using h3
 cases arr <;> simp only[bq,List.getElem?_nil,reduceCtorEq]at h4 <;> simp[cd,h4]
theorem OkA.push (h:OkA x arr) (a:Int):OkA (x.push a) (x.Gv arr a):=by unfold St.push St.Gv;by_cases h1:32<=x.s.length;{simp only[h1,if_true];exact h.fail 4};{simp only[h1,if_false];refine⟨show x.s.length+1<=32 by omega,?_⟩;show dy (x.s.length+1) (arr.elems.take x.s.length++[bt a])=(a::x.s).reverse.map bt;rw[h.is,mh (by simp),oz,mr];rfl}
theorem OkA.Hn (h:OkA x arr) (a b:Int):OkA (x.Hn a b) (x.OY arr a b):=by unfold St.Hn St.OY;by_cases h1:32<=x.s.length;{simp only[h1,if_true];exact h.fail 4};{simp only[h1,if_false];exact(h.push a).push b}
theorem Ji (c:Int) (k:KD R):IJ N (.int c) (.int x.s.length) (.int x.e) arr k=k [.int (x.fail c).s.length,.int (x.fail c).e,.int arr.elems.length,arr] []:=by rw[iK];unfold XP St.fail;simp only[go_sem,AF,AW,bx,if_true];by_cases h:x.e=0 <;> simp[h]
theorem Du (h:OkA x arr) (k:KD R):DZ N (.int x.s.length) (.int x.e) arr k=k [.int x.pop.1,.int x.pop.2.s.length,.int x.pop.2.e,.int arr.elems.length,arr] []:=by
 obtain⟨s,e⟩:=x;cases s with
 |nil=>
  rw[XQ];unfold TS;have:=Ji (R:=R) (N:=N) (x:=⟨[],e⟩) (arr:=arr) 12;simp only[dw]at this ⊢;simp only[go_sem,AF,AW,bx,if_true];exact(this _).trans rfl
 |cons a r=>
  have hn:r.length+1<=32:=h.le;have hw:bw .i64 (((r.length+1:Nat):Int)-1)=r.length:=by rw[je _ (by omega)];omega
  rw[XQ];unfold TS;simp only[dq,go_sem,AF,AW,bx,if_true,hw];have h0:¬(((r.length+1:Nat):Int)=0):=by omega
  have h1:(0:Int)<=(r.length:Int)/\(r.length:Int)<((r.length+1:Nat):Int):=⟨by omega,by omega⟩;have h2:(0:Int)<=0/\(0:Int)<=(r.length:Int)/\(r.length:Int)<=((r.length+1:Nat):Int):=⟨by decide,by omega,by omega⟩;simp only[h0,AG,if_pos h1,if_pos h2,cf,Int.sub_zero,bx,h.top];rfl
theorem MP (h:OkA x arr) (a:Int) (hN:4<N) (k:KD R):Fq N (.slice [.int a]) (.int x.s.length) (.int x.e) arr k=k [.int (x.push a).s.length,.int (x.push a).e,.int arr.elems.length,x.Gv arr a] []:=by
 obtain⟨M,rfl⟩:∃M,N=M+3:=⟨N-3,by omega⟩;rw[XS];unfold TT;simp only[go_sem,Eb,XR,AF,AW,Ac,bx,if_true,dq,dw,cf];have hl:=h.len;have h32:=h.le;have e1:IntKind.i64.wrap ((0:Int)+1)=1:=by decide
 have e2:((0:Int)<((1:Nat):Int))=True:=by simp
 have e3:(((1:Nat):Int)<((1:Nat):Int))=False:=by simp
 by_cases h1:32<=x.s.length
 ·have h1':(32:Int)<=(x.s.length:Int):=by omega
  simp only[h1',Ji,go_sem,AF,AG];simp[St.push,St.Gv,h1]
 ·have h1':¬(32:Int)<=(x.s.length:Int):=by omega
  have h2:x.s.length+1=(dy x.s.length arr.elems++[bt a]).length:=by simp;omega
  have h3:(x.s.length+1)*8<=140737488355328/\x.s.length+1<=9223372036854775807:=by omega
  simp only[h1',go_sem,AF,e1,tf,<-h2,h3];simp[St.push,St.Gv,h1]
theorem uJ (h:OkA x arr) (a b:Int) (hN:4<N) (k:KD R):Fq N (.slice [.int a,.int b]) (.int x.s.length) (.int x.e) arr k=k [.int (x.Hn a b).s.length,.int (x.Hn a b).e,.int arr.elems.length,x.OY arr a b] []:=by
 obtain⟨M,rfl⟩:∃M,N=M+3:=⟨N-3,by omega⟩;rw[XS];unfold TT;simp only[go_sem,Eb,XR,AF,AW,Ac,bx,if_true,dq,dw,cf];have hl:=h.len;have h32:=h.le;have e1:IntKind.i64.wrap ((0:Int)+1)=1:=by decide
 have e2:IntKind.i64.wrap ((1:Int)+1)=2:=by decide
 by_cases h1:32<=x.s.length
 ·have h1':(32:Int)<=(x.s.length:Int):=by omega
  simp only[h1',Ji,go_sem,AF,AG];simp[St.Hn,St.OY,h1]
 ·have h1':¬(32:Int)<=(x.s.length:Int):=by omega
  have h2:x.s.length+1=(dy x.s.length arr.elems++[bt a]).length:=by simp;omega
  have h3:(x.s.length+1)*8<=140737488355328/\x.s.length+1<=9223372036854775807:=by omega
  have hx:x.push a=⟨a::x.s,x.e⟩:=if_neg h1;have hA:x.Gv arr a= .agg (arr.elems.take x.s.length++[.int a]):=if_neg h1;simp only[h1',go_sem,AF,e1,e2,tf,List.getD_cons_succ,<-h2,h3];by_cases h4:32<=x.s.length+1
  ·have h4':(32:Int)<=((x.s.length+1:Nat):Int):=by omega
   have:=Ji (R:=R) (N:=M+3) (x:=x.push a) (arr:=x.Gv arr a) 4;rw[hx,hA]at this;simp only[dq]at this;simp only[h4',go_sem,AF,this];simp[St.Hn,St.OY,h1,hx,hA,St.push,St.Gv,h4]
  ·have h4':¬(32:Int)<=((x.s.length+1:Nat):Int):=by omega
   have h5:(x.s.length+1+1)*8<=140737488355328/\x.s.length+1+1<=9223372036854775807:=by omega
   have h6:dy (x.s.length+1) (dy x.s.length arr.elems++[bt a])=dy x.s.length arr.elems++[bt a]:=mh (by omega);have h7:x.s.length+1+1=(dy x.s.length arr.elems++[bt a]++[bt b]).length:=by simp;omega
   simp only[h4',go_sem,AF,Ap,h5,h6,<-h7];simp[St.Hn,St.OY,h1,hx,hA,St.push,St.Gv,h4];rw[Ap,h6,List.append_assoc];rfl
theorem Lc (h:OkA x arr) (c:C) (hN:4<N) (k:KD R):HF N c (.int x.s.length) (.int x.e) arr k=k [.int (x.push (GS c.toBool)).s.length,.int (x.push (GS c.toBool)).e,.int arr.elems.length,x.Gv arr (GS c.toBool)] []:=by rw[iJ];unfold XN;cases hc:c.toBool <;> simp only[go_sem,AF,bx,AG,MP h _ hN] <;> first|done|rfl
end
def St.put (x:St) (r:Int × Int):St:=if r.2=0 then x.push r.1 else x.fail r.2
def hiM (a b:Int):Int:=
  (bw bu
   (bw bu
     (bw bu
       (fp (a) (2^min (bo 32) 64)*fp (b) (2^min (bo 32) 64))+
      fp
       (bw bu
        (bw bu
          (fp (a) (2^min (bo 32) 64)*
           CH fv bu (b) 4294967295)+
         fp
          (bw bu
           (CH fv bu (a) 4294967295*
            CH fv bu (b) 4294967295))
          (2^min (bo 32) 64)))
       (2^min (bo 32) 64))+
    fp
     (bw bu
      (CH fv bu
        (bw bu
         (bw bu
           (fp (a) (2^min (bo 32) 64)*
            CH fv bu (b) 4294967295)+
          fp
           (bw bu
            (CH fv bu (a) 4294967295*
             CH fv bu (b) 4294967295))
           (2^min (bo 32) 64)))
        4294967295+
       bw bu
        (CH fv bu (a) 4294967295*
         fp (b) (2^min (bo 32) 64))))
     (2^min (bo 32) 64)))
def mulR (a b:Int):Int × Int:=if hiM a b=0 then(IntKind.u64.wrap (a*b),0)else(0,11)
def St.IZ (x:St) (f:Int->Int->Int × Int):St:=if x.pop.2.pop.2.e=0 then x.pop.2.pop.2.put (f x.pop.2.pop.1 x.pop.1)else x.pop.2.pop.2
def DN (w:C) (op:Nat) (arg:Int) (x:St):St:=match op with|1=>x.push arg|2=>if arg<((w.get 0).elems.length:Int)then x.push ((w.get 0).elems.getD arg.toNat .nil).toInt else x.fail 1|3=>x.IZ Bq|4=>x.IZ CZ|5=>x.IZ mulR|6=>x.pop.2.pop.2.push (GS (decide (x.pop.2.pop.1<x.pop.1)))|7=>x.pop.2.pop.2.push (GS (decide (x.pop.2.pop.1=x.pop.1)))|8=>x.pop.2.push (GS (decide (x.pop.1=0)))|9=>x.pop.2.pop.2.push (GS (!decide (x.pop.2.pop.1=0)&& !decide (x.pop.1=0)))|10=>x.pop.2.pop.2.push (GS (!decide (x.pop.2.pop.1=0)|| !decide (x.pop.1=0)))|13=>x.pop.2.Hn x.pop.1 x.pop.1|14=>x.pop.2.pop.2.Hn x.pop.1 x.pop.2.pop.1|15=>x.pop.2|16=>if arg<((w.get 1).elems.length:Int)then x.push (GS ((w.get 1).elems.getD arg.toNat .nil).toBool)else x.fail 1|17=>x.push (w.get 2).toInt|_=>x
structure WOk (w:C):Prop where
 f:∀c∈(w.get 0).elems,c= .int c.toInt
 l0:(w.get 0).elems.length<4611686018427387904
 l1:(w.get 1).elems.length<4611686018427387904
 h:w.get 2= .int (w.get 2).toInt
theorem mul_eq (a b:Int) (k:KD R):RU N (.int a) (.int b) k=k [.int (mulR a b).1,.int (mulR a b).2] []:=by
 have h1:∀k:KD R,RH N (.int a) (.int b) k=k [.int (hiM a b),.int (IntKind.u64.wrap (a*b))] []:=fun k=>by rw[qF];rfl
 rw[qX];unfold Zt mulR;rw[h1];simp only[go_sem,AF];by_cases h:hiM a b=0 <;> simp[h]
theorem q5P {w:C} (hw:WOk w) {x:St} {arr:C} (h:OkA x arr) (hN:4<N) (op:Nat) (hop:op<=17) (arg:Int) (ha:0<=arg):∃xc,OkA (DN w op arg x) xc/\∀{R:Type} (k:KD R),
  Lf N w (.int op) (.int arg) (.int x.s.length) (.int x.e) arr k=k [.int (DN w op arg x).s.length,.int (DN w op arg x).e,.int arr.elems.length,xc] []:=by
 have c:op=0\/op=1\/op=2\/op=3\/op=4\/op=5\/op=6\/op=7\/op=8\/op=9\/op=10\/op=11\/op=12\/op=13\/op=14\/op=15\/op=16\/op=17:=by omega
 have hp:=h.pop;have hpp:=hp.pop;have red:∀b:Prop,[Decidable b]->(if b then true else false)=decide b:=fun b _=>by by_cases h:b <;> simp[h]
 have m1:IntKind.u64.min=0:=by decide
 have m2:IntKind.u64.max=18446744073709551615:=by decide
 have ofl:∀n:Nat,n<4611686018427387904->IntKind.u64.wrap (n:Int)=n:=fun n hn=>PL (by omega) (by omega)
 have go:∀(x':St) (xc:C),OkA x' xc->(∀{R:Type} (k:KD R),Dq N w (.int op) (.int arg) (.int x.s.length) (.int x.e) arr k=k [.int x'.s.length,.int x'.e,.int arr.elems.length,xc] [])->x'=DN w op arg x->∃xc,OkA (DN w op arg x) xc/\∀{R:Type} (k:KD R),
  Lf N w (.int op) (.int arg) (.int x.s.length) (.int x.e) arr k=k [.int (DN w op arg x).s.length,.int (DN w op arg x).e,.int arr.elems.length,xc] []:=by
  rintro x' xc h1 h2 rfl;exact⟨xc,h1,fun k=>by rw[iH];exact h2 k⟩
 have IZ:∀(f:Int->Int->Int × Int),DN w op arg x=x.IZ f->(∀{R:Type} (k:KD R),Dq N w (.int op) (.int arg) (.int x.s.length) (.int x.e) arr k=
   if x.pop.2.pop.2.e=0 then(if(f x.pop.2.pop.1 x.pop.1).2=0 then k [.int (x.pop.2.pop.2.push (f x.pop.2.pop.1 x.pop.1).1).s.length,.int (x.pop.2.pop.2.push (f x.pop.2.pop.1 x.pop.1).1).e,.int arr.elems.length,x.pop.2.pop.2.Gv arr (f x.pop.2.pop.1 x.pop.1).1] []
    else k [.int (x.pop.2.pop.2.fail (f x.pop.2.pop.1 x.pop.1).2).s.length,.int (x.pop.2.pop.2.fail (f x.pop.2.pop.1 x.pop.1).2).e,.int arr.elems.length,arr] [])
   else k [.int x.pop.2.pop.2.s.length,.int x.pop.2.pop.2.e,.int arr.elems.length,arr] [])->∃xc,OkA (DN w op arg x) xc/\∀{R:Type} (k:KD R),
  Lf N w (.int op) (.int arg) (.int x.s.length) (.int x.e) arr k=k [.int (DN w op arg x).s.length,.int (DN w op arg x).e,.int arr.elems.length,xc] []:=by
  intro f hf hk;by_cases h1:x.pop.2.pop.2.e=0;{by_cases h2:(f x.pop.2.pop.1 x.pop.1).2=0;{refine go _ _ (hpp.push (f x.pop.2.pop.1 x.pop.1).1) (fun k=>?_) ?_;{rw[hk,if_pos h1,if_pos h2]};{rw[hf];simp[St.IZ,St.put,h1,h2]}};{refine go _ _ (hpp.fail (f x.pop.2.pop.1 x.pop.1).2) (fun k=>?_) ?_;{rw[hk,if_pos h1,if_neg h2]};{rw[hf];simp[St.IZ,St.put,h1,h2]}}};{refine go _ _ hpp (fun k=>?_) ?_;{rw[hk,if_neg h1]};{rw[hf];simp[St.IZ,h1]}}
 rcases c with rfl|rfl|rfl|rfl|rfl|rfl|rfl|rfl|rfl|rfl|rfl|rfl|rfl|rfl|rfl|rfl|rfl|rfl
 case inr.inl =>   -- push
  refine go _ _ (h.push arg) (fun k=>?_) rfl;unfold Dq;simp only[go_sem,AF,bx,if_true,MP h _ hN,Int.reduceEq,reduceIte]
 case inr.inr.inl =>   -- load
  by_cases hlt:arg<((w.get 0).elems.length:Int)
  ·have xz:¬((w.get 0).elems.length:Int)<=arg:=by omega
   have yq:(w.get 0).elems.getD arg.toNat .nil= .int ((w.get 0).elems.getD arg.toNat .nil).toInt:=by refine hw.f _ ?_;rw[du,cq (by omega)];exact List.getElem_mem _
   refine go _ _ (h.push ((w.get 0).elems.getD arg.toNat .nil).toInt) (fun k=>?_) (by simp only[DN,hlt,if_true]);unfold Dq;simp only[go_sem,AF,bx,if_true,ofl _ hw.l0,xz,hlt,ha,and_self,Int.reduceEq,reduceIte];rw[yq,MP h _ hN];simp only[go_sem,AF,bx,if_true]
  ·have xz:((w.get 0).elems.length:Int)<=arg:=by omega
   refine go _ _ (h.fail 1) (fun k=>?_) (by simp only[DN,hlt,if_false]);unfold Dq;simp only[go_sem,AF,bx,if_true,ofl _ hw.l0,xz,Ji,Int.reduceEq,reduceIte]
 case inr.inr.inr.inl =>   -- add
  refine IZ Bq rfl fun k=>?_;unfold Dq;simp only[go_sem,AF,bx,if_true,Du h,Du hp,add_eq,MP hpp _ hN,Ji,Int.reduceEq,reduceIte];by_cases h1:x.pop.2.pop.2.e=0 <;> by_cases h2:(Bq x.pop.2.pop.1 x.pop.1).2=0 <;> simp[h1,h2]
 case inr.inr.inr.inr.inl =>   -- sub
  refine IZ CZ rfl fun k=>?_;unfold Dq;simp only[go_sem,AF,bx,if_true,Du h,Du hp,sub_eq,MP hpp _ hN,Ji,Int.reduceEq,reduceIte];by_cases h1:x.pop.2.pop.2.e=0 <;> by_cases h2:(CZ x.pop.2.pop.1 x.pop.1).2=0 <;> simp[h1,h2]
 case inr.inr.inr.inr.inr.inl =>   -- mul
  refine IZ mulR rfl fun k=>?_;unfold Dq;simp only[go_sem,AF,bx,if_true,Du h,Du hp,mul_eq,MP hpp _ hN,Ji,Int.reduceEq,reduceIte];by_cases h1:x.pop.2.pop.2.e=0 <;> by_cases h2:(mulR x.pop.2.pop.1 x.pop.1).2=0 <;> simp[h1,h2]
 all_goals try (   -- those that can't fail of themselves
  first
  |(refine go _ _ (hpp.push _) (fun k=>?_) rfl
    unfold Dq;simp only[go_sem,AF,AW,bx,if_true,Du h,Du hp,Lc hpp _ hN,Int.reduceEq,reduceIte]
    first|done|rfl)
  |(refine go _ _ (hp.push _) (fun k=>?_) rfl
    unfold Dq;simp only[go_sem,AF,AW,bx,if_true,Du h,Lc hp _ hN,Int.reduceEq,reduceIte]
    first|done|rfl)
  |(refine go _ _ (hp.Hn _ _) (fun k=>?_) rfl
    unfold Dq;simp only[go_sem,AF,bx,if_true,Du h,uJ hp _ _ hN,Int.reduceEq,reduceIte]
    first|done|rfl)
  |(refine go _ _ (hpp.Hn _ _) (fun k=>?_) rfl
    unfold Dq;simp only[go_sem,AF,bx,if_true,Du h,Du hp,uJ hpp _ _ hN,Int.reduceEq,reduceIte]
    first|done|rfl)
  |(refine go _ _ hp (fun k=>?_) rfl
    unfold Dq;simp only[go_sem,AF,bx,if_true,Du h,Int.reduceEq,reduceIte]
    first|done|rfl)
  |(refine go _ _ h (fun k=>?_) rfl
    unfold Dq;simp only[go_sem,AF,bx,if_true,Int.reduceEq,reduceIte]
    first|done|rfl))
 ·by_cases h1:x.pop.2.pop.1=0
  ·refine go _ _ (hpp.push (GS false)) (fun k=>?_) (by simp[DN,h1]);unfold Dq;simp only[go_sem,AF,AW,bx,AG,Du h,Du hp,h1,Lc hpp _ hN,Int.reduceEq,reduceIte]
   first|done|rfl
  ·refine go _ _ (hpp.push (GS (!decide (x.pop.1=0)))) (fun k=>?_) (by simp[DN,h1]);unfold Dq;simp only[go_sem,AF,AW,bx,AG,Du h,Du hp,h1,Lc hpp _ hN,Int.reduceEq,reduceIte]
   first|done|rfl
 ·by_cases h1:x.pop.2.pop.1=0
  ·refine go _ _ (hpp.push (GS (!decide (x.pop.1=0)))) (fun k=>?_) (by simp[DN,h1]);unfold Dq;simp only[go_sem,AF,AW,bx,AG,Du h,Du hp,h1,Lc hpp _ hN,Int.reduceEq,reduceIte]
   first|done|rfl
  ·refine go _ _ (hpp.push (GS true)) (fun k=>?_) (by simp[DN,h1]);unfold Dq;simp only[go_sem,AF,AW,bx,AG,Du h,Du hp,h1,Lc hpp _ hN,Int.reduceEq,reduceIte]
   first|done|rfl
 ·by_cases hlt:arg<((w.get 1).elems.length:Int)
  ·have xz:¬((w.get 1).elems.length:Int)<=arg:=by omega
   refine go _ _ (h.push (GS ((w.get 1).elems.getD arg.toNat .nil).toBool)) (fun k=>?_) (by simp only[DN,hlt,if_true]);unfold Dq;simp only[go_sem,AF,bx,if_true,ofl _ hw.l1,xz,hlt,ha,and_self,Lc h _ hN,Int.reduceEq,reduceIte]
   first|done|rfl
  ·have xz:((w.get 1).elems.length:Int)<=arg:=by omega
   refine go _ _ (h.fail 1) (fun k=>?_) (by simp only[DN,hlt,if_false]);unfold Dq;simp only[go_sem,AF,bx,if_true,ofl _ hw.l1,xz,Ji,Int.reduceEq,reduceIte]
 ·refine go _ _ (h.push (w.get 2).toInt) (fun k=>?_) rfl;unfold Dq;simp only[go_sem,AF,bx,if_true,Int.reduceEq,reduceIte];rw[hw.h,MP h _ hN];simp only[go_sem,AF,bx,if_true]
end
section
variable {R:Type} {N:Nat}
def Dh (o:Int):Int:=if o=5 then 3 else if o=16 then 10 else 1
theorem XY (o:Int):1<=Dh o/\Dh o<=10:=by unfold Dh;(repeat' split) <;> omega
theorem q1M:∀(o:Nat),o<18->(Er.getD o .nil).get 2= .int (Dh o):=by
 intro o h;have c:o=0\/o=1\/o=2\/o=3\/o=4\/o=5\/o=6\/o=7\/o=8\/o=9\/o=10\/o=11\/o=12\/o=13\/o=14\/o=15\/o=16\/o=17:=by omega
 rcases c with rfl|rfl|rfl|rfl|rfl|rfl|rfl|rfl|rfl|rfl|rfl|rfl|rfl|rfl|rfl|rfl|rfl|rfl <;> rfl
def EA (p:List C) (i:Nat):Int:=EB p (i+1) (CQ (bN p i))
def LC (p:List C) (gas:Int) (w:C):Nat->Nat->Int->St->Int × Int × Int
 |0,_,_,_=>(0,0,0)|f+1,i,sp,x=>
  if Bi p i≠0 then(0,sp,Bi p i)
  else if gas-sp<Dh (bN p i)then(0,sp,24)
  else if bN p i=0 then(x.pop.1,sp+Dh (bN p i),x.pop.2.e)
  else if bN p i=11 then(if x.e≠0 then(0,sp+Dh (bN p i),x.e)else LC p gas w f (EA p i).toNat (sp+Dh (bN p i)) x)
  else if bN p i=12 then(if x.pop.2.e≠0 then(0,sp+Dh (bN p i),x.pop.2.e)else LC p gas w f (if x.pop.1=0 then i+1+CQ (bN p i)else(EA p i).toNat) (sp+Dh (bN p i)) x.pop.2)
  else(if(DN w (bN p i).toNat (EA p i) x).e≠0 then(0,sp+Dh (bN p i),(DN w (bN p i).toNat (EA p i) x).e)
   else LC p gas w f (i+1+CQ (bN p i)) (sp+Dh (bN p i)) (DN w (bN p i).toNat (EA p i) x))
theorem Ov {p:List C} {gas:Int} {w:C}:∀(f g i:Nat) (sp:Int) (x:St),(gas-sp).toNat<f->(gas-sp).toNat<g->LC p gas w f i sp x=LC p gas w g i sp x
 |0,_,_,_,_,h,_=>by omega
 |_+1,0,_,_,_,_,h=>by omega
 |f+1,g+1,i,sp,x,h1,h2=>by have hc:=XY (bN p i);simp only[LC];split;{rfl};split;{rfl};split;{rfl};split;{split;{rfl};{exact Ov f g _ _ _ (by omega) (by omega)}};split;{split;{rfl};{exact Ov f g _ _ _ (by omega) (by omega)}};split;{rfl};{exact Ov f g _ _ _ (by omega) (by omega)}
def Ht (p:List C) (gas:Int) (w:C) (i:Nat) (sp:Int) (x:St):Int × Int × Int:=LC p gas w ((gas-sp).toNat+1) i sp x
theorem q6v {p:List C} {gas:Int} {w:C} {i:Nat} {sp:Int} {x:St}:Ht p gas w i sp x=
  if Bi p i≠0 then(0,sp,Bi p i)
  else if gas-sp<Dh (bN p i)then(0,sp,24)
  else if bN p i=0 then(x.pop.1,sp+Dh (bN p i),x.pop.2.e)
  else if bN p i=11 then(if x.e≠0 then(0,sp+Dh (bN p i),x.e)else Ht p gas w (EA p i).toNat (sp+Dh (bN p i)) x)
  else if bN p i=12 then(if x.pop.2.e≠0 then(0,sp+Dh (bN p i),x.pop.2.e)else Ht p gas w (if x.pop.1=0 then i+1+CQ (bN p i)else(EA p i).toNat) (sp+Dh (bN p i)) x.pop.2)
  else(if(DN w (bN p i).toNat (EA p i) x).e≠0 then(0,sp+Dh (bN p i),(DN w (bN p i).toNat (EA p i) x).e)
   else Ht p gas w (i+1+CQ (bN p i)) (sp+Dh (bN p i)) (DN w (bN p i).toNat (EA p i) x)):=by
 have hc:=XY (bN p i);unfold Ht;rw[LC];split;{rfl};split;{rfl};split;{rfl};split;{split;{rfl};{exact Ov _ _ _ _ _ (by omega) (by omega)}};split;{split;{rfl};{exact Ov _ _ _ _ _ (by omega) (by omega)}};split;{rfl};{exact Ov _ _ _ _ _ (by omega) (by omega)}
theorem fS {p:List C} (hp:C.wf (.slice 1 (.int .u8)) (.slice p)) {i:Nat} (h:i+1+CQ (bN p i)<=p.length) (h2:bN p i=11\/bN p i=12):0<=EA p i/\EA p i<65536:=by
 have hm:CQ (bN p i)=2:=by rcases h2 with h2|h2 <;> rw[h2] <;> rfl
 have h16:=Wi hp (i:=i+1) (k:=CQ (bN p i)) (by omega);unfold EA;rw[hm]at h16 ⊢;exact⟨h16.1,by have:=h16.2;omega⟩
structure zU where
 i:Nat
 sp:Int
 x:St
 arr:C
theorem q6F {p:List C} (hp:C.wf (.slice 1 (.int .u8)) (.slice p)) (hl:p.length<=256) {gas:Int} (hg:0<=gas/\gas<=4096) {w:C} (hw:WOk w) (hN:5000<N) (k:KD R):
  NM N (.slice p) w (.int gas) k=k [.int (Ht p gas w 0 0 ⟨[],0⟩).1,.int (Ht p gas w 0 0 ⟨[],0⟩).2.1,.int (Ht p gas w 0 0 ⟨[],0⟩).2.2] []:=by
 rw[XM];unfold TR;have a1:¬(256:Int)<(p.length:Int):=by omega
 have a2:¬gas<0:=by omega
 have a3:¬(4096:Int)<gas:=by omega
 simp only[go_sem,AF,Ac,AW,a1,a2,a3,AG]
 refine OE (F:=XL N k) (fun i:zU=>[.slice p,.int gas,w,.int i.i,.int i.sp,.int i.x.s.length,.int i.x.e,i.arr]) (fun _=>[]) (fun i=>(gas-i.sp).toNat)
  (fun i=>OkA i.x i.arr/\i.x.e=0/\0<=i.sp/\i.sp<=gas/\i.i<=100000) (fun i=>k [.int (Ht p gas w i.i i.sp i.x).1,.int (Ht p gas w i.i i.sp i.x).2.1,.int (Ht p gas w i.i i.sp i.x).2.2] [])
  ?_ N ⟨0,0,⟨[],0⟩,.agg []⟩ ⟨⟨by simp,by simp[bq]⟩,rfl,by dsimp only;omega,by dsimp only;omega,by dsimp only;omega⟩ (by dsimp only;omega)
 rintro⟨i,sp,x,arr⟩ ⟨hA,he,h0,h1,hi⟩ rec ya;dsimp only at hA he h0 h1 hi ya ⊢;rw[q6v];unfold XL;have b1:bn p<=256/\(0:Int)<=(i:Int)/\(i:Int)<=100000:=⟨hl,by omega,by omega⟩;simp only[go_sem,AF,Ac,AW,b1,if_true,and_self,bx];by_cases e1:Bi p i=0
 case neg=>simp[e1]
 have hb:i<p.length/\bN p i<18/\i+1+CQ (bN p i)<=p.length:=by unfold Bi at e1;split at e1;{cases e1};split at e1;{cases e1};split at e1;{cases e1};omega
 have hbw:=PW hp hb.1;have hop:0<=bN p i/\bN p i<18:=by omega
 simp only[e1,hop,AG,and_self,ne_eq,not_true];have hco:(Er.getD (bN p i).toNat .nil).get 2= .int (Dh (bN p i)):=by
  have:=q1M (bN p i).toNat (by omega)
  rwa [gy hop.1]at this
 have hcp:=XY (bN p i);have w1:IntKind.i64.wrap (gas-sp)=gas-sp:=je _ (by omega);have w2:IntKind.i64.wrap (sp+Dh (bN p i))=sp+Dh (bN p i):=je _ (by omega);have hmo:=rB (bN p i);obtain⟨g1,g2,g3⟩:=fU hp (i:=i+1) (k:=CQ (bN p i)) (by omega) hmo;have hpl:=q5P hw hA (N:=N) (by omega) (bN p i).toNat (by omega) (EB p (i+1) (CQ (bN p i))) g1;rw[gy hop.1]at hpl;simp only[hco,go_sem,AF,w1,w2];generalize hc:Dh (bN p i)=c at*;by_cases e2:gas-sp<c;{simp[e2]};by_cases e3:bN p i=0;{simp[e2,e3,Du hA,go_sem]};have hw3:0<=EA p i->EA p i<65536->IntKind.i64.wrap (EB p (i+1) (CQ (bN p i)))=((EA p i).toNat:Int):=fun h1 h2=>by rw[gy h1];exact je _ (by unfold EA at*;omega)
 by_cases e4:bN p i=11;{obtain⟨q1,q2⟩:=fS hp hb.2.2 (.inl e4);have:=ya ⟨(EA p i).toNat,sp+c,x,arr⟩ ⟨hA,he,by dsimp only;omega,by dsimp only;omega,by dsimp only;omega⟩ (by dsimp only;omega);simp only[hw3 q1 q2];simp only[e2,e3,e4,he,AG,not_true,not_false_iff,Int.reduceEq];simpa only[he]using this};by_cases e5:bN p i=12;{obtain⟨q1,q2⟩:=fS hp hb.2.2 (.inr e5);simp only[hw3 q1 q2,Du hA];simp only[e2,e3,e4,e5,go_sem,AF,AG,not_true,not_false_iff,Int.reduceEq,bx];by_cases e6:x.pop.2.e=0;{by_cases e7:x.pop.1=0;{have:=ya ⟨i+1+CQ (bN p i),sp+c,x.pop.2,arr⟩ ⟨hA.pop,e6,by dsimp only;omega,by dsimp only;omega,by dsimp only;omega⟩ (by dsimp only;omega);simp only[e5]at this;simpa[e6,e7]using this};{have:=ya ⟨(EA p i).toNat,sp+c,x.pop.2,arr⟩ ⟨hA.pop,e6,by dsimp only;omega,by dsimp only;omega,by dsimp only;omega⟩ (by dsimp only;omega);simpa[e6,e7]using this}};{by_cases e7:x.pop.1=0 <;> simp[e6,e7]}};{obtain⟨xc,hA',hk⟩:=hpl;simp only[hk];simp only[e2,e3,e4,e5,go_sem,AF,AG,not_true,not_false_iff,Int.reduceEq,bx];have hq:EB p (i+1) (CQ (bN p i))=EA p i:=rfl;rw[hq]at hA' ⊢;by_cases e6:(DN w (bN p i).toNat (EA p i) x).e=0;{have:=ya ⟨i+1+CQ (bN p i),sp+c,DN w (bN p i).toNat (EA p i) x,xc⟩ ⟨hA',e6,by dsimp only;omega,by dsimp only;omega,by dsimp only;omega⟩ (by dsimp only;omega);simpa[e6]using this};{simp[e6]}}
end
def TG {R:Type} (N:Nat) (k1:KD R) (k2:KD R):KD R->KD R:=fun k3 d3 m3=>(bif decide (bp (dk d3 3)<2)then(if 0<=bp (dk d3 3)/\bp (dk d3 3)<2 then(jn (fun d4 m4=>(bif ek (dk d4 4)then(k1 [bt 12] [])else(k3 [dk d4 0,dk d4 1,dk d4 2,bt (bw ca (bp (dk d4 3)+1))] []))) (fun k4=>(bif decide (bp (cd (cd (dk d3 0) 8) 1)<bp (cd (cd (dk d3 1) 0) 1))then(if 0<=bp (dk d3 3)/\bp (dk d3 3)<2 then(k4 [dk d3 0,dk d3 1,dk d3 2,dk d3 3,dv (decide (bp (cd (cd (cd (dk d3 1) 0) 3) (bo (bp (dk d3 3))))<bp (cd (dk d3 2) (bo (bp (dk d3 3))))))] [])else none)else(k4 [dk d3 0,dk d3 1,dk d3 2,dk d3 3,dv false] []))))else none)else(k2 [] []))
def Wx (a0 a1:C) (k1:KD R):Option R:=bif decide (bp (cd a0 6)=2)then(k1 [bt 31] [])else(Je N (cd a0 2) a1 (cd a0 0) (fun d1 m1=>(bif !ek (dk d1 0)then(k1 [bt 20] [])else(OU N (cd a1 0) (cd a0 4) (fun d2 m2=>(bif !decide (bp (dk d2 0)=0)then(k1 [dk d2 0] [])else(jn (fun d3 m3=>(k1 [bt 0] [])) (fun k2=>(BU N (TG N k1 k2) [a0,a1,cd a0 5,bt 0] [])))))))))
def Lb:=lid "" (@Wx R N)
theorem gP {R N a0 a1 k}:@Lb R N a0 a1 k=Wx N a0 a1 k:=by unfold Lb;rw[Ag]
def v8:OvG R:=BS [AO,Ch] (DY (Lb N)) (Ca (cg ca))
theorem Ww:okX 129 (@v8 R N):=BW (AP (q0f N) <| AP (tV N) <| Ah) N [(129,[(0,[(2,5),(3,5)])])] [(129,[([1,0,1,1,1],(Bc [])),
  ([4,1,0,1,1,1],(Bm [2,3,29] [(30,.d (.int .i64))])),
  ([0,1,4,0,1,1,5,4,1,0,1,1,1],(Bm [2,3,29,30] [(49,.d .bool)])),
  ([9],(Bc [(4,.d (.int .i64))]))])] (fun _ _=>gP)
def bL {R:Type} (N:Nat) (a0:C) (k1:KD R):Option R:=bif dj (bn (bq (cd a0 4))) (bn (bq (cd a0 4)))then(k1 [eg [cd a0 0,cd a0 1,cd a0 2,cd a0 3,cz (bq (cd a0 4))]] [])else none
def MO:=lid "" (@bL R N)
theorem tY {R N a0 k}:@MO R N a0 k=bL N a0 k:=by unfold MO;rw[Ag]
def q5G:OvG R:=BS [BV] (Cw (MO N)) (Ca BV)
theorem bK:okX 58 (@q5G R N):=BW (AP (hM N) <| Ah) N [] [(58,[([9],⟨[],[(2,.as (.ptr (.l 2) [] BV))],[],[(.l 2,.box (.d BV))],[],[]⟩)])] (fun _ _=>tY)
def Wt (a0:C) (k1:KD R):Option R:=MO N (cd a0 8) (fun d1 m1=>(bif dj (bn (bq (cd a0 3))) (bn (bq (cd a0 3)))then(k1 [eg [cd a0 0,cd a0 1,cd a0 2,cz (bq (cd a0 3)),cd a0 4,cd a0 5,cd a0 6,cd a0 7,dk d1 0]] [])else none))
def JX:=lid "" (@Wt R N)
theorem gM {R N a0 k}:@JX R N a0 k=Wt N a0 k:=by unfold JX;rw[Ag]
def v5:OvG R:=BS [AO] (Cw (JX N)) (Ca AO)
theorem TF:okX 52 (@v5 R N):=BW (AP (TP N) <| AP (bK N) <| Ah) N [(52,[(1,[(8,7)])])] [(52,[([9],⟨[],[(2,.as (.ptr (.l 2) [] AO))],[],[(.l 2,.box (.d AO))],[],[]⟩)])] (fun _ _=>gM)
def Cb:C:=eg [AL (cg di),AL (dc 2 (cg ca)),eg [eg [eg (db 32 (bt 0)),eg (db 32 (bt 0))],bt 0],cz [],AL (dc 2 (cg bu)),AL (dc 2 (cg bu)),AL (cg ca),AL (cg bu),eg [AL (cg di),AL (cg bu),AL (dc 2 (cg bu)),AL (dc 2 (cg bu)),cz []]]
def Wv (a0 a1:C) (k1:KD R):Option R:=JX N a0 (fun d1 m1=>(jn (fun d2 m2=>(k1 [dk d2 0] [])) (fun k2=>(bif decide (bp (cd (cd (dk d1 0) 8) 1)<bp (cd (cd a1 0) 1))then(MO N (cd a1 0) (fun d2 m2=>(k2 [dp (dk d1 0) 8 (dk d2 0),Cb] [])))else(k2 [dk d1 0,Cb] [])))))
def LZ:=lid "" (@Wv R N)
theorem gN {R N a0 a1 k}:@LZ R N a0 a1 k=Wv N a0 a1 k:=by unfold LZ;rw[Ag]
def v7:OvG R:=BS [AO,Ch] (DY (LZ N)) (Ca AO)
theorem Wu:okX 130 (@v7 R N):=BW (AP (TF N) <| AP (bK N) <| Ah) N [(130,[(0,[(3,5)])])] [(130,[([1,0,1,1],(Bm [2,4] [])),
  ([9],⟨[],[(4,.as (.ptr (.l 4) [] AO))],[],[(.l 4,.box (.d AO))],[],[]⟩)])] (fun _ _=>gN)
def Wy (a0:C) (k1:KD R):Option R:=NM N (cd a0 3) (eg [cz [cd (cd a0 4) (bo 0),cd (cd a0 4) (bo 1),cd (cd a0 8) 1],cz [],AL (cg bu)]) (bt 200) (fun d1 m1=>(bif !decide (bp (dk d1 2)=0)then(k1 [bt 5] [])else(k1 [bt (if 1<if 50<bp (dk d1 0)then 50 else bp (dk d1 0)then if 50<bp (dk d1 0)then 50 else bp (dk d1 0)else 1)] [])))
def PY:=lid "" (@Wy R N)
theorem gQ {R N a0 k}:@PY R N a0 k=Wy N a0 k:=by unfold PY;rw[Ag]
def v9:OvG R:=BS [AO] (Cw (PY N)) (Ca (cg bu))
theorem u0:okX 131 (@v9 R N):=BW (AP (Z1 N) <| Ah) N [(131,[(0,[(1,5)])])] [(131,[([9],(Bc [(2,.d (.int .u64))]))])] (fun _ _=>gQ)
def Wp (a0 a1 a2:C) (k1:KD R):Option R:=bif decide (bp (cd a0 6)=1)then(k1 [bt 3,Cb] [])else(Lb N a0 a1 (fun d1 m1=>(bif !decide (bp (dk d1 0)=0)then(k1 [dk d1 0,Cb] [])else(LZ N a0 a1 (fun d2 m2=>(PY N (dk d2 0) (fun d3 m3=>(JH N a2 (dk d3 0) (fun d4 m4=>(bif !decide (bp (dk d4 1)=0)then(k1 [dk d4 1,Cb] [])else(k1 [bt 0,dp (dp (dk d2 0) 6 (bt 1)) 7 (dk d4 0)] [])))))))))))
def NG:=lid "" (@Wp R N)
theorem gH {R N a0 a1 a2 k}:@NG R N a0 a1 a2 k=Wp N a0 a1 a2 k:=by unfold NG;rw[Ag]
def y8:OvG R:=BS [AO,Ch,.int .u64] (Ip (NG N)) fun a K d1 m1=>K (qs [V.d AO (dk d1 1),V.d (cg ca) (dk d1 0)]) []
theorem y9:okX 105 (@y8 R N):=BW (AP (Uu N) <| AP (Ww N) <| AP (Wu N) <| AP (u0 N) <| Ah) N [(105,[(0,[(4,5)])])] [(105,[([9],⟨[],[(6,.as (.ptr (.l 6) [] AO)),(7,.d (.int .i64))],[],[(.l 6,.box (.d AO))],[],[]⟩)])] (fun _ _=>gH)
section
variable {R:Type} {N:Nat}
def SOk (s:C):Prop:=s= .agg [s.get 0,s.get 1,s.get 2,s.get 3,.slice (BK s)]
def mkB (id who rts:C) (wj:List C) (put wg ph un wb:C):C:=.agg [id,who,rts,.slice wj,put,wg,ph,un,wb]
theorem bJ {s:C} (h:SOk s) (k:KD R):MO N s k=k [s] []:=by rw[tY];unfold bL;simp only[ct,cond_true];exact congrArg (fun x=>k [x] []) h.symm
section
variable {id who rts:C} {wj:List C} {put wg ph un wb:C}
theorem TH (h:SOk wb) (k:KD R):JX N (mkB id who rts wj put wg ph un wb) k=k [mkB id who rts wj put wg ph un wb] []:=by rw[gM];unfold Wt mkB;simp only[go_sem,bJ h,Ac,ct,cond_true]
def VU (wb wg s:C) (_:Nat) (_:Unit) (side:Nat):Unit ⊕ Int:=if(wb.get 1).toInt<(s.get 1).toInt/\((s.get 3).get side).toInt<(wg.get side).toInt then .inr 12 else .inl ()
def GQ (ph put wg wb d:C) (w:Bool):Int:=
 if ph.toInt=2 then 31 else if w=false then 20 else if JO (d.get 0) put≠0 then JO (d.get 0) put else okE (CI (VU wb wg (d.get 0)) 0 () [0,1])
theorem look_eq {d:C} {w:Bool} (hW:∀k:KD R,Je N rts d id k=k [.bool w] []) (hN:2199023255552<N) (k:KD R):
  Lb N (mkB id who rts wj put wg ph un wb) d k=k [.int (GQ ph put wg wb d w)] []:=by
 rw[gP];unfold Wx GQ mkB;simp only[go_sem,AF,AW,hW,xA (d.get 0) put hN];by_cases h1:ph.toInt=2;{simp[h1]};cases w;{simp[h1]};by_cases h2:JO (d.get 0) put=0
 case neg=>simp[h1,h2]
 simp only[h1,h2,AG,ne_eq,not_true,Bool.true_eq_false];refine(Ju (F:=TG N k _) (fun i (_:Unit)=>[.agg [id,who,rts,.slice wj,put,wg,ph,un,wb],d,wg,.int i]) (fun _ _=>[]) ([0,1]:List Nat) (VU wb wg (d.get 0)) (fun _=>k [.int 0] []) (fun e=>k [.int e] []) (s0:=()) ?_ ?_ (show 2<N by omega)).trans ?_
 ·intro i _ c hx hi rec;have hi2:i<2:=hi;have h1:(i:Int)<2:=by omega
  have hc:c=i:=by
   have:i=0\/i=1:=by omega
   rcases this with rfl|rfl <;> simp at hx <;> exact hx.symm
  subst hc;unfold TG VU;simp only[go_sem,AF,AW,h1,Ck (show c<4611686018427387904 by omega),dd,and_self,if_true];by_cases h3:(wb.get 1).toInt<((d.get 0).get 1).toInt;{by_cases h4:(((d.get 0).get 3).get c).toInt<(wg.get c).toInt <;> simp[h3,h4]};{simp[h3]}
 ·intro _ rec;unfold TG;simp[go_sem,AF]
 ·unfold FW okE;cases CI (VU wb wg (d.get 0)) 0 () [0,1] <;> rfl
def Cr (wb d:C):C:=if(wb.get 1).toInt<((d.get 0).get 1).toInt then d.get 0 else wb
theorem Wm {d:C} (h:SOk wb) (hd:SOk (d.get 0)) (k:KD R):LZ N (mkB id who rts wj put wg ph un wb) d k=k [mkB id who rts wj put wg ph un (Cr wb d)] []:=by rw[gN];unfold Wv Cr;rw[TH h];unfold mkB;simp only[go_sem,AF,bJ hd];by_cases h3:(wb.get 1).toInt<((d.get 0).get 1).toInt <;> simp[h3]
def JN (p:List C) (w:C) (gas:Int):Int × Int × Int:=if 256<p.length\/gas<0\/4096<gas then(0,0,1)else Ht p gas w 0 0 ⟨[],0⟩
theorem run_eq {p:List C} (hp:C.wf (.slice 1 (.int .u8)) (.slice p)) {gas:Int} {w:C} (hw:WOk w) (hN:5000<N) (k:KD R):
  NM N (.slice p) w (.int gas) k=k [.int (JN p w gas).1,.int (JN p w gas).2.1,.int (JN p w gas).2.2] []:=by
 unfold JN;by_cases h:256<p.length\/gas<0\/4096<gas
 ·rw[if_pos h,XM];unfold TR;simp only[go_sem,AF,Ac,AW];by_cases a1:(256:Int)<(p.length:Int);{simp[a1]};by_cases a2:gas<0;{simp[a1,a2]};have a3:(4096:Int)<gas:=by omega
  simp[a1,a2,a3]
 ·rw[if_neg h];exact q6F hp (by omega) (by omega) hw hN k
def JV (put wb:C):C:=.agg [.slice [put.get 0,put.get 1,wb.get 1],.slice [],.int 0]
def PK (wj:List C) (put wb:C):Int:=
 if(JN wj (JV put wb) 200).2.2≠0 then 5 else
  if 1<(if 50<(JN wj (JV put wb) 200).1 then 50 else(JN wj (JV put wb) 200).1)then(if 50<(JN wj (JV put wb) 200).1 then 50 else(JN wj (JV put wb) 200).1)else 1
structure Sn (put wb:C):Prop where
 p0:put.get 0= .int (put.get 0).toInt
 p1:put.get 1= .int (put.get 1).toInt
 r:wb.get 1= .int (wb.get 1).toInt
theorem q8w (h:Sn put wb):WOk (JV put wb):=by refine⟨?_,by simp[JV,cd,bq],by simp[JV,cd,bq],rfl⟩;intro c hc;have hc:c∈[put.get 0,put.get 1,wb.get 1]:=hc;simp only[List.mem_cons,List.not_mem_nil,or_false]at hc;rcases hc with rfl|rfl|rfl;{exact h.p0};{exact h.p1};{exact h.r}
theorem q8o (hr:C.wf (.slice 1 (.int .u8)) (.slice wj)) (h:Sn put wb) (hN:5000<N) (k:KD R):PY N (mkB id who rts wj put wg ph un wb) k=k [.int (PK wj put wb)] []:=by rw[gQ];unfold Wy mkB PK;have hw:eg [cz [put.get (bo 0),put.get (bo 1),wb.get 1],cz [],AL (cg bu)]=JV put wb:=rfl;simp only[mP,Ya,q1W,hw,run_eq hr (q8w h) hN];simp only[go_sem,AF];by_cases h1:(JN wj (JV put wb) 200).2.2=0;{simp[h1];rfl};{simp[h1]}
def zB:C:=.agg [.int 0,zz,.agg [.agg [.agg (db 32 (.int 0)),.agg (db 32 (.int 0))],.int 0],.slice [],zz,zz,.int 0,.int 0,.agg [.int 0,.int 0,zz,zz,.slice []]]
theorem LN:Cb=zB:=rfl
def Ka (id who rts:C) (wj:List C) (put wg ph un wb d:C) (w:Bool) (wc:Int):Int × C:=
 if ph.toInt=1 then(3,zB)else if GQ ph put wg wb d w≠0 then(GQ ph put wg wb d w,zB)else
  if(Bq wc (PK wj put (Cr wb d))).2≠0 then((Bq wc (PK wj put (Cr wb d))).2,zB)else
   (0,mkB id who rts wj put wg (.int 1) (.int (Bq wc (PK wj put (Cr wb d))).1) (Cr wb d))
theorem q1I {d:C} {w:Bool} (hW:∀k:KD R,Je N rts d id k=k [.bool w] []) (hr:C.wf (.slice 1 (.int .u8)) (.slice wj)) (h:SOk wb) (hd:SOk (d.get 0)) (hi:Sn put wb) (hi2:(d.get 0).get 1= .int ((d.get 0).get 1).toInt) (hN:2199023255552<N) (wc:C) (k:KD R):
  NG N (mkB id who rts wj put wg ph un wb) d wc k=k [.int (Ka id who rts wj put wg ph un wb d w wc.toInt).1,(Ka id who rts wj put wg ph un wb d w wc.toInt).2] []:=by
 have hi3:Sn put (Cr wb d):=⟨hi.p0,hi.p1,by unfold Cr;split;exact hi2;exact hi.r⟩;rw[gH];unfold Wp Ka;rw[LN];have h6:(mkB id who rts wj put wg ph un wb).get 6=ph:=rfl;have d0:∀(c:C) (l:List C),dk (c::l) 0=c:=fun _ _=>rfl;simp only[h6,look_eq hW hN,Wm h hd,d0,q8o hr hi3 (show 5000<N by omega),add_eq];by_cases h1:ph.toInt=1;{simp[h1]};by_cases h2:GQ ph put wg wb d w=0
 case neg=>simp[h1,h2,go_sem,AF]
 by_cases h3:(Bq wc.toInt (PK wj put (Cr wb d))).2=0 <;> simp[h1,h2,h3,go_sem,AF,mkB]
end
end
def q4S:List Sh:=[.as (.ptr (.g (.l 1)) [] Bb),.d (.arr 32 (.int .u8))]
def q4V:List (Key × OSh):=[(.l 1,.box (.agg Bb [.as (.mp (.g (.l 2)))])),(.l 2,.map (.arr 32 (.int .u8)) AB)]
def aG {R:Type} (N:Nat) (a0 a1 b0:C) (m0:Es) (k1:KD R):Option R:=bif De AB (dE AB m0)then(bif IU (dE AB m0) a0 then(k1 [cd (Kf (dE AB m0) a0) 1,dv true] [])else(k1 [bt 0,dv false] []))else none
def Rg:=lid "" (@aG R N)
theorem rP {R N a0 a1 b0 m0 k}:@Rg R N a0 a1 b0 m0 k=aG N a0 a1 b0 m0 k:=by unfold Rg;rw[Ag]
def q4T:OvG R:=CP q4S q4V (fun ds ms=>Rg N (dk ds 0) (dk ds 1) (dk ds 2) (dm ms 0)) fun ds ms K d1 m1=>K (qs [V.d (cg bu) (dk d1 0),V.d Ty.bool (dv (ek (dk d1 1)))]) []
theorem q4U:okX 196 (@q4T R N):=CT Ah N [(196,[(0,[(3,5)])])] [(196,[([9],⟨[],[(4,.d (.int .u64)),(5,.d .bool)],[],[],[.g (.l 1),.g (.l 2)],[]⟩)])] (fun _ _ _=>rP)
def q4G:List Sh:=[.as (.ptr (.g (.l 1)) [] Bb),.d (.arr 32 (.int .u8)),.d (.int .u64)]
def q4J:List (Key × OSh):=[(.l 1,.box (.agg Bb [.as (.mp (.g (.l 2)))])),(.l 2,.map (.arr 32 (.int .u8)) AB)]
def aC (a0 a1 a2 b0:C) (m0:Es) (k1:KD R):Option R:=if Ab AB (dE AB m0)=true then(Rg N a0 gj gj (unE (dE AB m0)) (fun d1 m1=>(jn (fun d2 m2=>(k1 [dv (ek (dk d2 0))] [])) (fun k2=>(bif ek (dk d1 1)then(k2 [dv (decide (bp (dk d1 0)<=bp a1))] [])else(k2 [dv false] []))))))else none
def Rc:=lid "" (@aC R N)
theorem rN {R N a0 a1 a2 b0 m0 k}:@Rc R N a0 a1 a2 b0 m0 k=aC N a0 a1 a2 b0 m0 k:=by unfold Rc;rw[Ag]
def q4H:OvG R:=CP q4G q4J (fun ds ms=>Rc N (dk ds 0) (dk ds 1) (dk ds 2) (dk ds 3) (dm ms 0)) fun ds ms K d1 m1=>K (V.d Ty.bool (dv (ek (dk d1 0)))) []
theorem q4I:okX 175 (@q4H R N):=CT (AP (q4U N) <| Ah) N [(175,[(0,[(4,5)])])] [(175,[([0,1,1],⟨[0],[(6,.d .bool)],[],[],[.g (.l 1),.g (.l 2)],[]⟩),
  ([9],⟨[],[(6,.d .bool)],[],[],[.g (.l 1),.g (.l 2)],[]⟩)])] (fun _ _ _=>rN)
def q4K:List Sh:=[.as (.ptr (.g (.l 1)) [] Bb),.d Bz,.d (.int .u64)]
def q4N:List (Key × OSh):=[(.l 1,.box (.agg Bb [.as (.mp (.g (.l 2)))])),(.l 2,.map (.arr 32 (.int .u8)) AB)]
def aE (a0 a1 b0:C) (m0:Es) (k1:KD R):Option R:=if Ab AB (dE AB m0)=true then(Rc N (cd a0 3) (cd a0 4) gj gj (unE (dE AB m0)) (fun d1 m1=>(bif ek (dk d1 0)then(k1 [bt 1] [])else(bif decide (bp (cd a0 4)<bp a1)then(k1 [bt 2] [])else(k1 [bt 0] [])))))else none
def Rd:=lid "" (@aE R N)
theorem rO {R N a0 a1 b0 m0 k}:@Rd R N a0 a1 b0 m0 k=aE N a0 a1 b0 m0 k:=by unfold Rd;rw[Ag]
def q4L:OvG R:=CP q4K q4N (fun ds ms=>Rd N (dk ds 0) (dk ds 1) (dk ds 2) (dm ms 0)) fun ds ms K d1 m1=>K (V.d (cg ca) (dk d1 0)) []
theorem q4M:okX 160 (@q4L R N):=CT (AP (q4I N) <| Ah) N [(160,[(0,[(4,5)])])] [(160,[([9],⟨[],[(6,.d (.int .i64))],[],[],[.g (.l 1),.g (.l 2)],[]⟩)])] (fun _ _ _=>rO)
def q4C:List Sh:=[.as (.ptr (.g (.l 1)) [] Bb),.d (.int .u64),.d (.slice 64 Bz)]
def q4F:List (Key × OSh):=[(.l 1,.box (.agg Bb [.as (.mp (.g (.l 2)))])),(.l 2,.map (.arr 32 (.int .u8)) AB)]
def VB (m0:Es) (k2:KD R):KD R->KD R:=fun k3 d1 m1=>(bif decide (bp (dk d1 4)<bp (dk d1 2))then(if 0<=bp (dk d1 4)/\bp (dk d1 4)<(↑(bn (bq (dk d1 1))):Int)then(if Ab AB (dE AB m0)=true then(Rd N (dt (bq (dk d1 1)) (bo (bp (dk d1 4))) gj) (dk d1 0) gj (unE (dE AB m0)) (fun d2 m2=>(bif dj (bn (bq (dk d1 3))) (bn (bq (dk d1 3)))then(if(bn (bq (dk d1 3))+1)*8<=140737488355328/\bn (bq (dk d1 3))+1<=9223372036854775807 then(bif dj (bn (bq (dk d1 3))+1) (bn (bq (dk d1 3)++[dk d2 0]))then(k3 [dk d1 0,dk d1 1,dk d1 2,cz (bq (dk d1 3)++[dk d2 0]),bt (bw ca (bp (dk d1 4)+1))] [])else none)else none)else none)))else none)else none)else(bif dj (bn (bq (dk d1 3))) (bn (bq (dk d1 3)))then(k2 [cz (bq (dk d1 3))] [])else none))
def aB (a0 a1 b0:C) (m0:Es) (k1:KD R):Option R:=jn (fun d1 m1=>(bif dj (bn (bq (dk d1 0))) (bn (bq (dk d1 0)))then(k1 [cz (bq (dk d1 0))] [])else none)) (fun k2=>(BU N (VB N m0 k2) [a0,a1,bt (↑(bn (bq a1)):Int),cz [],bt 0] []))
def Rb:=lid "" (@aB R N)
theorem rM {R N a0 a1 b0 m0 k}:@Rb R N a0 a1 b0 m0 k=aB N a0 a1 b0 m0 k:=by unfold Rb;rw[Ag]
def q4D:OvG R:=CP q4C q4F (fun ds ms=>Rb N (dk ds 0) (dk ds 1) (dk ds 2) (dm ms 0)) fun ds ms K d1 m1=>K (V.ts 8 (cg ca) (bq (dk d1 0))) []
theorem q4E:okX 146 (@q4D R N):=CT (AP (q4M N) <| Ah) N [] [(146,[([1,0,1,1],⟨[0],[(7,.sl 8 (.int .i64) 5007)],[],[],[.g (.l 1),.g (.l 2)],[]⟩),
  ([4,1,0,1,1],⟨[0,1,10,11],[(7,.sl 8 (.int .i64) 5007),(12,.d (.int .i64))],[],[],[.g (.l 1),.g (.l 2)],[]⟩),
  ([9],⟨[],[(6,.sl 8 (.int .i64) 5006)],[],[],[.g (.l 1),.g (.l 2)],[]⟩)])] (fun _ _ _=>rM) fun ds ms K=>(show _=jn (fun d1 m1=>(bif dj (bn (bq (dk d1 0))) (bn (bq (dk d1 0)))then
  (K (V.ts 8 (cg ca) (bq (dk d1 0))) [])
 else
  none)) _ by kernel_rfl).trans (congrArg (fun k=>jn k _) (funext fun _=>funext fun _=>by simp only[ct,cond_true]))
def z7:List Sh:=[.d AO,.as (.ptr (.g (.l 1)) [] Bb),.d (.int .u64)]
def y7:List (Key × OSh):=[(.l 1,.box (.agg Bb [.as (.mp (.g (.l 2)))])),(.l 2,.map (.arr 32 (.int .u8)) AB)]
def TE {R:Type} (N:Nat) (k1:KD R) (k2:KD R):KD R->KD R:=fun k3 d2 m2=>(bif decide (bp (dk d2 3)<bp (dk d2 1))then(if 0<=bp (dk d2 3)/\bp (dk d2 3)<(↑(bn (bq (dk d2 0))):Int)then(bif decide (bp (dt (bq (dk d2 0)) (bo (bp (dk d2 3))) gj)=0)then(k1 [bt 30,Cb,AL (dc 2 (cg bu))] [])else(bif dj (bn (bq (dk d2 2))) (bn (bq (dk d2 2)))then(if(bn (bq (dk d2 2))+1)*1<=140737488355328/\bn (bq (dk d2 2))+1<=9223372036854775807 then(bif dj (bn (bq (dk d2 2))+1) (bn (bq (dk d2 2)++[dv (decide (bp (dt (bq (dk d2 0)) (bo (bp (dk d2 3))) gj)=1))]))then(k3 [dk d2 0,dk d2 1,cz (bq (dk d2 2)++[dv (decide (bp (dt (bq (dk d2 0)) (bo (bp (dk d2 3))) gj)=1))]),bt (bw ca (bp (dk d2 3)+1)),dk d2 4,dk d2 5,dk d2 6] [])else none)else none)else none))else none)else(bif dj (bn (bq (dk d2 2))) (bn (bq (dk d2 2)))then(k2 [cz (bq (dk d2 2)),dk d2 4,dk d2 5,dk d2 6] [])else none))
def Wo (a0 a1 b0:C) (m0:Es) (k1:KD R):Option R:=bif decide (bp (cd a0 6)=0)then(k1 [bt 3,Cb,AL (dc 2 (cg bu))] [])else(bif decide (bp (cd a0 6)=2)then(k1 [bt 31,Cb,AL (dc 2 (cg bu))] [])else(bif decide (bp a1<bp (cd a0 7))then(k1 [bt 30,Cb,AL (dc 2 (cg bu))] [])else(if Ab AB (dE AB m0)=true then(Rb N a1 (cd (cd a0 8) 4) gj (unE (dE AB m0)) (fun d1 m1=>(jn (fun d2 m2=>(Rs N (cd (dk d2 1) 8) (cd (dk d2 1) 4) (cd (dk d2 1) 5) (cz (bq (dk d2 0))) (fun d3 m3=>(bif !decide (bp (dk d3 0)=0)then(k1 [dk d3 0,Cb,AL (dc 2 (cg bu))] [])else(JX N (dk d2 1) (fun d4 m4=>(k1 [bt 0,dp (dk d4 0) 6 (bt 2),dk d3 1] []))))))) (fun k2=>(BU N (TE N k1 k2) [cz (bq (dk d1 0)),bt (↑(bn (bq (dk d1 0))):Int),cz [],bt 0,a0,Cb,AL (dc 2 (cg bu))] [])))))else none)))
def NF:=lid "" (@Wo R N)
theorem gG {R N a0 a1 b0 m0 k}:@NF R N a0 a1 b0 m0 k=Wo N a0 a1 b0 m0 k:=by unfold NF;rw[Ag]
def z8:OvG R:=CP z7 y7 (fun ds ms=>NF N (dk ds 0) (dk ds 1) (dk ds 2) (dm ms 0)) fun ds ms K d1 m1=>K (qs [V.d AO (dk d1 1),V.d (dc 2 (cg bu)) (dk d1 2),V.d (cg ca) (dk d1 0)]) []
theorem z9:okX 128 (@z8 R N):=CT (AP (TF N) <| AP (q4E N) <| AP (q5F N) <| Ah) N [(128,[(20,[(12,6),(3,6)])])] [(128,[([1,0,1,1,1],⟨[1,3,6,7],[(9,.sl 1 .bool 5009)],[],[],[.g (.l 1),.g (.l 2)],[]⟩),
  ([4,1,0,1,1,1],⟨[1,3,6,7,38,39],[(9,.sl 1 .bool 5009),(40,.d (.int .i64))],[],[],[.g (.l 1),.g (.l 2)],[]⟩),
  ([9],⟨[],[(6,.as (.ptr (.l 6) [] AO)),(7,.as (.ptr (.l 7) [] (.arr 2 (.int .u64)))),(8,.d (.int .i64))],[],[(.l 6,.box (.d AO)),(.l 7,.box (.d (.arr 2 (.int .u64))))],[.g (.l 1),.g (.l 2)],[]⟩)])] (fun _ _ _=>gG)
def Wq (a0 a1 a2:C) (k1:KD R):Option R:=jn (fun d1 m1=>(bif ek (dk d1 2)then(k1 [bt 1,Cb] [])else(bif decide (bp (cd (dk d1 3) 6)=2)then(k1 [bt 31,Cb] [])else(JX N (dk d1 3) (fun d2 m2=>(if 0<=bp (dk d1 0)/\bp (dk d1 0)<2 then(JH N (cd (cd (dk d2 0) 4) (bo (bp (dk d1 0)))) (dk d1 1) (fun d3 m3=>(if 0<=bp (dk d1 0)/\bp (dk d1 0)<2 then(bif !decide (bp (dk d3 1)=0)then(k1 [dk d3 1,Cb] [])else(JH N (bt 0) (cd (cd (dp (dk d2 0) 4 (dp (cd (dk d2 0) 4) (bo (bp (dk d1 0))) (dk d3 0))) 4) 0) (fun d4 m4=>(bif !decide (bp (dk d4 1)=0)then(bif !decide (bp (dk d4 1)=0)then(k1 [dk d4 1,Cb] [])else(k1 [bt 0,dp (dk d2 0) 4 (dp (cd (dk d2 0) 4) (bo (bp (dk d1 0))) (dk d3 0))] []))else(JH N (dk d4 0) (cd (cd (dp (dk d2 0) 4 (dp (cd (dk d2 0) 4) (bo (bp (dk d1 0))) (dk d3 0))) 4) 1) (fun d5 m5=>(bif !decide (bp (dk d5 1)=0)then(bif !decide (bp (dk d5 1)=0)then(k1 [dk d5 1,Cb] [])else(k1 [bt 0,dp (dk d2 0) 4 (dp (cd (dk d2 0) 4) (bo (bp (dk d1 0))) (dk d3 0))] []))else(k1 [bt 0,dp (dk d2 0) 4 (dp (cd (dk d2 0) 4) (bo (bp (dk d1 0))) (dk d3 0))] []))))))))else none)))else none)))))) (fun k2=>(bif !decide (bp a1=0)then(bif !decide (bp a1=1)then(k2 [a1,a2,dv true,a0,Cb] [])else(k2 [a1,a2,dv (decide (bp a2=0)),a0,Cb] []))else(k2 [a1,a2,dv (decide (bp a2=0)),a0,Cb] [])))
def KR:=lid "" (@Wq R N)
theorem gJ {R N a0 a1 a2 k}:@KR R N a0 a1 a2 k=Wq N a0 a1 a2 k:=by unfold KR;rw[Ag]
def x8:OvG R:=BS [AO,.int .i64,.int .u64] (Ip (KR N)) fun a K d1 m1=>K (qs [V.d AO (dk d1 1),V.d (cg ca) (dk d1 0)]) []
theorem gI:okX 101 (@x8 R N):=BW (AP (Uu N) <| AP (TF N) <| Ah) N [] [(101,[([0,4,0,1],(Bm [1,2,3,6] [(9,.d .bool)])),
  ([9],⟨[],[(6,.as (.ptr (.l 6) [] AO)),(7,.d (.int .i64))],[],[(.l 6,.box (.d AO))],[],[]⟩)])] (fun _ _=>gJ)
section
variable {R:Type} {N:Nat}
def ofP (m:Es) (c:C) (wc:Int):Int:=
 if FI m (c.get 3)=true/\((getM m (c.get 3)).get 1).toInt<=(c.get 4).toInt then 1 else if(c.get 4).toInt<wc then 2 else 0
theorem q8u (h:C) (a1 b0:C) (m:Es) (k:KD R):Rg N h a1 b0 m k=k [if FI m h=true then(getM m h).get 1 else .int 0,.bool (FI m h)] []:=by rw[rP];unfold aG;simp only[go_sem];cases FI m h <;> rfl
theorem q2j (h x:C) (a1 b0:C) (m:Es) (k:KD R):Rc N h x a1 b0 m k=k [.bool (FI m h&&decide (((getM m h).get 1).toInt<=x.toInt))] []:=by rw[rN];unfold aC;simp only[go_sem,q8u,AW];cases FI m h <;> simp
theorem of_eq (c wc:C) (b0:C) (m:Es) (k:KD R):Rd N c wc b0 m k=k [.int (ofP m c wc.toInt)] []:=by rw[rO];unfold aE ofP;simp only[go_sem,q2j,AW];cases h:FI m (c.get 3);{by_cases h2:(c.get 4).toInt<wc.toInt <;> simp[h2]};{by_cases h1:((getM m (c.get 3)).get 1).toInt<=(c.get 4).toInt;{simp[h1]};{by_cases h2:(c.get 4).toInt<wc.toInt <;> simp[h1,h2]}}
theorem all_eq (wc:C) (l:C) (b0:C) (m:Es) (hl:l.elems.length<1099511627776) (hN:2199023255552<N) (k:KD R):Rb N wc l b0 m k=k [.slice (l.elems.map fun c=>.int (ofP m c wc.toInt))] []:=by
 rw[rM];unfold aB;rw[AZ];refine Jt (F:=VB N m _) (fun i=>[wc,l,.int l.elems.length,.slice ((l.elems.take i).map fun c=>.int (ofP m c wc.toInt)),.int i]) (fun _=>[]) l.elems.length _ ?_ ?_ (by omega)
 ·intro i hi rec;have hc:l.elems[i]? =some l.elems[i]:=cq hi;have h1:(i:Int)<(l.elems.length:Int):=by omega
  have hlen:(l.elems.take i).length=i:=by rw[List.length_take];omega
  have h3:(i+1)*8<=140737488355328/\i+1<=9223372036854775807:=by omega
  have h4:dy (i+1) l.elems=dy i l.elems++[l.elems[i]]:=by rw[qn,hc];rfl
  unfold VB;simp only[go_sem,AF,Ac,h1,Gi hc,Ck (show i<4611686018427387904 by omega),dd,and_self,AG,h3,ct,of_eq,lf,da,dq,dw,hlen,h4,mr,List.map_cons,List.map_nil]
 ·intro rec;unfold VB;simp only[go_sem,AF,Ac,fq,AG,ct,ei]
section
variable {id who rts:C} {wj:List C} {put wg ph un wb:C}
def Kk (m:Es) (wc:Int) (l:List C):Bool:=l.any fun c=>decide (ofP m c wc=0)
def Jg (m:Es) (wc:Int) (l:List C):List C:=l.map fun c=>.bool (decide (ofP m c wc=1))
def QB (m:Es) (wc:Int) (_:Nat) (acc:List C) (c:C):List C ⊕ Unit:=if ofP m c wc=0 then .inr ()else .inl (acc++[.bool (decide (ofP m c wc=1))])
theorem jW (m:Es) (wc:Int):∀(l:List C) (i:Nat) (acc:List C),CI (QB m wc) i acc l=if Kk m wc l=true then .inr ()else .inl (acc++Jg m wc l)
 | [],_,acc=>by simp[CI,Kk,Jg]
 |c::l,i,acc=>by
  simp only[CI,QB];by_cases h:ofP m c wc=0;{simp[h,Kk]}
  ·have ih:=jW m wc l (i+1) (acc++[.bool (decide (ofP m c wc=1))]);simp only[h,if_false,ih];have e:Kk m wc (c::l)=Kk m wc l:=by simp[Kk,h]
   rw[e];simp[Jg]
def HX (m:Es) (id who rts:C) (wj:List C) (put wg ph un wb:C) (wc:Int):Int × C × C:=
 if ph.toInt=0 then(3,zB,zz)else if ph.toInt=2 then(31,zB,zz)else if wc<un.toInt then(30,zB,zz)else
  if Kk m wc (BK wb)=true then(30,zB,zz)else
   if(Gy wb put wg (Jg m wc (BK wb))).1≠0 then((Gy wb put wg (Jg m wc (BK wb))).1,zB,zz)else
    (0,mkB id who rts wj put wg (.int 2) un wb,(Gy wb put wg (Jg m wc (BK wb))).2)
theorem q1x (h:SOk wb) (hl:(BK wb).length<1099511627776) (m:Es) (wc b0:C) (hN:2199023255552<N) (k:KD R):
  NF N (mkB id who rts wj put wg ph un wb) wc b0 m k=
   k [.int (HX m id who rts wj put wg ph un wb wc.toInt).1,(HX m id who rts wj put wg ph un wb wc.toInt).2.1,(HX m id who rts wj put wg ph un wb wc.toInt).2.2] []:=by
 have hz:AL (dc 2 (cg bu))=zz:=rfl;have h6:(mkB id who rts wj put wg ph un wb).get 6=ph:=rfl;have h7:(mkB id who rts wj put wg ph un wb).get 7=un:=rfl;have h8:(mkB id who rts wj put wg ph un wb).get 8=wb:=rfl;have h4:(mkB id who rts wj put wg ph un wb).get 4=put:=rfl;have h5:(mkB id who rts wj put wg ph un wb).get 5=wg:=rfl;rw[gG];unfold Wo HX;rw[LN,hz];simp only[h6,h7,h8];by_cases a1:ph.toInt=0;{simp[a1]};by_cases a2:ph.toInt=2;{simp[a1,a2]};by_cases a3:wc.toInt<un.toInt;{simp[a1,a2,a3]};have hbl:(wb.get 4).elems.length=(BK wb).length:=rfl;simp only[a1,a2,a3,AG,Ia,Ao,Aq,all_eq wc (wb.get 4) gj m hl hN,AZ,AI,Ac,lf,hbl]
 refine(Zc (N:=N) (F:=TE N k _) (fun i (acc:List C)=>[.slice ((BK wb).map fun c=>.int (ofP m c wc.toInt)),.int (BK wb).length,.slice acc,.int i,mkB id who rts wj put wg ph un wb,zB,zz]) (fun _ _=>[])
  (BK wb) (QB m wc.toInt) (fun acc=>if(Gy wb put wg acc).1≠0 then k [.int (Gy wb put wg acc).1,zB,zz] []else k [.int 0,mkB id who rts wj put wg (.int 2) un wb,(Gy wb put wg acc).2] [])
  (fun _=>k [.int 30,zB,zz] []) (fun i acc=>acc.length=i) (s0:=[]) rfl ?_ ?_ (by omega)).trans ?_
 ·intro i acc c hx hP;have hi:i<(BK wb).length:=(List.getElem?_eq_some_iff.1 hx).1;refine⟨fun rec=>?_,fun acc' h'=>?_⟩
  ·have h1:(i:Int)<((BK wb).length:Int):=by omega
   have hg:(List.map (fun c=>bt (ofP m c wc.toInt)) (BK wb)).getD i .nil= .int (ofP m c wc.toInt):=by rw[du,List.getElem?_map,hx];rfl
   have h3:(acc.length+1)*1<=140737488355328/\acc.length+1<=9223372036854775807:=by omega
   unfold TE QB;rw[LN,hz];simp only[AI,AQ,AR,AV,Aa,Aj,Ak,AF,Ac,h1,hg,lf,da,dq,dw,cf,bx,Ck (show i<4611686018427387904 by omega),dd,and_self,AG,h3,ct];by_cases h:ofP m c wc.toInt=0 <;> simp[h]
  ·unfold QB at h';split at h';{cases h'};{cases h';simp[hP]}
 ·intro acc hP rec;unfold TE;rw[LN,hz];simp only[AI,AQ,AR,AV,Aa,Aj,Ak,AF,Ac,fq,AG,ct,h8,h4,h5,q7e wb put wg (.slice acc) rfl hN,TH h];by_cases h:(Gy wb put wg acc).1=0;{simp[h,mkB];rfl};{simp[h,mkB]}
 ·rw[jW];by_cases h:Kk m wc.toInt (BK wb)=true;{simp[h,FW]};{simp only[h,if_false,List.nil_append,FW];by_cases h9:(Gy wb put wg (Jg m wc.toInt (BK wb))).1=0 <;> simp[h9]}
def JI (id who rts:C) (wj:List C) (put wg ph un wb:C) (side wo:Int):Int × C:=
 if(side≠0/\side≠1)\/wo=0 then(1,zB)else if ph.toInt=2 then(31,zB)else
  if(Bq (put.get side.toNat).toInt wo).2≠0 then((Bq (put.get side.toNat).toInt wo).2,zB)else
   if(EU [(put.set side.toNat (.int (Bq (put.get side.toNat).toInt wo).1)).get 0,(put.set side.toNat (.int (Bq (put.get side.toNat).toInt wo).1)).get 1]).2≠0 then((EU [(put.set side.toNat (.int (Bq (put.get side.toNat).toInt wo).1)).get 0,(put.set side.toNat (.int (Bq (put.get side.toNat).toInt wo).1)).get 1]).2,zB)else
    (0,mkB id who rts wj (put.set side.toNat (.int (Bq (put.get side.toNat).toInt wo).1)) wg ph un wb)
theorem rC (h:SOk wb) (side wo:C) (k:KD R):
  KR N (mkB id who rts wj put wg ph un wb) side wo k=k [.int (JI id who rts wj put wg ph un wb side.toInt wo.toInt).1,(JI id who rts wj put wg ph un wb side.toInt wo.toInt).2] []:=by
 have h6:(mkB id who rts wj put wg ph un wb).get 6=ph:=rfl;rw[gJ];unfold Wq JI;rw[LN]
 have e:∀K:KD R,jn K (fun K=>(bif !decide (side.toInt=0)then(bif !decide (side.toInt=1)then K [side,wo,.bool true,mkB id who rts wj put wg ph un wb,zB] []else K [side,wo,.bool (decide (wo.toInt=0)),mkB id who rts wj put wg ph un wb,zB] [])else K [side,wo,.bool (decide (wo.toInt=0)),mkB id who rts wj put wg ph un wb,zB] []))=
   K [side,wo,.bool (decide ((side.toInt≠0/\side.toInt≠1)\/wo.toInt=0)),mkB id who rts wj put wg ph un wb,zB] []:=fun K=>by
  rw[AZ];by_cases h0:side.toInt=0;{simp[h0]};{by_cases h1:side.toInt=1 <;> simp[h0,h1]}
 rw[e];by_cases a1:(side.toInt≠0/\side.toInt≠1)\/wo.toInt=0;{simp only[AI,AQ,AR,AV,AW,a1,AG]};have hs:0<=side.toInt/\side.toInt<2:=by omega
 by_cases a2:ph.toInt=2;{simp only[AI,AQ,AR,AV,AW,a1,a2,h6,AG]};simp only[AI,AQ,AR,AV,AW,AF,a1,a2,h6,AG,TH h,hs,and_self,add_eq];unfold mkB;simp only[Ya,cT,Int.toNat_zero];by_cases b1:(Bq (put.get side.toInt.toNat).toInt wo.toInt).2=0
 case neg=>simp only[b1,AG,ne_eq,not_false_iff]
 have e2:∀x y:C,(EU [x,y]).2=if(Bq 0 x.toInt).2=0 then(Bq (Bq 0 x.toInt).1 y.toInt).2 else(Bq 0 x.toInt).2:=fun x y=>by by_cases g1:(Bq 0 x.toInt).2=0;{by_cases g2:(Bq (Bq 0 x.toInt).1 y.toInt).2=0 <;> simp[EU,CI,LU,Mh,g1,g2]};{simp[EU,CI,LU,Mh,g1]}
 simp only[b1,e2,AG,ne_eq,not_true];by_cases b2:(Bq 0 ((put.set side.toInt.toNat (bt (Bq (put.get side.toInt.toNat).toInt wo.toInt).1)).get 0).toInt).2=0;{simp only[b2,AG];by_cases b3:(Bq (Bq 0 ((put.set side.toInt.toNat (bt (Bq (put.get side.toInt.toNat).toInt wo.toInt).1)).get 0).toInt).1 ((put.set side.toInt.toNat (bt (Bq (put.get side.toInt.toNat).toInt wo.toInt).1)).get 1).toInt).2=0;{simp only[b3,AG,not_true]};{simp only[b3,AG,not_false_iff]}};{simp only[b2,AG,not_false_iff]}
end
end
section
variable {R:Type} {N:Nat}
theorem xJ {l:List C} {i:Nat} (hi:i<l.length):l.take (i+1)=l.take i++[l.getD i .nil]:=by rw[qn,cq hi,du,cq hi];rfl
def WW (c:C):Prop:=c= .agg [c.get 0,c.get 1,c.get 2,c.get 3,c.get 4]
theorem q27 (c:C) (h:WW c) (k:KD R):Qs N c k=k [c] []:=by rw[oI];unfold Yz;simp only[Ow,Vt,Vu,wM,cT];rw[<-h]
structure StE (s:C):Prop where
 eta:SOk s
 cs:∀c∈BK s,WW c
 ln:(BK s).length<=12
theorem q3d (s:C) (h:StE s) (hN:2000<N) (k:KD R):Qu N s k=k [s] []:=by
 have he:=h.eta;have hc:=h.cs;have hl:=h.ln;unfold SOk at he;rw[oL];unfold ZB;rw[AZ];unfold BK at he hc hl;generalize hcs:bq (cd s 4)=cs at*;generalize (eg [AL (cg di),AL (cg bu),AL (dc 2 (cg bu)),AL (dc 2 (cg bu)),cz []])=Z;have key:=Jt (F:=UZ N fun d1 m1=>k [eg [dk d1 0,dk d1 1,dk d1 2,dk d1 3,cz (bq (dk d1 4))]] []) (fun i=>[s.get 4,.int cs.length,.int i,s.get 0,s.get 1,s.get 2,s.get 3,.slice (cs.take i),Z]) (fun _=>[]) cs.length (k [s] []) ?_ ?_ (N:=N) (by omega);{simpa using key}
 ·intro i hi rec;have h1:(i:Int)<(cs.length:Int):=by omega
  have h2:=hc _ (Hd hi);have h3:(cs.take i).length<=12:=by simp;omega
  have g1:((cs.take i).length+1)*64<=140737488355328/\(cs.take i).length+1<=9223372036854775807:=by omega
  unfold UZ;simp only[AI,AQ,AR,AV,Aa,Aj,Ak,Au,Av,AF,Ac,hcs,h1,g1,AG,dd,and_self,ct,bx,q27 _ h2,da,dq,dw,cf,Ck (show i<4611686018427387904 by omega),xJ hi]
 ·intro rec;unfold UZ;simp only[AI,AQ,AR,AV,Aa,Aj,Ak,Au,Av,AF,Ac,fq,AG,ei];rw[<-he]
theorem q20 (a:C) (hN:100<N):∃y:C,∀k:KD R,Qq N a k=k [y] []:=by
 obtain⟨d,⟨x,y,rfl⟩,h⟩:=Gp (R:=R) (F:=fun k2=>UW N k2) 32 (fun i st=>∃x y:C,st=[a,.int i,x,y]) (fun d=>∃x y:C,d=[x,y])
  (fun i st hi hst=>by
   obtain⟨x,y,rfl⟩:=hst;have e1:(i:Int)<32:=by omega
   refine⟨_,⟨x,?y1,rfl⟩,fun k rec=>?eq1⟩
   case eq1=>
    unfold UW;simp only[AI,AQ,AR,AV,AF,e1,AG,dd,and_self,Ck (show i<4611686018427387904 by omega)];rfl)
  (fun st hst=>by
   obtain⟨x,y,rfl⟩:=hst;refine⟨_,⟨x,y,rfl⟩,fun k rec=>?_⟩;unfold UW;have e:¬((32:Nat):Int)<32:=by decide
   simp only[AI,AQ,AR,AV,AF,e,AG])
  (N:=N) (by omega) (st:=[a,.int (0:Nat),eg
  [eg (db 32 (eg (db 16 (bt 0)))),
   eg (db 32 (eg (db 16 (bt 0))))],eg
  [eg (db 32 (eg (db 16 (bt 0)))),
   eg (db 32 (eg (db 16 (bt 0))))]]) ⟨_,_,rfl⟩
 refine⟨y,fun k=>?_⟩;rw[oC];unfold Yw;simp only[AZ];exact(h _).trans rfl
def Sr (n:Nat) (x:C):Prop:=∃(a b:C) (p:List C),x= .agg [a,b,.slice p]/\p.length<=n
theorem oE {n:Nat} (a:C) (ha:Sr n a) (hn:n<=4398046511104) (hN:n+100<N):∃(s e:C) (q:List C),∀k:KD R,Ny N a k=k [.agg [s,e,.slice q]] []:=by
 obtain⟨s,e,p,rfl,hp⟩:=ha;obtain⟨s',hs⟩:=q20 (R:=R) (N:=N) s (show 100<N by omega)
 generalize hZ:(eg
  [eg
    [eg (db 32 (eg (db 16 (bt 0)))),
     eg (db 32 (eg (db 16 (bt 0))))],
   AL (cg di),cz []])=Z
 obtain⟨d,⟨q,rfl⟩,h⟩:=Gp (R:=R) (F:=fun k2=>UX N k2) p.length (fun i st=>∃q:List C,q.length=i/\st=[.slice p,.int p.length,.int i,s',e,.slice q,Z]) (fun d=>∃q:List C,d=[s',e,.slice q,Z])
  (fun i st hi hst=>by
   obtain⟨q,hq,rfl⟩:=hst;have e1:(i:Int)<(p.length:Int):=by omega
   have g1:(i+1)*32<=140737488355328/\i+1<=9223372036854775807:=by omega
   refine⟨_,⟨q++[p.getD i .nil],by simp[hq],rfl⟩,fun k rec=>?_⟩;unfold UX;simp only[AI,AQ,AR,AV,Aa,Aj,Ak,AF,Ac,e1,hq,g1,AG,dd,and_self,ct,bx,da,dq,dw,cf,Ck (show i<4611686018427387904 by omega)])
  (fun st hst=>by
   obtain⟨q,hq,rfl⟩:=hst;refine⟨_,⟨q,rfl⟩,fun k rec=>?_⟩;unfold UX;simp only[AI,AQ,AR,AV,Aa,Aj,Ak,AF,Ac,fq,AG])
  (N:=N) (by omega) (st:=[.slice p,.int p.length,.int (0:Nat),s',e,.slice [],Z]) ⟨[],rfl,rfl⟩
 refine⟨s',e,q,fun k=>?_⟩;rw[oD];unfold Yx;simp only[AZ,JC,Kg,Qc,hs,AI,Ac,hZ];exact(h _).trans rfl
theorem q3j {n:Nat} (s x y:C) (h:StE s) (hx:Sr n x) (hy:Sr n y) (hn:n<=4398046511104) (hN:n+2000<N):∃(x0 x1 y0 y1:C) (p q:List C),∀k:KD R,Nz N (.agg [s,.agg [x,y]]) k=k [.agg [s,.agg [.agg [x0,x1,.slice p],.agg [y0,y1,.slice q]]]] []:=by obtain⟨x0,x1,p,h1⟩:=oE (R:=R) (N:=N) x hx hn (by omega);obtain⟨y0,y1,q,h2⟩:=oE (R:=R) (N:=N) y hy hn (by omega);refine⟨x0,x1,y0,y1,p,q,fun k=>?_⟩;have t0:bo 0=0:=rfl;have t1:bo 1=1:=rfl;rw[oP];unfold ZC;simp only[JC,Kg,q3d s h (show 2000<N by omega),AI,t0,t1,h1,h2];rfl
def stZ (id:Int):C:=.agg [.int id,.int 0,zz,zz,.slice []]
theorem q7h (id:Int):SOk (stZ id):=rfl
theorem tP (a:Int) (k:KD R):OT N (.int a) k=k [stZ a] []:=by rw[tS];rfl
def cP (s:C) (id:Int):Bool:=decide ((s.get 0).toInt=id/\(s.get 1).toInt=0/\C.beq (s.get 2) zz=true/\C.beq (s.get 3) zz=true/\(s.get 4).elems.length=0)
theorem zX (s:C) (id:Int) (hN:10<N) (k:KD R):Rp N s (stZ id) k=k [.bool (cP s id)] []:=by
 have he:∀k:KD R,SW N (s.get 4) (.slice []) k=k [.bool (decide ((s.get 4).elems.length=0))] []:=fun k=>by
  obtain⟨M,rfl⟩:∃M,N=M+1:=⟨N-1,by omega⟩;rw[wU];unfold cY;by_cases z:(s.get 4).elems.length=0
  ·have z':((s.get 4).elems.length:Int)=(([]:List C).length:Int):=by simp[z]
   simp only[Ac,z,z',AZ,Eb,AG];unfold wT;simp[AF,AR,AV]
  ·have z':¬((s.get 4).elems.length:Int)=(([]:List C).length:Int):=by simpa using z
   simp only[Ac,z,z',AG]
 have g0:(stZ id).get 0= .int id:=rfl;have g1:(stZ id).get 1= .int 0:=rfl;have g2:(stZ id).get 2=zz:=rfl;have g3:(stZ id).get 3=zz:=rfl;have g4:(stZ id).get 4= .slice []:=rfl;rw[tU];unfold bG cP;simp only[AZ,g0,g1,g2,g3,g4,he,AF,AI,AW];by_cases a0:(s.get 0).toInt=id
 case neg=>simp[a0,AW,AI]
 by_cases a1:(s.get 1).toInt=0
 case neg=>simp[a1,AW,AI]
 cases a2:C.beq (s.get 2) zz;{simp[a0,a1,AW,AI]};cases a3:C.beq (s.get 3) zz;{simp[a0,a1,AW,AI]};simp[a0,a1,AW,AI]
end
section
variable {R:Type}
theorem q2A {K:KD R} {B:KD R->Option R} (ds:List C) (ms:List Es) (h:∀k,B k=k ds ms):jn K B=K ds ms:=by rw[AZ];exact h K
end
def Wn (a0 a1 a2:C) (k1:KD R):Option R:=jn (fun d1 m1=>(bif ek (dk d1 2)then(k1 [bt 0,bt 1,Cb] [])else(Lb N (dk d1 3) (dk d1 1) (fun d2 m2=>(bif !decide (bp (dk d2 0)=0)then(k1 [bt 0,dk d2 0,Cb] [])else(LZ N (dk d1 3) (dk d1 1) (fun d3 m3=>(if 0<=bp (dk d1 0)/\bp (dk d1 0)<2 then(if 0<=bp (dk d1 0)/\bp (dk d1 0)<2 then(bif decide (bw bu (bp (cd (cd (cd (dk d3 0) 8) 3) (bo (bp (dk d1 0))))-bp (cd (cd (dk d3 0) 5) (bo (bp (dk d1 0)))))=0)then(k1 [bt 0,bt 6,Cb] [])else(if 0<=bp (dk d1 0)/\bp (dk d1 0)<2 then(if 0<=bp (dk d1 0)/\bp (dk d1 0)<2 then(k1 [bt (bw bu (bp (cd (cd (cd (dk d3 0) 8) 3) (bo (bp (dk d1 0))))-bp (cd (cd (dk d3 0) 5) (bo (bp (dk d1 0)))))),bt 0,dp (dk d3 0) 5 (dp (cd (dk d3 0) 5) (bo (bp (dk d1 0))) (bt (bw bu (bp (cd (cd (dk d3 0) 5) (bo (bp (dk d1 0))))+bw bu (bp (cd (cd (cd (dk d3 0) 8) 3) (bo (bp (dk d1 0))))-bp (cd (cd (dk d3 0) 5) (bo (bp (dk d1 0)))))))))] [])else none)else none))else none)else none)))))))) (fun k2=>(bif !decide (bp a1=0)then(k2 [a1,a2,dv !decide (bp a1=1),a0,Cb] [])else(k2 [a1,a2,dv false,a0,Cb] [])))
def ND:=lid "" (@Wn R N)
theorem gF {R N a0 a1 a2 k}:@ND R N a0 a1 a2 k=Wn N a0 a1 a2 k:=by unfold ND;rw[Ag]
def q8:OvG R:=BS [AO,.int .i64,Ch] (Ip (ND N)) fun a K d1 m1=>K (qs [V.d AO (dk d1 2),V.d (cg bu) (dk d1 0),V.d (cg ca) (dk d1 1)]) []
theorem z6:okX 104 (@q8 R N):=BW (AP (Ww N) <| AP (Wu N) <| Ah) N [(104,[(0,[(5,5)])])] [(104,[([0,0,1],(Bm [1,3,5,6] [(16,.d .bool)])),
  ([9],⟨[],[(6,.as (.ptr (.l 6) [] AO)),(7,.d (.int .u64)),(8,.d (.int .i64))],[],[(.l 6,.box (.d AO))],[],[]⟩)])] (fun _ _=>gF)
def Wr (a0 a1 a2:C) (k1:KD R):Option R:=bif decide (bp (cd a0 6)=0)then(k1 [bt 3,Cb] [])else(Lb N a0 a1 (fun d1 m1=>(bif !decide (bp (dk d1 0)=0)then(k1 [dk d1 0,Cb] [])else(bif decide (bp (cd a0 7)<=bp a2)then(k1 [bt 29,Cb] [])else(bif decide (bp (cd (cd a1 0) 1)<=bp (cd (cd a0 8) 1))then(k1 [bt 25,Cb] [])else(LZ N a0 a1 (fun d2 m2=>(k1 [bt 0,dk d2 0] []))))))))
def NH:=lid "" (@Wr R N)
theorem gK {R N a0 a1 a2 k}:@NH R N a0 a1 a2 k=Wr N a0 a1 a2 k:=by unfold NH;rw[Ag]
def x9:OvG R:=BS [AO,Ch,.int .u64] (Ip (NH N)) fun a K d1 m1=>K (qs [V.d AO (dk d1 1),V.d (cg ca) (dk d1 0)]) []
theorem w4:okX 106 (@x9 R N):=BW (AP (Ww N) <| AP (Wu N) <| Ah) N [(106,[(0,[(3,5),(4,5)])])] [(106,[([9],⟨[],[(6,.as (.ptr (.l 6) [] AO)),(7,.d (.int .i64))],[],[(.l 6,.box (.d AO))],[],[]⟩)])] (fun _ _=>gK)
end Go.Proofs.YtpemdagggddcfaaGreatDoor
