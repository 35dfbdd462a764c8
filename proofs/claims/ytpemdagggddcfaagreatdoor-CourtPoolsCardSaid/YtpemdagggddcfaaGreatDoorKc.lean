/-
 What the functions on the way compute, part 3.
 Conditions: none.
-/
import Derived.Test.YtpemdagggddcfaaGreatDoorKb
set_option linter.all false
noncomputable section
set_option maxRecDepth 100000
set_option maxHeartbeats 4000000
open Go.BinOp renaming and->fv
open Go.E.C renaming agg->fh,bool->dw,elems->bq,get->cd,int->br,nil->gm,set->dt,slice->cz,toBool->ez,toInt->bp
open Go.E.Key renaming l->df
open Go.E.Ty renaming arr->dc,int->cg
open Go.E.V renaming tup->rj
open Go.IntKind renaming i64->ca,u32->dj,u64->bw,wrap->bu
open Go.IntWalk renaming i64_in->je
open Int renaming fdiv->ft,lt_irrefl->fw,natCast_nonneg->db,toNat->bo,toNat_natCast->bx,toNat_of_nonneg->gy
open List renaming getD->dr,getD_cons_zero->tf,getD_eq_getElem?_getD->du,getElem?_eq_getElem->cr,length->bn,length_append->da,length_cons->dp,length_map->lf,length_nil->dx,map_append->mr,replicate->dh,reverse_cons->oy,take->ed,take_add_one->qm,take_length->ej,take_of_length_le->mi
open Nat renaming beq->di,beq_refl->cm,zero_add->cf
namespace Go.Proofs.YtpemdagggddcfaaGreatDoor
open Go Go.E
variable {R:Type} (N:Nat)
def pN {R:Type} (N:Nat) (a0 a1:C) (k1:KD R):Option R:=k1 [br (bu bw (bu bw (bu bw (ft (bp a0) (2^min (bo 32) 64)*ft (bp a1) (2^min (bo 32) 64))+ft (bu bw (bu bw (ft (bp a0) (2^min (bo 32) 64)*CU fv bw (bp a1) 4294967295)+ft (bu bw (CU fv bw (bp a0) 4294967295*CU fv bw (bp a1) 4294967295)) (2^min (bo 32) 64))) (2^min (bo 32) 64))+ft (bu bw (CU fv bw (bu bw (bu bw (ft (bp a0) (2^min (bo 32) 64)*CU fv bw (bp a1) 4294967295)+ft (bu bw (CU fv bw (bp a0) 4294967295*CU fv bw (bp a1) 4294967295)) (2^min (bo 32) 64))) 4294967295+bu bw (CU fv bw (bp a0) 4294967295*ft (bp a1) (2^min (bo 32) 64)))) (2^min (bo 32) 64))),br (bu bw (bp a0*bp a1))] []
def Qw:=lid "" (@pN R N)
theorem pO {R N a0 a1 k}:@Qw R N a0 a1 k=pN N a0 a1 k:=by unfold Qw;rw[Ao]
def q2T:OvG R:=BW [.int .u64,.int .u64] (De (Qw N)) fun a K d1 m1=>K (rj [V.d (cg bw) (dk d1 0),V.d (cg bw) (dk d1 1)]) []
theorem q2U:okX 201 (@q2T R N):=Bf Aq N [] [(201,[([9],(Bh [(4,.d (.int .u64)),(5,.d (.int .u64))]))])] (fun _ _=>pO)
def Zh (a0 a1:C) (k1:KD R):Option R:=Qw N a0 a1 (fun d1 m1=>(bif !decide (bp (dk d1 0)=0)then(k1 [br 0,br 11] [])else(k1 [dk d1 1,br 0] [])))
def RM:=lid "" (@Zh R N)
theorem qG {R N a0 a1 k}:@RM R N a0 a1 k=Zh N a0 a1 k:=by unfold RM;rw[Ao]
def q3t:OvG R:=BW [.int .u64,.int .u64] (De (RM N)) fun a K d1 m1=>K (rj [V.d (cg bw) (dk d1 0),V.d (cg ca) (dk d1 1)]) []
theorem q3u:okX 187 (@q3t R N):=Bf (AR (q2U N) <| Aq) N [] [(187,[([9],(Bh [(4,.d (.int .u64)),(5,.d (.int .i64))]))])] (fun _ _=>qG)
def s5:List Sh:=[.as (.ptr (.g (.l 1)) [] DD),.d .bool]
def r6:List (Key × OSh):=[(.l 1,.box (.agg DD [.vec (.g (.l 2)) 8 (.int .u64),.d (.int .i64)])),(.l 2,.box (.arr (.int .u64)))]
def XG (a0 b0 b1 b2:C) (k1:KD R):Option R:=bif ez a0 then(if bn (bq b2)=bn (bq b2)then(Fq N (cz [br 1]) (br (↑(bo (bp b0)):Int)) b1 b2 (fun d1 m1=>(if bn (bq (dk d1 3))=bn (bq (dk d1 3))then(k1 [br (↑(bo (bp (dk d1 0))):Int),dk d1 1,br (↑(bo (bp (dk d1 2))):Int),dk d1 3] [])else none)))else none)else(if bn (bq b2)=bn (bq b2)then(Fq N (cz [br 0]) (br (↑(bo (bp b0)):Int)) b1 b2 (fun d1 m1=>(if bn (bq (dk d1 3))=bn (bq (dk d1 3))then(k1 [br (↑(bo (bp (dk d1 0))):Int),dk d1 1,br (↑(bo (bp (dk d1 2))):Int),dk d1 3] [])else none)))else none)
def HD:=lid "" (@XG R N)
theorem gX {R N a0 b0 b1 b2 k}:@HD R N a0 b0 b1 b2 k=XG N a0 b0 b1 b2 k:=by unfold HD;rw[Ao]
def s6:OvG R:=Ca s5 r6 (fun ds ms=>HD N (dk ds 0) (dk ds 1) (dk ds 2) (dk ds 3)) fun ds ms K d1 m1=>K (rj []) [(Key.g (df 1),
  O.box
   (V.agg DD
    [V.sr (df 1000000000074) [] 0 (bo (bp (dk d1 0))) none 8 (cg bw),
     V.d (cg ca) (dk d1 1)])),
 (Key.g (df 2),O.dead (dc (bo (bp (dk d1 2))) (cg bw))),
 (df 1000000000074,O.box (V.d (dc (bn (bq (dk d1 3))) (cg bw)) (dk d1 3)))]
theorem s7:okX 188 (@s6 R N):=Cc (AR (hC N) <| Aq) N [] [(188,[([9],⟨[],[],[.g (.l 1),.g (.l 2)],[],[],[(.int .u64)]⟩)])] (fun _ _ _=>gX)
def u3:List Sh:=[.d FG,.as (.ptr (.g (.l 1)) [] DD),.d (.int .i64),.d (.int .u64)]
def u6:List (Key × OSh):=[(.l 1,.box (.agg DD [.vec (.g (.l 2)) 8 (.int .u64),.d (.int .i64)])),(.l 2,.box (.arr (.int .u64)))]
def Dq (a0 a1 a2 b0 b1 b2:C) (k1:KD R):Option R:=bif decide (bp a1=1)then(if bn (bq b2)=bn (bq b2)then(Fq N (cz [a2]) (br (↑(bo (bp b0)):Int)) b1 b2 (fun d1 m1=>(if bn (bq (dk d1 3))=bn (bq (dk d1 3))then(k1 [br (↑(bo (bp (dk d1 0))):Int),dk d1 1,br (↑(bo (bp (dk d1 2))):Int),dk d1 3] [])else none)))else none)else(bif decide (bp a1=2)then(bif decide (bu bw (↑(bn (bq (cd a0 0))):Int)<=bp a2)then(if bn (bq b2)=bn (bq b2)then(IK N (br 1) (br (↑(bo (bp b0)):Int)) b1 b2 (fun d1 m1=>(if bn (bq (dk d1 3))=bn (bq (dk d1 3))then(k1 [br (↑(bo (bp (dk d1 0))):Int),dk d1 1,br (↑(bo (bp (dk d1 2))):Int),dk d1 3] [])else none)))else none)else(if 0<=bp a2/\bp a2<(↑(bn (bq (cd a0 0))):Int)then(if bn (bq b2)=bn (bq b2)then(Fq N (cz [dr (bq (cd a0 0)) (bo (bp a2)) gm]) (br (↑(bo (bp b0)):Int)) b1 b2 (fun d1 m1=>(if bn (bq (dk d1 3))=bn (bq (dk d1 3))then(k1 [br (↑(bo (bp (dk d1 0))):Int),dk d1 1,br (↑(bo (bp (dk d1 2))):Int),dk d1 3] [])else none)))else none)else none))else(bif decide (bp a1=3)then(jn (fun d1 m1=>(if bn (bq (dk d1 3))=bn (bq (dk d1 3))then(k1 [br (↑(bo (bp (dk d1 0))):Int),dk d1 1,br (↑(bo (bp (dk d1 2))):Int),dk d1 3] [])else none)) (fun k2=>(if bn (bq b2)=bn (bq b2)then(DZ N (br (↑(bo (bp b0)):Int)) b1 b2 (fun d1 m1=>(if bn (bq (dk d1 4))=bn (bq (dk d1 4))then(DZ N (br (↑(bo (bp (dk d1 1))):Int)) (dk d1 2) (dk d1 4) (fun d2 m2=>(bif !decide (bp (dk d2 2)=0)then(if bn (bq (dk d2 4))=bn (bq (dk d2 4))then(k2 [br (↑(bo (bp (dk d2 1))):Int),dk d2 2,br (↑(bo (bp (dk d1 3))):Int),dk d2 4] [])else none)else(JF N (dk d2 0) (dk d1 0) (fun d3 m3=>(bif !decide (bp (dk d3 1)=0)then(if bn (bq (dk d2 4))=bn (bq (dk d2 4))then(IK N (dk d3 1) (br (↑(bo (bp (dk d2 1))):Int)) (dk d2 2) (dk d2 4) (fun d4 m4=>(if bn (bq (dk d4 3))=bn (bq (dk d4 3))then(k2 [br (↑(bo (bp (dk d4 0))):Int),dk d4 1,br (↑(bo (bp (dk d1 3))):Int),dk d4 3] [])else none)))else none)else(if bn (bq (dk d2 4))=bn (bq (dk d2 4))then(Fq N (cz [dk d3 0]) (br (↑(bo (bp (dk d2 1))):Int)) (dk d2 2) (dk d2 4) (fun d4 m4=>(if bn (bq (dk d4 3))=bn (bq (dk d4 3))then(k2 [br (↑(bo (bp (dk d4 0))):Int),dk d4 1,br (↑(bo (bp (dk d1 3))):Int),dk d4 3] [])else none)))else none)))))))else none)))else none)))else(bif decide (bp a1=4)then(jn (fun d1 m1=>(if bn (bq (dk d1 3))=bn (bq (dk d1 3))then(k1 [br (↑(bo (bp (dk d1 0))):Int),dk d1 1,br (↑(bo (bp (dk d1 2))):Int),dk d1 3] [])else none)) (fun k2=>(if bn (bq b2)=bn (bq b2)then(DZ N (br (↑(bo (bp b0)):Int)) b1 b2 (fun d1 m1=>(if bn (bq (dk d1 4))=bn (bq (dk d1 4))then(DZ N (br (↑(bo (bp (dk d1 1))):Int)) (dk d1 2) (dk d1 4) (fun d2 m2=>(bif !decide (bp (dk d2 2)=0)then(if bn (bq (dk d2 4))=bn (bq (dk d2 4))then(k2 [br (↑(bo (bp (dk d2 1))):Int),dk d2 2,br (↑(bo (bp (dk d1 3))):Int),dk d2 4] [])else none)else(Ju N (dk d2 0) (dk d1 0) (fun d3 m3=>(bif !decide (bp (dk d3 1)=0)then(if bn (bq (dk d2 4))=bn (bq (dk d2 4))then(IK N (dk d3 1) (br (↑(bo (bp (dk d2 1))):Int)) (dk d2 2) (dk d2 4) (fun d4 m4=>(if bn (bq (dk d4 3))=bn (bq (dk d4 3))then(k2 [br (↑(bo (bp (dk d4 0))):Int),dk d4 1,br (↑(bo (bp (dk d1 3))):Int),dk d4 3] [])else none)))else none)else(if bn (bq (dk d2 4))=bn (bq (dk d2 4))then(Fq N (cz [dk d3 0]) (br (↑(bo (bp (dk d2 1))):Int)) (dk d2 2) (dk d2 4) (fun d4 m4=>(if bn (bq (dk d4 3))=bn (bq (dk d4 3))then(k2 [br (↑(bo (bp (dk d4 0))):Int),dk d4 1,br (↑(bo (bp (dk d1 3))):Int),dk d4 3] [])else none)))else none)))))))else none)))else none)))else(bif decide (bp a1=5)then(jn (fun d1 m1=>(if bn (bq (dk d1 3))=bn (bq (dk d1 3))then(k1 [br (↑(bo (bp (dk d1 0))):Int),dk d1 1,br (↑(bo (bp (dk d1 2))):Int),dk d1 3] [])else none)) (fun k2=>(if bn (bq b2)=bn (bq b2)then(DZ N (br (↑(bo (bp b0)):Int)) b1 b2 (fun d1 m1=>(if bn (bq (dk d1 4))=bn (bq (dk d1 4))then(DZ N (br (↑(bo (bp (dk d1 1))):Int)) (dk d1 2) (dk d1 4) (fun d2 m2=>(bif !decide (bp (dk d2 2)=0)then(if bn (bq (dk d2 4))=bn (bq (dk d2 4))then(k2 [br (↑(bo (bp (dk d2 1))):Int),dk d2 2,br (↑(bo (bp (dk d1 3))):Int),dk d2 4] [])else none)else(RM N (dk d2 0) (dk d1 0) (fun d3 m3=>(bif !decide (bp (dk d3 1)=0)then(if bn (bq (dk d2 4))=bn (bq (dk d2 4))then(IK N (dk d3 1) (br (↑(bo (bp (dk d2 1))):Int)) (dk d2 2) (dk d2 4) (fun d4 m4=>(if bn (bq (dk d4 3))=bn (bq (dk d4 3))then(k2 [br (↑(bo (bp (dk d4 0))):Int),dk d4 1,br (↑(bo (bp (dk d1 3))):Int),dk d4 3] [])else none)))else none)else(if bn (bq (dk d2 4))=bn (bq (dk d2 4))then(Fq N (cz [dk d3 0]) (br (↑(bo (bp (dk d2 1))):Int)) (dk d2 2) (dk d2 4) (fun d4 m4=>(if bn (bq (dk d4 3))=bn (bq (dk d4 3))then(k2 [br (↑(bo (bp (dk d4 0))):Int),dk d4 1,br (↑(bo (bp (dk d1 3))):Int),dk d4 3] [])else none)))else none)))))))else none)))else none)))else(bif decide (bp a1=6)then(if bn (bq b2)=bn (bq b2)then(DZ N (br (↑(bo (bp b0)):Int)) b1 b2 (fun d1 m1=>(if bn (bq (dk d1 4))=bn (bq (dk d1 4))then(DZ N (br (↑(bo (bp (dk d1 1))):Int)) (dk d1 2) (dk d1 4) (fun d2 m2=>(if bn (bq (dk d2 4))=bn (bq (dk d2 4))then(HD N (dw (decide (bp (dk d2 0)<bp (dk d1 0)))) (br (↑(bo (bp (dk d2 1))):Int)) (dk d2 2) (dk d2 4) (fun d3 m3=>(if bn (bq (dk d3 3))=bn (bq (dk d3 3))then(k1 [br (↑(bo (bp (dk d3 0))):Int),dk d3 1,br (↑(bo (bp (dk d1 3))):Int),dk d3 3] [])else none)))else none)))else none)))else none)else(bif decide (bp a1=7)then(if bn (bq b2)=bn (bq b2)then(DZ N (br (↑(bo (bp b0)):Int)) b1 b2 (fun d1 m1=>(if bn (bq (dk d1 4))=bn (bq (dk d1 4))then(DZ N (br (↑(bo (bp (dk d1 1))):Int)) (dk d1 2) (dk d1 4) (fun d2 m2=>(if bn (bq (dk d2 4))=bn (bq (dk d2 4))then(HD N (dw (decide (bp (dk d2 0)=bp (dk d1 0)))) (br (↑(bo (bp (dk d2 1))):Int)) (dk d2 2) (dk d2 4) (fun d3 m3=>(if bn (bq (dk d3 3))=bn (bq (dk d3 3))then(k1 [br (↑(bo (bp (dk d3 0))):Int),dk d3 1,br (↑(bo (bp (dk d1 3))):Int),dk d3 3] [])else none)))else none)))else none)))else none)else(bif decide (bp a1=8)then(if bn (bq b2)=bn (bq b2)then(DZ N (br (↑(bo (bp b0)):Int)) b1 b2 (fun d1 m1=>(if bn (bq (dk d1 4))=bn (bq (dk d1 4))then(HD N (dw (decide (bp (dk d1 0)=0))) (br (↑(bo (bp (dk d1 1))):Int)) (dk d1 2) (dk d1 4) (fun d2 m2=>(if bn (bq (dk d2 3))=bn (bq (dk d2 3))then(k1 [br (↑(bo (bp (dk d2 0))):Int),dk d2 1,br (↑(bo (bp (dk d1 3))):Int),dk d2 3] [])else none)))else none)))else none)else(bif decide (bp a1=9)then(if bn (bq b2)=bn (bq b2)then(DZ N (br (↑(bo (bp b0)):Int)) b1 b2 (fun d1 m1=>(if bn (bq (dk d1 4))=bn (bq (dk d1 4))then(DZ N (br (↑(bo (bp (dk d1 1))):Int)) (dk d1 2) (dk d1 4) (fun d2 m2=>(jn (fun d3 m3=>(if bn (bq (dk d3 2))=bn (bq (dk d3 2))then(k1 [br (↑(bo (bp (dk d3 0))):Int),dk d3 1,br (↑(bo (bp (dk d3 3))):Int),dk d3 2] [])else none)) (fun k2=>(bif !decide (bp (dk d2 0)=0)then(if bn (bq (dk d2 4))=bn (bq (dk d2 4))then(HD N (dw !decide (bp (dk d1 0)=0)) (br (↑(bo (bp (dk d2 1))):Int)) (dk d2 2) (dk d2 4) (fun d3 m3=>(if bn (bq (dk d3 3))=bn (bq (dk d3 3))then(k2 [br (↑(bo (bp (dk d3 0))):Int),dk d3 1,dk d3 3,br (↑(bo (bp (dk d1 3))):Int),br (↑(bo (bp (dk d1 3))):Int)] [])else none)))else none)else(if bn (bq (dk d2 4))=bn (bq (dk d2 4))then(HD N (dw false) (br (↑(bo (bp (dk d2 1))):Int)) (dk d2 2) (dk d2 4) (fun d3 m3=>(if bn (bq (dk d3 3))=bn (bq (dk d3 3))then(k2 [br (↑(bo (bp (dk d3 0))):Int),dk d3 1,dk d3 3,br (↑(bo (bp (dk d1 3))):Int),br (↑(bo (bp (dk d1 3))):Int)] [])else none)))else none))))))else none)))else none)else(bif decide (bp a1=10)then(if bn (bq b2)=bn (bq b2)then(DZ N (br (↑(bo (bp b0)):Int)) b1 b2 (fun d1 m1=>(if bn (bq (dk d1 4))=bn (bq (dk d1 4))then(DZ N (br (↑(bo (bp (dk d1 1))):Int)) (dk d1 2) (dk d1 4) (fun d2 m2=>(jn (fun d3 m3=>(if bn (bq (dk d3 2))=bn (bq (dk d3 2))then(k1 [br (↑(bo (bp (dk d3 0))):Int),dk d3 1,br (↑(bo (bp (dk d3 3))):Int),dk d3 2] [])else none)) (fun k2=>(bif !decide (bp (dk d2 0)=0)then(if bn (bq (dk d2 4))=bn (bq (dk d2 4))then(HD N (dw true) (br (↑(bo (bp (dk d2 1))):Int)) (dk d2 2) (dk d2 4) (fun d3 m3=>(if bn (bq (dk d3 3))=bn (bq (dk d3 3))then(k2 [br (↑(bo (bp (dk d3 0))):Int),dk d3 1,dk d3 3,br (↑(bo (bp (dk d1 3))):Int),br (↑(bo (bp (dk d1 3))):Int)] [])else none)))else none)else(if bn (bq (dk d2 4))=bn (bq (dk d2 4))then(HD N (dw !decide (bp (dk d1 0)=0)) (br (↑(bo (bp (dk d2 1))):Int)) (dk d2 2) (dk d2 4) (fun d3 m3=>(if bn (bq (dk d3 3))=bn (bq (dk d3 3))then(k2 [br (↑(bo (bp (dk d3 0))):Int),dk d3 1,dk d3 3,br (↑(bo (bp (dk d1 3))):Int),br (↑(bo (bp (dk d1 3))):Int)] [])else none)))else none))))))else none)))else none)else(bif decide (bp a1=13)then(if bn (bq b2)=bn (bq b2)then(DZ N (br (↑(bo (bp b0)):Int)) b1 b2 (fun d1 m1=>(if bn (bq (dk d1 4))=bn (bq (dk d1 4))then(Fq N (cz [dk d1 0,dk d1 0]) (br (↑(bo (bp (dk d1 1))):Int)) (dk d1 2) (dk d1 4) (fun d2 m2=>(if bn (bq (dk d2 3))=bn (bq (dk d2 3))then(k1 [br (↑(bo (bp (dk d2 0))):Int),dk d2 1,br (↑(bo (bp (dk d1 3))):Int),dk d2 3] [])else none)))else none)))else none)else(bif decide (bp a1=14)then(if bn (bq b2)=bn (bq b2)then(DZ N (br (↑(bo (bp b0)):Int)) b1 b2 (fun d1 m1=>(if bn (bq (dk d1 4))=bn (bq (dk d1 4))then(DZ N (br (↑(bo (bp (dk d1 1))):Int)) (dk d1 2) (dk d1 4) (fun d2 m2=>(if bn (bq (dk d2 4))=bn (bq (dk d2 4))then(Fq N (cz [dk d1 0,dk d2 0]) (br (↑(bo (bp (dk d2 1))):Int)) (dk d2 2) (dk d2 4) (fun d3 m3=>(if bn (bq (dk d3 3))=bn (bq (dk d3 3))then(k1 [br (↑(bo (bp (dk d3 0))):Int),dk d3 1,br (↑(bo (bp (dk d1 3))):Int),dk d3 3] [])else none)))else none)))else none)))else none)else(bif decide (bp a1=15)then(if bn (bq b2)=bn (bq b2)then(DZ N (br (↑(bo (bp b0)):Int)) b1 b2 (fun d1 m1=>(if bn (bq (dk d1 4))=bn (bq (dk d1 4))then(k1 [br (↑(bo (bp (dk d1 1))):Int),dk d1 2,br (↑(bo (bp (dk d1 3))):Int),dk d1 4] [])else none)))else none)else(bif decide (bp a1=16)then(bif decide (bu bw (↑(bn (bq (cd a0 1))):Int)<=bp a2)then(if bn (bq b2)=bn (bq b2)then(IK N (br 1) (br (↑(bo (bp b0)):Int)) b1 b2 (fun d1 m1=>(if bn (bq (dk d1 3))=bn (bq (dk d1 3))then(k1 [br (↑(bo (bp (dk d1 0))):Int),dk d1 1,br (↑(bo (bp (dk d1 2))):Int),dk d1 3] [])else none)))else none)else(if 0<=bp a2/\bp a2<(↑(bn (bq (cd a0 1))):Int)then(if bn (bq b2)=bn (bq b2)then(HD N (dr (bq (cd a0 1)) (bo (bp a2)) gm) (br (↑(bo (bp b0)):Int)) b1 b2 (fun d1 m1=>(if bn (bq (dk d1 3))=bn (bq (dk d1 3))then(k1 [br (↑(bo (bp (dk d1 0))):Int),dk d1 1,br (↑(bo (bp (dk d1 2))):Int),dk d1 3] [])else none)))else none)else none))else(bif decide (bp a1=17)then(if bn (bq b2)=bn (bq b2)then(Fq N (cz [cd a0 2]) (br (↑(bo (bp b0)):Int)) b1 b2 (fun d1 m1=>(if bn (bq (dk d1 3))=bn (bq (dk d1 3))then(k1 [br (↑(bo (bp (dk d1 0))):Int),dk d1 1,br (↑(bo (bp (dk d1 2))):Int),dk d1 3] [])else none)))else none)else(if bn (bq b2)=bn (bq b2)then(k1 [br (↑(bo (bp b0)):Int),b1,br (↑(bn (bq b2)):Int),b2] [])else none)))))))))))))))
def Ld:=lid "" (@Dq R N)
theorem gV {R N a0 a1 a2 b0 b1 b2 k}:@Ld R N a0 a1 a2 b0 b1 b2 k=Dq N a0 a1 a2 b0 b1 b2 k:=by unfold Ld;rw[Ao]
def u4:OvG R:=Ca u3 u6 (fun ds ms=>Ld N (dk ds 0) (dk ds 1) (dk ds 2) (dk ds 3) (dk ds 4) (dk ds 5)) fun ds ms K d1 m1=>K (rj []) [(Key.g (df 1),
  O.box
   (V.agg DD
    [V.sr (df 1000000000074) [] 0 (bo (bp (dk d1 0))) none 8 (cg bw),
     V.d (cg ca) (dk d1 1)])),
 (Key.g (df 2),O.dead (dc (bo (bp (dk d1 2))) (cg bw))),
 (df 1000000000074,O.box (V.d (dc (bn (bq (dk d1 3))) (cg bw)) (dk d1 3)))]
theorem u5:okX 167 (@u4 R N):=Cc (AR (Ul N) <| AR (RN N) <| AR (gZ N) <| AR (XH N) <| AR (hC N) <| AR (q3u N) <| AR (s7 N) <| Aq) N [(167,[(0,[(4,5)])])] [(167,[([1,2,1,3,1,3,1,3,1,3,1,3,1,3,1,3,1,3,1,4,1,1],⟨[1],[],[.g (.l 1),.g (.l 2)],[],[],[(.int .u64)]⟩),
  ([1,2,1,3,1,3,1,3,1,3,1,3,1,3,1,3,1,3,1,3,1,4,1,1],⟨[1],[],[.g (.l 1),.g (.l 2)],[],[],[(.int .u64)]⟩),
  ([9],⟨[],[],[.g (.l 1),.g (.l 2)],[],[],[(.int .u64)]⟩)]),(186,[([9],⟨[0],[],[],[],[],[(.int .u64)]⟩)])] (fun _ _ _=>gV)
def XE (k1:KD R):KD R->KD R:=fun k2 d2 m2=>(if bn (bq (dk d2 0))<=256/\0<=bp (dk d2 3)/\bp (dk d2 3)<=100000 then(bif !decide (Bj (bq (dk d2 0)) (bo (bp (dk d2 3)))=0)then(k1 [br 0,dk d2 4,br (Bj (bq (dk d2 0)) (bo (bp (dk d2 3))))] [])else(if(0<=if Bj (bq (dk d2 0)) (bo (bp (dk d2 3)))=0 then bN (bq (dk d2 0)) (bo (bp (dk d2 3)))else 0)/\(if Bj (bq (dk d2 0)) (bo (bp (dk d2 3)))=0 then bN (bq (dk d2 0)) (bo (bp (dk d2 3)))else 0)<18 then(bif decide (bu ca (bp (dk d2 1)-bp (dk d2 4))<bp (cd (cd (fh Eu) (bo (if Bj (bq (dk d2 0)) (bo (bp (dk d2 3)))=0 then bN (bq (dk d2 0)) (bo (bp (dk d2 3)))else 0))) 2))then(k1 [br 0,dk d2 4,br 24] [])else(if(0<=if Bj (bq (dk d2 0)) (bo (bp (dk d2 3)))=0 then bN (bq (dk d2 0)) (bo (bp (dk d2 3)))else 0)/\(if Bj (bq (dk d2 0)) (bo (bp (dk d2 3)))=0 then bN (bq (dk d2 0)) (bo (bp (dk d2 3)))else 0)<18 then(bif decide ((if Bj (bq (dk d2 0)) (bo (bp (dk d2 3)))=0 then bN (bq (dk d2 0)) (bo (bp (dk d2 3)))else 0)=0)then(if bn (bq (dk d2 7))=bn (bq (dk d2 7))then(DZ N (br (↑(bo (bp (dk d2 5))):Int)) (dk d2 6) (dk d2 7) (fun d3 m3=>(k1 [dk d3 0,br (bu ca (bp (dk d2 4)+bp (cd (cd (fh Eu) (bo (if Bj (bq (dk d2 0)) (bo (bp (dk d2 3)))=0 then bN (bq (dk d2 0)) (bo (bp (dk d2 3)))else 0))) 2))),dk d3 2] [])))else none)else(jn (fun d3 m3=>(bif !decide (bp (dk d3 6)=0)then(k1 [br 0,dk d3 3,dk d3 6] [])else(if bn (bq (dk d3 7))=bn (bq (dk d3 7))then(k2 [dk d3 0,dk d3 1,dk d3 2,dk d3 4,dk d3 3,br (↑(bo (bp (dk d3 5))):Int),dk d3 6,dk d3 7] [])else none))) (fun k3=>(bif decide ((if Bj (bq (dk d2 0)) (bo (bp (dk d2 3)))=0 then bN (bq (dk d2 0)) (bo (bp (dk d2 3)))else 0)=11)then(if bn (bq (dk d2 7))=bn (bq (dk d2 7))then(k3 [dk d2 0,dk d2 1,dk d2 2,br (bu ca (bp (dk d2 4)+bp (cd (cd (fh Eu) (bo (if Bj (bq (dk d2 0)) (bo (bp (dk d2 3)))=0 then bN (bq (dk d2 0)) (bo (bp (dk d2 3)))else 0))) 2))),br (bu ca (if Bj (bq (dk d2 0)) (bo (bp (dk d2 3)))=0 then EB (bq (dk d2 0)) (bo (bp (dk d2 3))+1) (CX (bN (bq (dk d2 0)) (bo (bp (dk d2 3)))))else 0)),br (↑(bo (bp (dk d2 5))):Int),dk d2 6,dk d2 7] [])else none)else(bif decide ((if Bj (bq (dk d2 0)) (bo (bp (dk d2 3)))=0 then bN (bq (dk d2 0)) (bo (bp (dk d2 3)))else 0)=12)then(if bn (bq (dk d2 7))=bn (bq (dk d2 7))then(DZ N (br (↑(bo (bp (dk d2 5))):Int)) (dk d2 6) (dk d2 7) (fun d3 m3=>(bif !decide (bp (dk d3 0)=0)then(if bn (bq (dk d3 4))=bn (bq (dk d3 4))then(k3 [dk d2 0,dk d2 1,dk d2 2,br (bu ca (bp (dk d2 4)+bp (cd (cd (fh Eu) (bo (if Bj (bq (dk d2 0)) (bo (bp (dk d2 3)))=0 then bN (bq (dk d2 0)) (bo (bp (dk d2 3)))else 0))) 2))),br (bu ca (if Bj (bq (dk d2 0)) (bo (bp (dk d2 3)))=0 then EB (bq (dk d2 0)) (bo (bp (dk d2 3))+1) (CX (bN (bq (dk d2 0)) (bo (bp (dk d2 3)))))else 0)),br (↑(bo (bp (dk d3 1))):Int),dk d3 2,dk d3 4] [])else none)else(if bn (bq (dk d3 4))=bn (bq (dk d3 4))then(k3 [dk d2 0,dk d2 1,dk d2 2,br (bu ca (bp (dk d2 4)+bp (cd (cd (fh Eu) (bo (if Bj (bq (dk d2 0)) (bo (bp (dk d2 3)))=0 then bN (bq (dk d2 0)) (bo (bp (dk d2 3)))else 0))) 2))),br (if Bj (bq (dk d2 0)) (bo (bp (dk d2 3)))=0 then(↑(bo (bp (dk d2 3))+1+CX (bN (bq (dk d2 0)) (bo (bp (dk d2 3))))):Int)else 0),br (↑(bo (bp (dk d3 1))):Int),dk d3 2,dk d3 4] [])else none))))else none)else(if bn (bq (dk d2 7))=bn (bq (dk d2 7))then(Ld N (dk d2 2) (br (if Bj (bq (dk d2 0)) (bo (bp (dk d2 3)))=0 then bN (bq (dk d2 0)) (bo (bp (dk d2 3)))else 0)) (br (if Bj (bq (dk d2 0)) (bo (bp (dk d2 3)))=0 then EB (bq (dk d2 0)) (bo (bp (dk d2 3))+1) (CX (bN (bq (dk d2 0)) (bo (bp (dk d2 3)))))else 0)) (br (↑(bo (bp (dk d2 5))):Int)) (dk d2 6) (dk d2 7) (fun d3 m3=>(if bn (bq (dk d3 3))=bn (bq (dk d3 3))then(k3 [dk d2 0,dk d2 1,dk d2 2,br (bu ca (bp (dk d2 4)+bp (cd (cd (fh Eu) (bo (if Bj (bq (dk d2 0)) (bo (bp (dk d2 3)))=0 then bN (bq (dk d2 0)) (bo (bp (dk d2 3)))else 0))) 2))),br (if Bj (bq (dk d2 0)) (bo (bp (dk d2 3)))=0 then(↑(bo (bp (dk d2 3))+1+CX (bN (bq (dk d2 0)) (bo (bp (dk d2 3))))):Int)else 0),br (↑(bo (bp (dk d3 0))):Int),dk d3 1,dk d3 3] [])else none)))else none))))))else none))else none))else none)
def TH (a0 a1 a2:C) (k1:KD R):Option R:=jn (fun d1 m1=>(bif ez (dk d1 3)then(k1 [br 0,br 0,br 1] [])else(BP N (XE N k1) [dk d1 0,dk d1 1,dk d1 2,br 0,br 0,br 0,AO (cg ca),fh []] []))) (fun k2=>(bif decide (256<(↑(bn (bq a0)):Int))then(k2 [a0,a2,a1,dw true] [])else(bif decide (bp a2<0)then(k2 [a0,a2,a1,dw true] [])else(k2 [a0,a2,a1,dw (decide (4096<bp a2))] []))))
def NI:=lid "" (@TH R N)
theorem XF {R N a0 a1 a2 k}:@NI R N a0 a1 a2 k=TH N a0 a1 a2 k:=by unfold NI;rw[Ao]
def u1:OvG R:=BW [.slice 1 (.int .u8),FG,.int .i64] (Io (NI N)) fun a K d1 m1=>K (rj [V.d (cg bw) (dk d1 0),V.d (cg ca) (dk d1 1),V.d (cg ca) (dk d1 2)]) []
theorem u2:okX 150 (@u1 R N):=Bf (AR (u9 N) <| AR (gZ N) <| AR (u5 N) <| Aq) N [(150,[(0,[(4,5)])])] [(150,[([1],⟨[0,2,4,9],[(10,.d (.int .i64)),(11,.d (.int .i64))],[],[],[],[(.int .u64)]⟩),
  ([0,0,6,1],⟨[0,2,4],[(27,.d .bool)],[],[],[],[(.int .u64)]⟩),
  ([1,3,1,4,1,0,1,1,1,1,1,7,1],⟨[0,2,4,9,11],[(10,.d (.int .i64))],[],[],[],[(.int .u64)]⟩),
  ([9],⟨[],[(6,.d (.int .u64)),(7,.d (.int .i64)),(8,.d (.int .i64))],[],[],[],[(.int .u64)]⟩)])] (fun _ _=>XF)
section
variable {R:Type} {N:Nat}
structure St where
 s:List Int
 e:Int
def GW (b:Bool):Int:=if b=true then 1 else 0
def St.fail (x:St) (c:Int):St:=⟨x.s,if x.e=0 then c else x.e⟩
def St.pop (x:St):Int × St:=match x.s with| []=>(0,x.fail 12)|a::r=>(a,⟨r,x.e⟩)
def St.push (x:St) (a:Int):St:=if 32<=x.s.length then x.fail 4 else⟨a::x.s,x.e⟩
def St.Hq (x:St) (a b:Int):St:=if 32<=x.s.length then x.fail 4 else(x.push a).push b
structure OkA (x:St) (arr:C):Prop where
 le:x.s.length<=32
 is:arr.elems.take x.s.length=x.s.reverse.map br
def St.Gv (x:St) (arr:C) (a:Int):C:=if 32<=x.s.length then arr else .agg (arr.elems.take x.s.length++[.int a])
def St.OT (x:St) (arr:C) (a b:Int):C:=if 32<=x.s.length then arr else(x.push a).Gv (x.Gv arr a) b
section
variable {x:St} {arr:C}
theorem OkA.fail (h:OkA x arr) (c:Int):OkA (x.fail c) arr:=⟨h.le,h.is⟩
theorem OkA.pop (h:OkA x arr):OkA x.pop.2 arr:=by
 obtain⟨s,e⟩:=x;cases s with
 |nil=>exact⟨h.le,h.is⟩|cons a r=>
  have h1:r.length+1<=32:=h.le;have h2:arr.elems.take (r.length+1)=(a::r).reverse.map br:=h.is;refine⟨show r.length<=32 by omega,show arr.elems.take r.length=r.reverse.map br from ?_⟩;have h3:=congrArg (ed r.length) h2;rw[List.take_take,Nat.min_eq_left (Nat.le_succ _),oy,mr,List.take_append_of_le_length (by rw[lf,List.length_reverse];exact Nat.le_refl _),mi (l:=List.map br r.reverse) (by simp)]at h3;exact h3
theorem OkA.len (h:OkA x arr):x.s.length<=arr.elems.length:=by have:=congrArg bn h.is;simp at this;omega
theorem OkA.top {a:Int} {r:List Int} {e:Int} (h:OkA ⟨a::r,e⟩ arr):arr.get r.length= .int a:=by
 have h2:arr.elems.take (r.length+1)=(a::r).reverse.map br:=h.is;have h3:=congrArg (fun l=>l[r.length]?) h2;simp only[List.getElem?_take,Nat.lt_succ_self,if_true,oy,mr]at h3;rw[List.getElem?_append_right (by simp)]at h3;have h4:arr.elems[r.length]? =some (.int a):=by simpa using h3
 cases arr <;> simp only[bq,List.getElem?_nil,reduceCtorEq]at h4 <;> simp[cd,h4]
theorem OkA.push (h:OkA x arr) (a:Int):OkA (x.push a) (x.Gv arr a):=by unfold St.push St.Gv;by_cases h1:32<=x.s.length;{simp only[h1,if_true];exact h.fail 4};{simp only[h1,if_false];refine⟨show x.s.length+1<=32 by omega,?_⟩;show ed (x.s.length+1) (arr.elems.take x.s.length++[br a])=(a::x.s).reverse.map br;rw[h.is,mi (by simp),oy,mr];rfl}
theorem OkA.Hq (h:OkA x arr) (a b:Int):OkA (x.Hq a b) (x.OT arr a b):=by unfold St.Hq St.OT;by_cases h1:32<=x.s.length;{simp only[h1,if_true];exact h.fail 4};{simp only[h1,if_false];exact(h.push a).push b}
theorem Jf (c:Int) (k:KD R):IK N (.int c) (.int x.s.length) (.int x.e) arr k=k [.int (x.fail c).s.length,.int (x.fail c).e,.int arr.elems.length,arr] []:=by rw[gY];unfold XI St.fail;simp only[go_sem,AF,AX,bx,if_true];by_cases h:x.e=0 <;> simp[h]
theorem Du (h:OkA x arr) (k:KD R):DZ N (.int x.s.length) (.int x.e) arr k=k [.int x.pop.1,.int x.pop.2.s.length,.int x.pop.2.e,.int arr.elems.length,arr] []:=by
 obtain⟨s,e⟩:=x;cases s with
 |nil=>
  rw[XJ];unfold TI;have:=Jf (R:=R) (N:=N) (x:=⟨[],e⟩) (arr:=arr) 12;simp only[dx]at this ⊢;simp only[go_sem,AF,AX,bx,if_true];exact(this _).trans rfl
 |cons a r=>
  have hn:r.length+1<=32:=h.le;have hw:bu .i64 (((r.length+1:Nat):Int)-1)=r.length:=by rw[je _ (by omega)];omega
  rw[XJ];unfold TI;simp only[dp,go_sem,AF,AX,bx,if_true,hw];have h0:¬(((r.length+1:Nat):Int)=0):=by omega
  have h1:(0:Int)<=(r.length:Int)/\(r.length:Int)<((r.length+1:Nat):Int):=⟨by omega,by omega⟩;have h2:(0:Int)<=0/\(0:Int)<=(r.length:Int)/\(r.length:Int)<=((r.length+1:Nat):Int):=⟨by decide,by omega,by omega⟩;simp only[h0,AG,if_pos h1,if_pos h2,cf,Int.sub_zero,bx,h.top];rfl
theorem MK (h:OkA x arr) (a:Int) (hN:4<N) (k:KD R):Fq N (.slice [.int a]) (.int x.s.length) (.int x.e) arr k=k [.int (x.push a).s.length,.int (x.push a).e,.int arr.elems.length,x.Gv arr a] []:=by
 obtain⟨M,rfl⟩:∃M,N=M+3:=⟨N-3,by omega⟩;rw[XL];unfold TJ;simp only[go_sem,Dt,XK,AF,AX,Ac,bx,if_true,dp,dx,cf];have hl:=h.len;have h32:=h.le;have e1:IntKind.i64.wrap ((0:Int)+1)=1:=by decide
 have e2:((0:Int)<((1:Nat):Int))=True:=by simp
 have e3:(((1:Nat):Int)<((1:Nat):Int))=False:=by simp
 by_cases h1:32<=x.s.length
 ·have h1':(32:Int)<=(x.s.length:Int):=by omega
  simp only[h1',Jf,go_sem,AF,AG];simp[St.push,St.Gv,h1]
 ·have h1':¬(32:Int)<=(x.s.length:Int):=by omega
  have h2:x.s.length+1=(ed x.s.length arr.elems++[br a]).length:=by simp;omega
  have h3:(x.s.length+1)*8<=140737488355328/\x.s.length+1<=9223372036854775807:=by omega
  simp only[h1',go_sem,AF,e1,tf,<-h2,h3];simp[St.push,St.Gv,h1]
theorem tQ (h:OkA x arr) (a b:Int) (hN:4<N) (k:KD R):Fq N (.slice [.int a,.int b]) (.int x.s.length) (.int x.e) arr k=k [.int (x.Hq a b).s.length,.int (x.Hq a b).e,.int arr.elems.length,x.OT arr a b] []:=by
 obtain⟨M,rfl⟩:∃M,N=M+3:=⟨N-3,by omega⟩;rw[XL];unfold TJ;simp only[go_sem,Dt,XK,AF,AX,Ac,bx,if_true,dp,dx,cf];have hl:=h.len;have h32:=h.le;have e1:IntKind.i64.wrap ((0:Int)+1)=1:=by decide
 have e2:IntKind.i64.wrap ((1:Int)+1)=2:=by decide
 by_cases h1:32<=x.s.length
 ·have h1':(32:Int)<=(x.s.length:Int):=by omega
  simp only[h1',Jf,go_sem,AF,AG];simp[St.Hq,St.OT,h1]
 ·have h1':¬(32:Int)<=(x.s.length:Int):=by omega
  have h2:x.s.length+1=(ed x.s.length arr.elems++[br a]).length:=by simp;omega
  have h3:(x.s.length+1)*8<=140737488355328/\x.s.length+1<=9223372036854775807:=by omega
  have hx:x.push a=⟨a::x.s,x.e⟩:=if_neg h1;have hA:x.Gv arr a= .agg (arr.elems.take x.s.length++[.int a]):=if_neg h1;simp only[h1',go_sem,AF,e1,e2,tf,List.getD_cons_succ,<-h2,h3];by_cases h4:32<=x.s.length+1
  ·have h4':(32:Int)<=((x.s.length+1:Nat):Int):=by omega
   have:=Jf (R:=R) (N:=M+3) (x:=x.push a) (arr:=x.Gv arr a) 4;rw[hx,hA]at this;simp only[dp]at this;simp only[h4',go_sem,AF,this];simp[St.Hq,St.OT,h1,hx,hA,St.push,St.Gv,h4]
  ·have h4':¬(32:Int)<=((x.s.length+1:Nat):Int):=by omega
   have h5:(x.s.length+1+1)*8<=140737488355328/\x.s.length+1+1<=9223372036854775807:=by omega
   have h6:ed (x.s.length+1) (ed x.s.length arr.elems++[br a])=ed x.s.length arr.elems++[br a]:=mi (by omega);have h7:x.s.length+1+1=(ed x.s.length arr.elems++[br a]++[br b]).length:=by simp;omega
   simp only[h4',go_sem,AF,Ak,h5,h6,<-h7];simp[St.Hq,St.OT,h1,hx,hA,St.push,St.Gv,h4];rw[Ak,h6,List.append_assoc];rfl
theorem LZ (h:OkA x arr) (c:C) (hN:4<N) (k:KD R):HD N c (.int x.s.length) (.int x.e) arr k=k [.int (x.push (GW c.toBool)).s.length,.int (x.push (GW c.toBool)).e,.int arr.elems.length,x.Gv arr (GW c.toBool)] []:=by rw[gX];unfold XG;cases hc:c.toBool <;> simp only[go_sem,AF,bx,AG,MK h _ hN] <;> first|done|rfl
end
def St.put (x:St) (r:Int × Int):St:=if r.2=0 then x.push r.1 else x.fail r.2
def hiM (a b:Int):Int:=
  (bu bw
   (bu bw
     (bu bw
       (ft (a) (2^min (bo 32) 64)*ft (b) (2^min (bo 32) 64))+
      ft
       (bu bw
        (bu bw
          (ft (a) (2^min (bo 32) 64)*
           CU fv bw (b) 4294967295)+
         ft
          (bu bw
           (CU fv bw (a) 4294967295*
            CU fv bw (b) 4294967295))
          (2^min (bo 32) 64)))
       (2^min (bo 32) 64))+
    ft
     (bu bw
      (CU fv bw
        (bu bw
         (bu bw
           (ft (a) (2^min (bo 32) 64)*
            CU fv bw (b) 4294967295)+
          ft
           (bu bw
            (CU fv bw (a) 4294967295*
             CU fv bw (b) 4294967295))
           (2^min (bo 32) 64)))
        4294967295+
       bu bw
        (CU fv bw (a) 4294967295*
         ft (b) (2^min (bo 32) 64))))
     (2^min (bo 32) 64)))
def mulR (a b:Int):Int × Int:=if hiM a b=0 then(IntKind.u64.wrap (a*b),0)else(0,11)
def St.Ia (x:St) (f:Int->Int->Int × Int):St:=if x.pop.2.pop.2.e=0 then x.pop.2.pop.2.put (f x.pop.2.pop.1 x.pop.1)else x.pop.2.pop.2
def DL (w:C) (op:Nat) (arg:Int) (x:St):St:=match op with|1=>x.push arg|2=>if arg<((w.get 0).elems.length:Int)then x.push ((w.get 0).elems.getD arg.toNat .nil).toInt else x.fail 1|3=>x.Ia Bp|4=>x.Ia DN|5=>x.Ia mulR|6=>x.pop.2.pop.2.push (GW (decide (x.pop.2.pop.1<x.pop.1)))|7=>x.pop.2.pop.2.push (GW (decide (x.pop.2.pop.1=x.pop.1)))|8=>x.pop.2.push (GW (decide (x.pop.1=0)))|9=>x.pop.2.pop.2.push (GW (!decide (x.pop.2.pop.1=0)&& !decide (x.pop.1=0)))|10=>x.pop.2.pop.2.push (GW (!decide (x.pop.2.pop.1=0)|| !decide (x.pop.1=0)))|13=>x.pop.2.Hq x.pop.1 x.pop.1|14=>x.pop.2.pop.2.Hq x.pop.1 x.pop.2.pop.1|15=>x.pop.2|16=>if arg<((w.get 1).elems.length:Int)then x.push (GW ((w.get 1).elems.getD arg.toNat .nil).toBool)else x.fail 1|17=>x.push (w.get 2).toInt|_=>x
structure WOk (w:C):Prop where
 f:∀c∈(w.get 0).elems,c= .int c.toInt
 l0:(w.get 0).elems.length<4611686018427387904
 l1:(w.get 1).elems.length<4611686018427387904
 h:w.get 2= .int (w.get 2).toInt
theorem mul_eq (a b:Int) (k:KD R):RM N (.int a) (.int b) k=k [.int (mulR a b).1,.int (mulR a b).2] []:=by
 have h1:∀k:KD R,Qw N (.int a) (.int b) k=k [.int (hiM a b),.int (IntKind.u64.wrap (a*b))] []:=fun k=>by rw[pO];rfl
 rw[qG];unfold Zh mulR;rw[h1];simp only[go_sem,AF];by_cases h:hiM a b=0 <;> simp[h]
theorem q4Q {w:C} (hw:WOk w) {x:St} {arr:C} (h:OkA x arr) (hN:4<N) (op:Nat) (hop:op<=17) (arg:Int) (ha:0<=arg):∃xe,OkA (DL w op arg x) xe/\∀{R:Type} (k:KD R),
  Ld N w (.int op) (.int arg) (.int x.s.length) (.int x.e) arr k=k [.int (DL w op arg x).s.length,.int (DL w op arg x).e,.int arr.elems.length,xe] []:=by
 have c:op=0\/op=1\/op=2\/op=3\/op=4\/op=5\/op=6\/op=7\/op=8\/op=9\/op=10\/op=11\/op=12\/op=13\/op=14\/op=15\/op=16\/op=17:=by omega
 have hp:=h.pop;have hpp:=hp.pop;have red:∀b:Prop,[Decidable b]->(if b then true else false)=decide b:=fun b _=>by by_cases h:b <;> simp[h]
 have m1:IntKind.u64.min=0:=by decide
 have m2:IntKind.u64.max=18446744073709551615:=by decide
 have ofl:∀n:Nat,n<4611686018427387904->IntKind.u64.wrap (n:Int)=n:=fun n hn=>Oy (by omega) (by omega)
 have go:∀(x':St) (xe:C),OkA x' xe->(∀{R:Type} (k:KD R),Dq N w (.int op) (.int arg) (.int x.s.length) (.int x.e) arr k=k [.int x'.s.length,.int x'.e,.int arr.elems.length,xe] [])->x'=DL w op arg x->∃xe,OkA (DL w op arg x) xe/\∀{R:Type} (k:KD R),
  Ld N w (.int op) (.int arg) (.int x.s.length) (.int x.e) arr k=k [.int (DL w op arg x).s.length,.int (DL w op arg x).e,.int arr.elems.length,xe] []:=by
  rintro x' xe h1 h2 rfl;exact⟨xe,h1,fun k=>by rw[gV];exact h2 k⟩
 have Ia:∀(f:Int->Int->Int × Int),DL w op arg x=x.Ia f->(∀{R:Type} (k:KD R),Dq N w (.int op) (.int arg) (.int x.s.length) (.int x.e) arr k=
   if x.pop.2.pop.2.e=0 then(if(f x.pop.2.pop.1 x.pop.1).2=0 then k [.int (x.pop.2.pop.2.push (f x.pop.2.pop.1 x.pop.1).1).s.length,.int (x.pop.2.pop.2.push (f x.pop.2.pop.1 x.pop.1).1).e,.int arr.elems.length,x.pop.2.pop.2.Gv arr (f x.pop.2.pop.1 x.pop.1).1] []
    else k [.int (x.pop.2.pop.2.fail (f x.pop.2.pop.1 x.pop.1).2).s.length,.int (x.pop.2.pop.2.fail (f x.pop.2.pop.1 x.pop.1).2).e,.int arr.elems.length,arr] [])
   else k [.int x.pop.2.pop.2.s.length,.int x.pop.2.pop.2.e,.int arr.elems.length,arr] [])->∃xe,OkA (DL w op arg x) xe/\∀{R:Type} (k:KD R),
  Ld N w (.int op) (.int arg) (.int x.s.length) (.int x.e) arr k=k [.int (DL w op arg x).s.length,.int (DL w op arg x).e,.int arr.elems.length,xe] []:=by
  intro f hf hk;by_cases h1:x.pop.2.pop.2.e=0;{by_cases h2:(f x.pop.2.pop.1 x.pop.1).2=0;{refine go _ _ (hpp.push (f x.pop.2.pop.1 x.pop.1).1) (fun k=>?_) ?_;{rw[hk,if_pos h1,if_pos h2]};{rw[hf];simp[St.Ia,St.put,h1,h2]}};{refine go _ _ (hpp.fail (f x.pop.2.pop.1 x.pop.1).2) (fun k=>?_) ?_;{rw[hk,if_pos h1,if_neg h2]};{rw[hf];simp[St.Ia,St.put,h1,h2]}}};{refine go _ _ hpp (fun k=>?_) ?_;{rw[hk,if_neg h1]};{rw[hf];simp[St.Ia,h1]}}
 rcases c with rfl|rfl|rfl|rfl|rfl|rfl|rfl|rfl|rfl|rfl|rfl|rfl|rfl|rfl|rfl|rfl|rfl|rfl
 case inr.inl =>   -- push
  refine go _ _ (h.push arg) (fun k=>?_) rfl;unfold Dq;simp only[go_sem,AF,bx,if_true,MK h _ hN,Int.reduceEq,reduceIte]
 case inr.inr.inl =>   -- load
  by_cases hlt:arg<((w.get 0).elems.length:Int)
  ·have yb:¬((w.get 0).elems.length:Int)<=arg:=by omega
   have yu:(w.get 0).elems.getD arg.toNat .nil= .int ((w.get 0).elems.getD arg.toNat .nil).toInt:=by refine hw.f _ ?_;rw[du,cr (by omega)];exact List.getElem_mem _
   refine go _ _ (h.push ((w.get 0).elems.getD arg.toNat .nil).toInt) (fun k=>?_) (by simp only[DL,hlt,if_true]);unfold Dq;simp only[go_sem,AF,bx,if_true,ofl _ hw.l0,yb,hlt,ha,and_self,Int.reduceEq,reduceIte];rw[yu,MK h _ hN];simp only[go_sem,AF,bx,if_true]
  ·have yb:((w.get 0).elems.length:Int)<=arg:=by omega
   refine go _ _ (h.fail 1) (fun k=>?_) (by simp only[DL,hlt,if_false]);unfold Dq;simp only[go_sem,AF,bx,if_true,ofl _ hw.l0,yb,Jf,Int.reduceEq,reduceIte]
 case inr.inr.inr.inl =>   -- add
  refine Ia Bp rfl fun k=>?_;unfold Dq;simp only[go_sem,AF,bx,if_true,Du h,Du hp,add_eq,MK hpp _ hN,Jf,Int.reduceEq,reduceIte];by_cases h1:x.pop.2.pop.2.e=0 <;> by_cases h2:(Bp x.pop.2.pop.1 x.pop.1).2=0 <;> simp[h1,h2]
 case inr.inr.inr.inr.inl =>   -- sub
  refine Ia DN rfl fun k=>?_;unfold Dq;simp only[go_sem,AF,bx,if_true,Du h,Du hp,sub_eq,MK hpp _ hN,Jf,Int.reduceEq,reduceIte];by_cases h1:x.pop.2.pop.2.e=0 <;> by_cases h2:(DN x.pop.2.pop.1 x.pop.1).2=0 <;> simp[h1,h2]
 case inr.inr.inr.inr.inr.inl =>   -- mul
  refine Ia mulR rfl fun k=>?_;unfold Dq;simp only[go_sem,AF,bx,if_true,Du h,Du hp,mul_eq,MK hpp _ hN,Jf,Int.reduceEq,reduceIte];by_cases h1:x.pop.2.pop.2.e=0 <;> by_cases h2:(mulR x.pop.2.pop.1 x.pop.1).2=0 <;> simp[h1,h2]
 all_goals try (   -- those that can't fail of themselves
  first
  |(refine go _ _ (hpp.push _) (fun k=>?_) rfl
    unfold Dq;simp only[go_sem,AF,AX,bx,if_true,Du h,Du hp,LZ hpp _ hN,Int.reduceEq,reduceIte]
    first|done|rfl)
  |(refine go _ _ (hp.push _) (fun k=>?_) rfl
    unfold Dq;simp only[go_sem,AF,AX,bx,if_true,Du h,LZ hp _ hN,Int.reduceEq,reduceIte]
    first|done|rfl)
  |(refine go _ _ (hp.Hq _ _) (fun k=>?_) rfl
    unfold Dq;simp only[go_sem,AF,bx,if_true,Du h,tQ hp _ _ hN,Int.reduceEq,reduceIte]
    first|done|rfl)
  |(refine go _ _ (hpp.Hq _ _) (fun k=>?_) rfl
    unfold Dq;simp only[go_sem,AF,bx,if_true,Du h,Du hp,tQ hpp _ _ hN,Int.reduceEq,reduceIte]
    first|done|rfl)
  |(refine go _ _ hp (fun k=>?_) rfl
    unfold Dq;simp only[go_sem,AF,bx,if_true,Du h,Int.reduceEq,reduceIte]
    first|done|rfl)
  |(refine go _ _ h (fun k=>?_) rfl
    unfold Dq;simp only[go_sem,AF,bx,if_true,Int.reduceEq,reduceIte]
    first|done|rfl))
 ·by_cases h1:x.pop.2.pop.1=0
  ·refine go _ _ (hpp.push (GW false)) (fun k=>?_) (by simp[DL,h1]);unfold Dq;simp only[go_sem,AF,AX,bx,AG,Du h,Du hp,h1,LZ hpp _ hN,Int.reduceEq,reduceIte]
   first|done|rfl
  ·refine go _ _ (hpp.push (GW (!decide (x.pop.1=0)))) (fun k=>?_) (by simp[DL,h1]);unfold Dq;simp only[go_sem,AF,AX,bx,AG,Du h,Du hp,h1,LZ hpp _ hN,Int.reduceEq,reduceIte]
   first|done|rfl
 ·by_cases h1:x.pop.2.pop.1=0
  ·refine go _ _ (hpp.push (GW (!decide (x.pop.1=0)))) (fun k=>?_) (by simp[DL,h1]);unfold Dq;simp only[go_sem,AF,AX,bx,AG,Du h,Du hp,h1,LZ hpp _ hN,Int.reduceEq,reduceIte]
   first|done|rfl
  ·refine go _ _ (hpp.push (GW true)) (fun k=>?_) (by simp[DL,h1]);unfold Dq;simp only[go_sem,AF,AX,bx,AG,Du h,Du hp,h1,LZ hpp _ hN,Int.reduceEq,reduceIte]
   first|done|rfl
 ·by_cases hlt:arg<((w.get 1).elems.length:Int)
  ·have yb:¬((w.get 1).elems.length:Int)<=arg:=by omega
   refine go _ _ (h.push (GW ((w.get 1).elems.getD arg.toNat .nil).toBool)) (fun k=>?_) (by simp only[DL,hlt,if_true]);unfold Dq;simp only[go_sem,AF,bx,if_true,ofl _ hw.l1,yb,hlt,ha,and_self,LZ h _ hN,Int.reduceEq,reduceIte]
   first|done|rfl
  ·have yb:((w.get 1).elems.length:Int)<=arg:=by omega
   refine go _ _ (h.fail 1) (fun k=>?_) (by simp only[DL,hlt,if_false]);unfold Dq;simp only[go_sem,AF,bx,if_true,ofl _ hw.l1,yb,Jf,Int.reduceEq,reduceIte]
 ·refine go _ _ (h.push (w.get 2).toInt) (fun k=>?_) rfl;unfold Dq;simp only[go_sem,AF,bx,if_true,Int.reduceEq,reduceIte];rw[hw.h,MK h _ hN];simp only[go_sem,AF,bx,if_true]
end
section
variable {R:Type} {N:Nat}
def Dh (o:Int):Int:=if o=5 then 3 else if o=16 then 10 else 1
theorem XR (o:Int):1<=Dh o/\Dh o<=10:=by unfold Dh;(repeat' split) <;> omega
theorem q00:∀(o:Nat),o<18->(Eu.getD o .nil).get 2= .int (Dh o):=by
 intro o h;have c:o=0\/o=1\/o=2\/o=3\/o=4\/o=5\/o=6\/o=7\/o=8\/o=9\/o=10\/o=11\/o=12\/o=13\/o=14\/o=15\/o=16\/o=17:=by omega
 rcases c with rfl|rfl|rfl|rfl|rfl|rfl|rfl|rfl|rfl|rfl|rfl|rfl|rfl|rfl|rfl|rfl|rfl|rfl <;> rfl
def EA (p:List C) (i:Nat):Int:=EB p (i+1) (CX (bN p i))
def Ky (p:List C) (gas:Int) (w:C):Nat->Nat->Int->St->Int × Int × Int
 |0,_,_,_=>(0,0,0)|f+1,i,sp,x=>
  if Bj p i≠0 then(0,sp,Bj p i)
  else if gas-sp<Dh (bN p i)then(0,sp,24)
  else if bN p i=0 then(x.pop.1,sp+Dh (bN p i),x.pop.2.e)
  else if bN p i=11 then(if x.e≠0 then(0,sp+Dh (bN p i),x.e)else Ky p gas w f (EA p i).toNat (sp+Dh (bN p i)) x)
  else if bN p i=12 then(if x.pop.2.e≠0 then(0,sp+Dh (bN p i),x.pop.2.e)else Ky p gas w f (if x.pop.1=0 then i+1+CX (bN p i)else(EA p i).toNat) (sp+Dh (bN p i)) x.pop.2)
  else(if(DL w (bN p i).toNat (EA p i) x).e≠0 then(0,sp+Dh (bN p i),(DL w (bN p i).toNat (EA p i) x).e)
   else Ky p gas w f (i+1+CX (bN p i)) (sp+Dh (bN p i)) (DL w (bN p i).toNat (EA p i) x))
theorem Om {p:List C} {gas:Int} {w:C}:∀(f g i:Nat) (sp:Int) (x:St),(gas-sp).toNat<f->(gas-sp).toNat<g->Ky p gas w f i sp x=Ky p gas w g i sp x
 |0,_,_,_,_,h,_=>by omega
 |_+1,0,_,_,_,_,h=>by omega
 |f+1,g+1,i,sp,x,h1,h2=>by have hc:=XR (bN p i);simp only[Ky];split;{rfl};split;{rfl};split;{rfl};split;{split;{rfl};{exact Om f g _ _ _ (by omega) (by omega)}};split;{split;{rfl};{exact Om f g _ _ _ (by omega) (by omega)}};split;{rfl};{exact Om f g _ _ _ (by omega) (by omega)}
def Hv (p:List C) (gas:Int) (w:C) (i:Nat) (sp:Int) (x:St):Int × Int × Int:=Ky p gas w ((gas-sp).toNat+1) i sp x
theorem q5s {p:List C} {gas:Int} {w:C} {i:Nat} {sp:Int} {x:St}:Hv p gas w i sp x=
  if Bj p i≠0 then(0,sp,Bj p i)
  else if gas-sp<Dh (bN p i)then(0,sp,24)
  else if bN p i=0 then(x.pop.1,sp+Dh (bN p i),x.pop.2.e)
  else if bN p i=11 then(if x.e≠0 then(0,sp+Dh (bN p i),x.e)else Hv p gas w (EA p i).toNat (sp+Dh (bN p i)) x)
  else if bN p i=12 then(if x.pop.2.e≠0 then(0,sp+Dh (bN p i),x.pop.2.e)else Hv p gas w (if x.pop.1=0 then i+1+CX (bN p i)else(EA p i).toNat) (sp+Dh (bN p i)) x.pop.2)
  else(if(DL w (bN p i).toNat (EA p i) x).e≠0 then(0,sp+Dh (bN p i),(DL w (bN p i).toNat (EA p i) x).e)
   else Hv p gas w (i+1+CX (bN p i)) (sp+Dh (bN p i)) (DL w (bN p i).toNat (EA p i) x)):=by
 have hc:=XR (bN p i);unfold Hv;rw[Ky];split;{rfl};split;{rfl};split;{rfl};split;{split;{rfl};{exact Om _ _ _ _ _ (by omega) (by omega)}};split;{split;{rfl};{exact Om _ _ _ _ _ (by omega) (by omega)}};split;{rfl};{exact Om _ _ _ _ _ (by omega) (by omega)}
theorem fB {p:List C} (hp:C.wf (.slice 1 (.int .u8)) (.slice p)) {i:Nat} (h:i+1+CX (bN p i)<=p.length) (h2:bN p i=11\/bN p i=12):0<=EA p i/\EA p i<65536:=by
 have hm:CX (bN p i)=2:=by rcases h2 with h2|h2 <;> rw[h2] <;> rfl
 have h16:=WY hp (i:=i+1) (k:=CX (bN p i)) (by omega);unfold EA;rw[hm]at h16 ⊢;exact⟨h16.1,by have:=h16.2;omega⟩
structure yO where
 i:Nat
 sp:Int
 x:St
 arr:C
theorem q5C {p:List C} (hp:C.wf (.slice 1 (.int .u8)) (.slice p)) (hl:p.length<=256) {gas:Int} (hg:0<=gas/\gas<=4096) {w:C} (hw:WOk w) (hN:5000<N) (k:KD R):
  NI N (.slice p) w (.int gas) k=k [.int (Hv p gas w 0 0 ⟨[],0⟩).1,.int (Hv p gas w 0 0 ⟨[],0⟩).2.1,.int (Hv p gas w 0 0 ⟨[],0⟩).2.2] []:=by
 rw[XF];unfold TH;have a1:¬(256:Int)<(p.length:Int):=by omega
 have a2:¬gas<0:=by omega
 have a3:¬(4096:Int)<gas:=by omega
 simp only[go_sem,AF,Ac,AX,a1,a2,a3,AG]
 refine Nz (F:=XE N k) (fun i:yO=>[.slice p,.int gas,w,.int i.i,.int i.sp,.int i.x.s.length,.int i.x.e,i.arr]) (fun _=>[]) (fun i=>(gas-i.sp).toNat)
  (fun i=>OkA i.x i.arr/\i.x.e=0/\0<=i.sp/\i.sp<=gas/\i.i<=100000) (fun i=>k [.int (Hv p gas w i.i i.sp i.x).1,.int (Hv p gas w i.i i.sp i.x).2.1,.int (Hv p gas w i.i i.sp i.x).2.2] [])
  ?_ N ⟨0,0,⟨[],0⟩,.agg []⟩ ⟨⟨by simp,by simp[bq]⟩,rfl,by dsimp only;omega,by dsimp only;omega,by dsimp only;omega⟩ (by dsimp only;omega)
 rintro⟨i,sp,x,arr⟩ ⟨hA,he,h0,h1,hi⟩ rec yc;dsimp only at hA he h0 h1 hi yc ⊢;rw[q5s];unfold XE;have b1:bn p<=256/\(0:Int)<=(i:Int)/\(i:Int)<=100000:=⟨hl,by omega,by omega⟩;simp only[go_sem,AF,Ac,AX,b1,if_true,and_self,bx];by_cases e1:Bj p i=0
 case neg=>simp[e1]
 have hb:i<p.length/\bN p i<18/\i+1+CX (bN p i)<=p.length:=by unfold Bj at e1;split at e1;{cases e1};split at e1;{cases e1};split at e1;{cases e1};omega
 have hbw:=PL hp hb.1;have hop:0<=bN p i/\bN p i<18:=by omega
 simp only[e1,hop,AG,and_self,ne_eq,not_true];have hco:(Eu.getD (bN p i).toNat .nil).get 2= .int (Dh (bN p i)):=by
  have:=q00 (bN p i).toNat (by omega)
  rwa [gy hop.1]at this
 have hcp:=XR (bN p i);have w1:IntKind.i64.wrap (gas-sp)=gas-sp:=je _ (by omega);have w2:IntKind.i64.wrap (sp+Dh (bN p i))=sp+Dh (bN p i):=je _ (by omega);have hmo:=qK (bN p i);obtain⟨g1,g2,g3⟩:=fD hp (i:=i+1) (k:=CX (bN p i)) (by omega) hmo;have hpl:=q4Q hw hA (N:=N) (by omega) (bN p i).toNat (by omega) (EB p (i+1) (CX (bN p i))) g1;rw[gy hop.1]at hpl;simp only[hco,go_sem,AF,w1,w2];generalize hc:Dh (bN p i)=c at*;by_cases e2:gas-sp<c;{simp[e2]};by_cases e3:bN p i=0;{simp[e2,e3,Du hA,go_sem]};have hw3:0<=EA p i->EA p i<65536->IntKind.i64.wrap (EB p (i+1) (CX (bN p i)))=((EA p i).toNat:Int):=fun h1 h2=>by rw[gy h1];exact je _ (by unfold EA at*;omega)
 by_cases e4:bN p i=11;{obtain⟨q1,q2⟩:=fB hp hb.2.2 (.inl e4);have:=yc ⟨(EA p i).toNat,sp+c,x,arr⟩ ⟨hA,he,by dsimp only;omega,by dsimp only;omega,by dsimp only;omega⟩ (by dsimp only;omega);simp only[hw3 q1 q2];simp only[e2,e3,e4,he,AG,not_true,not_false_iff,Int.reduceEq];simpa only[he]using this};by_cases e5:bN p i=12;{obtain⟨q1,q2⟩:=fB hp hb.2.2 (.inr e5);simp only[hw3 q1 q2,Du hA];simp only[e2,e3,e4,e5,go_sem,AF,AG,not_true,not_false_iff,Int.reduceEq,bx];by_cases e6:x.pop.2.e=0;{by_cases e7:x.pop.1=0;{have:=yc ⟨i+1+CX (bN p i),sp+c,x.pop.2,arr⟩ ⟨hA.pop,e6,by dsimp only;omega,by dsimp only;omega,by dsimp only;omega⟩ (by dsimp only;omega);simp only[e5]at this;simpa[e6,e7]using this};{have:=yc ⟨(EA p i).toNat,sp+c,x.pop.2,arr⟩ ⟨hA.pop,e6,by dsimp only;omega,by dsimp only;omega,by dsimp only;omega⟩ (by dsimp only;omega);simpa[e6,e7]using this}};{by_cases e7:x.pop.1=0 <;> simp[e6,e7]}};{obtain⟨xe,hA',hk⟩:=hpl;simp only[hk];simp only[e2,e3,e4,e5,go_sem,AF,AG,not_true,not_false_iff,Int.reduceEq,bx];have hq:EB p (i+1) (CX (bN p i))=EA p i:=rfl;rw[hq]at hA' ⊢;by_cases e6:(DL w (bN p i).toNat (EA p i) x).e=0;{have:=yc ⟨i+1+CX (bN p i),sp+c,DL w (bN p i).toNat (EA p i) x,xe⟩ ⟨hA',e6,by dsimp only;omega,by dsimp only;omega,by dsimp only;omega⟩ (by dsimp only;omega);simpa[e6]using this};{simp[e6]}}
end
def Sy {R:Type} (N:Nat) (k1:KD R) (k2:KD R):KD R->KD R:=fun k3 d3 m3=>(bif decide (bp (dk d3 3)<2)then(if 0<=bp (dk d3 3)/\bp (dk d3 3)<2 then(jn (fun d4 m4=>(bif ez (dk d4 4)then(k1 [br 12] [])else(k3 [dk d4 0,dk d4 1,dk d4 2,br (bu ca (bp (dk d4 3)+1))] []))) (fun k4=>(bif decide (bp (cd (cd (dk d3 0) 8) 1)<bp (cd (cd (dk d3 1) 0) 1))then(if 0<=bp (dk d3 3)/\bp (dk d3 3)<2 then(k4 [dk d3 0,dk d3 1,dk d3 2,dk d3 3,dw (decide (bp (cd (cd (cd (dk d3 1) 0) 3) (bo (bp (dk d3 3))))<bp (cd (dk d3 2) (bo (bp (dk d3 3))))))] [])else none)else(k4 [dk d3 0,dk d3 1,dk d3 2,dk d3 3,dw false] []))))else none)else(k2 [] []))
def Wp (a0 a1:C) (k1:KD R):Option R:=bif decide (bp (cd a0 6)=2)then(k1 [br 31] [])else(Jb N (cd a0 2) a1 (cd a0 0) (fun d1 m1=>(bif !ez (dk d1 0)then(k1 [br 20] [])else(OO N (cd a1 0) (cd a0 4) (fun d2 m2=>(bif !decide (bp (dk d2 0)=0)then(k1 [dk d2 0] [])else(jn (fun d3 m3=>(k1 [br 0] [])) (fun k2=>(BP N (Sy N k1 k2) [a0,a1,cd a0 5,br 0] [])))))))))
def LY:=lid "" (@Wp R N)
theorem fV {R N a0 a1 k}:@LY R N a0 a1 k=Wp N a0 a1 k:=by unfold LY;rw[Ao]
def ak:OvG R:=BW [AQ,Ch] (De (LY N)) (Cf (cg ca))
theorem Wo:okX 129 (@ak R N):=Bf (AR (W5 N) <| AR (tB N) <| Aq) N [(129,[(0,[(2,5),(3,5)])])] [(129,[([1,0,1,1,1],(Bh [])),
  ([4,1,0,1,1,1],(Bv [2,3,29] [(30,.d (.int .i64))])),
  ([0,1,4,0,1,1,5,4,1,0,1,1,1],(Bv [2,3,29,30] [(49,.d .bool)])),
  ([9],(Bh [(4,.d (.int .i64))]))])] (fun _ _=>fV)
def aY {R:Type} (N:Nat) (a0:C) (k1:KD R):Option R:=bif di (bn (bq (cd a0 4))) (bn (bq (cd a0 4)))then(k1 [fh [cd a0 0,cd a0 1,cd a0 2,cd a0 3,cz (bq (cd a0 4))]] [])else none
def MJ:=lid "" (@aY R N)
theorem tE {R N a0 k}:@MJ R N a0 k=aY N a0 k:=by unfold MJ;rw[Ao]
def q4J:OvG R:=BW [Bg] (DR (MJ N)) (Cf Bg)
theorem aX:okX 58 (@q4J R N):=Bf (AR (gJ N) <| Aq) N [] [(58,[([9],⟨[],[(2,.as (.ptr (.l 2) [] Bg))],[],[(.l 2,.box (.d Bg))],[],[]⟩)])] (fun _ _=>tE)
def Wl (a0:C) (k1:KD R):Option R:=MJ N (cd a0 8) (fun d1 m1=>(bif di (bn (bq (cd a0 3))) (bn (bq (cd a0 3)))then(k1 [fh [cd a0 0,cd a0 1,cd a0 2,cz (bq (cd a0 3)),cd a0 4,cd a0 5,cd a0 6,cd a0 7,dk d1 0]] [])else none))
def LW:=lid "" (@Wl R N)
theorem fT {R N a0 k}:@LW R N a0 k=Wl N a0 k:=by unfold LW;rw[Ao]
def ai:OvG R:=BW [AQ] (DR (LW N)) (Cf AQ)
theorem Wk:okX 52 (@ai R N):=Bf (AR (TF N) <| AR (aX N) <| Aq) N [(52,[(1,[(8,7)])])] [(52,[([9],⟨[],[(2,.as (.ptr (.l 2) [] AQ))],[],[(.l 2,.box (.d AQ))],[],[]⟩)])] (fun _ _=>fT)
def Cg:C:=fh [AO (cg dj),AO (dc 2 (cg ca)),fh [fh [fh (dh 32 (br 0)),fh (dh 32 (br 0))],br 0],cz [],AO (dc 2 (cg bw)),AO (dc 2 (cg bw)),AO (cg ca),AO (cg bw),fh [AO (cg dj),AO (cg bw),AO (dc 2 (cg bw)),AO (dc 2 (cg bw)),cz []]]
def Wn (a0 a1:C) (k1:KD R):Option R:=LW N a0 (fun d1 m1=>(jn (fun d2 m2=>(k1 [dk d2 0] [])) (fun k2=>(bif decide (bp (cd (cd (dk d1 0) 8) 1)<bp (cd (cd a1 0) 1))then(MJ N (cd a1 0) (fun d2 m2=>(k2 [dt (dk d1 0) 8 (dk d2 0),Cg] [])))else(k2 [dk d1 0,Cg] [])))))
def LX:=lid "" (@Wn R N)
theorem fU {R N a0 a1 k}:@LX R N a0 a1 k=Wn N a0 a1 k:=by unfold LX;rw[Ao]
def aj:OvG R:=BW [AQ,Ch] (De (LX N)) (Cf AQ)
theorem Wm:okX 130 (@aj R N):=Bf (AR (Wk N) <| AR (aX N) <| Aq) N [(130,[(0,[(3,5)])])] [(130,[([1,0,1,1],(Bv [2,4] [])),
  ([9],⟨[],[(4,.as (.ptr (.l 4) [] AQ))],[],[(.l 4,.box (.d AQ))],[],[]⟩)])] (fun _ _=>fU)
def Wq (a0:C) (k1:KD R):Option R:=NI N (cd a0 3) (fh [cz [cd (cd a0 4) (bo 0),cd (cd a0 4) (bo 1),cd (cd a0 8) 1],cz [],AO (cg bw)]) (br 200) (fun d1 m1=>(bif !decide (bp (dk d1 2)=0)then(k1 [br 5] [])else(k1 [br (if 1<if 50<bp (dk d1 0)then 50 else bp (dk d1 0)then if 50<bp (dk d1 0)then 50 else bp (dk d1 0)else 1)] [])))
def PN:=lid "" (@Wq R N)
theorem fW {R N a0 k}:@PN R N a0 k=Wq N a0 k:=by unfold PN;rw[Ao]
def al:OvG R:=BW [AQ] (DR (PN N)) (Cf (cg bw))
theorem ao:okX 131 (@al R N):=Bf (AR (u2 N) <| Aq) N [(131,[(0,[(1,5)])])] [(131,[([9],(Bh [(2,.d (.int .u64))]))])] (fun _ _=>fW)
def Wg (a0 a1 a2:C) (k1:KD R):Option R:=bif decide (bp (cd a0 6)=1)then(k1 [br 3,Cg] [])else(LY N a0 a1 (fun d1 m1=>(bif !decide (bp (dk d1 0)=0)then(k1 [dk d1 0,Cg] [])else(LX N a0 a1 (fun d2 m2=>(PN N (dk d2 0) (fun d3 m3=>(JF N a2 (dk d3 0) (fun d4 m4=>(bif !decide (bp (dk d4 1)=0)then(k1 [dk d4 1,Cg] [])else(k1 [br 0,dt (dt (dk d2 0) 6 (br 1)) 7 (dk d4 0)] [])))))))))))
def NB:=lid "" (@Wg R N)
theorem fO {R N a0 a1 a2 k}:@NB R N a0 a1 a2 k=Wg N a0 a1 a2 k:=by unfold NB;rw[Ao]
def zX:OvG R:=BW [AQ,Ch,.int .u64] (Io (NB N)) fun a K d1 m1=>K (rj [V.d AQ (dk d1 1),V.d (cg ca) (dk d1 0)]) []
theorem zY:okX 105 (@zX R N):=Bf (AR (Ul N) <| AR (Wo N) <| AR (Wm N) <| AR (ao N) <| Aq) N [(105,[(0,[(4,5)])])] [(105,[([9],⟨[],[(6,.as (.ptr (.l 6) [] AQ)),(7,.d (.int .i64))],[],[(.l 6,.box (.d AQ))],[],[]⟩)])] (fun _ _=>fO)
section
variable {R:Type} {N:Nat}
def SOk (s:C):Prop:=s= .agg [s.get 0,s.get 1,s.get 2,s.get 3,.slice (BO s)]
def mkB (id who rts:C) (wm:List C) (put wj ph un wg:C):C:=.agg [id,who,rts,.slice wm,put,wj,ph,un,wg]
theorem aW {s:C} (h:SOk s) (k:KD R):MJ N s k=k [s] []:=by rw[tE];unfold aY;simp only[cm,cond_true];exact congrArg (fun x=>k [x] []) h.symm
section
variable {id who rts:C} {wm:List C} {put wj ph un wg:C}
theorem Ws (h:SOk wg) (k:KD R):LW N (mkB id who rts wm put wj ph un wg) k=k [mkB id who rts wm put wj ph un wg] []:=by rw[fT];unfold Wl mkB;simp only[go_sem,aW h,Ac,cm,cond_true]
def VN (wg wj s:C) (_:Nat) (_:Unit) (side:Nat):Unit ⊕ Int:=if(wg.get 1).toInt<(s.get 1).toInt/\((s.get 3).get side).toInt<(wj.get side).toInt then .inr 12 else .inl ()
def GU (ph put wj wg d:C) (w:Bool):Int:=
 if ph.toInt=2 then 31 else if w=false then 20 else if JM (d.get 0) put≠0 then JM (d.get 0) put else okE (CP (VN wg wj (d.get 0)) 0 () [0,1])
theorem look_eq {d:C} {w:Bool} (hW:∀k:KD R,Jb N rts d id k=k [.bool w] []) (hN:2199023255552<N) (k:KD R):
  LY N (mkB id who rts wm put wj ph un wg) d k=k [.int (GU ph put wj wg d w)] []:=by
 rw[fV];unfold Wp GU mkB;simp only[go_sem,AF,AX,hW,wD (d.get 0) put hN];by_cases h1:ph.toInt=2;{simp[h1]};cases w;{simp[h1]};by_cases h2:JM (d.get 0) put=0
 case neg=>simp[h1,h2]
 simp only[h1,h2,AG,ne_eq,not_true,Bool.true_eq_false];refine(JD (F:=Sy N k _) (fun i (_:Unit)=>[.agg [id,who,rts,.slice wm,put,wj,ph,un,wg],d,wj,.int i]) (fun _ _=>[]) ([0,1]:List Nat) (VN wg wj (d.get 0)) (fun _=>k [.int 0] []) (fun e=>k [.int e] []) (s0:=()) ?_ ?_ (show 2<N by omega)).trans ?_
 ·intro i _ c hx hi rec;have hi2:i<2:=hi;have h1:(i:Int)<2:=by omega
  have hc:c=i:=by
   have:i=0\/i=1:=by omega
   rcases this with rfl|rfl <;> simp at hx <;> exact hx.symm
  subst hc;unfold Sy VN;simp only[go_sem,AF,AX,h1,CZ (show c<4611686018427387904 by omega),db,and_self,if_true];by_cases h3:(wg.get 1).toInt<((d.get 0).get 1).toInt;{by_cases h4:(((d.get 0).get 3).get c).toInt<(wj.get c).toInt <;> simp[h3,h4]};{simp[h3]}
 ·intro _ rec;unfold Sy;simp[go_sem,AF]
 ·unfold FX okE;cases CP (VN wg wj (d.get 0)) 0 () [0,1] <;> rfl
def Cq (wg d:C):C:=if(wg.get 1).toInt<((d.get 0).get 1).toInt then d.get 0 else wg
theorem Wc {d:C} (h:SOk wg) (hd:SOk (d.get 0)) (k:KD R):LX N (mkB id who rts wm put wj ph un wg) d k=k [mkB id who rts wm put wj ph un (Cq wg d)] []:=by rw[fU];unfold Wn Cq;rw[Ws h];unfold mkB;simp only[go_sem,AF,aW hd];by_cases h3:(wg.get 1).toInt<((d.get 0).get 1).toInt <;> simp[h3]
def JL (p:List C) (w:C) (gas:Int):Int × Int × Int:=if 256<p.length\/gas<0\/4096<gas then(0,0,1)else Hv p gas w 0 0 ⟨[],0⟩
theorem run_eq {p:List C} (hp:C.wf (.slice 1 (.int .u8)) (.slice p)) {gas:Int} {w:C} (hw:WOk w) (hN:5000<N) (k:KD R):
  NI N (.slice p) w (.int gas) k=k [.int (JL p w gas).1,.int (JL p w gas).2.1,.int (JL p w gas).2.2] []:=by
 unfold JL;by_cases h:256<p.length\/gas<0\/4096<gas
 ·rw[if_pos h,XF];unfold TH;simp only[go_sem,AF,Ac,AX];by_cases a1:(256:Int)<(p.length:Int);{simp[a1]};by_cases a2:gas<0;{simp[a1,a2]};have a3:(4096:Int)<gas:=by omega
  simp[a1,a2,a3]
 ·rw[if_neg h];exact q5C hp (by omega) (by omega) hw hN k
def JS (put wg:C):C:=.agg [.slice [put.get 0,put.get 1,wg.get 1],.slice [],.int 0]
def Ox (wm:List C) (put wg:C):Int:=
 if(JL wm (JS put wg) 200).2.2≠0 then 5 else
  if 1<(if 50<(JL wm (JS put wg) 200).1 then 50 else(JL wm (JS put wg) 200).1)then(if 50<(JL wm (JS put wg) 200).1 then 50 else(JL wm (JS put wg) 200).1)else 1
structure Sg (put wg:C):Prop where
 p0:put.get 0= .int (put.get 0).toInt
 p1:put.get 1= .int (put.get 1).toInt
 r:wg.get 1= .int (wg.get 1).toInt
theorem q7p (h:Sg put wg):WOk (JS put wg):=by refine⟨?_,by simp[JS,cd,bq],by simp[JS,cd,bq],rfl⟩;intro c hc;have hc:c∈[put.get 0,put.get 1,wg.get 1]:=hc;simp only[List.mem_cons,List.not_mem_nil,or_false]at hc;rcases hc with rfl|rfl|rfl;{exact h.p0};{exact h.p1};{exact h.r}
theorem q7g (hr:C.wf (.slice 1 (.int .u8)) (.slice wm)) (h:Sg put wg) (hN:5000<N) (k:KD R):PN N (mkB id who rts wm put wj ph un wg) k=k [.int (Ox wm put wg)] []:=by rw[fW];unfold Wq mkB Ox;have hw:fh [cz [put.get (bo 0),put.get (bo 1),wg.get 1],cz [],AO (cg bw)]=JS put wg:=rfl;simp only[q07,lX,q08,hw,run_eq hr (q7p h) hN];simp only[go_sem,AF];by_cases h1:(JL wm (JS put wg) 200).2.2=0;{simp[h1];rfl};{simp[h1]}
def zB:C:=.agg [.int 0,zz,.agg [.agg [.agg (dh 32 (.int 0)),.agg (dh 32 (.int 0))],.int 0],.slice [],zz,zz,.int 0,.int 0,.agg [.int 0,.int 0,zz,zz,.slice []]]
theorem LK:Cg=zB:=rfl
def KX (id who rts:C) (wm:List C) (put wj ph un wg d:C) (w:Bool) (wh:Int):Int × C:=
 if ph.toInt=1 then(3,zB)else if GU ph put wj wg d w≠0 then(GU ph put wj wg d w,zB)else
  if(Bp wh (Ox wm put (Cq wg d))).2≠0 then((Bp wh (Ox wm put (Cq wg d))).2,zB)else
   (0,mkB id who rts wm put wj (.int 1) (.int (Bp wh (Ox wm put (Cq wg d))).1) (Cq wg d))
theorem q0W {d:C} {w:Bool} (hW:∀k:KD R,Jb N rts d id k=k [.bool w] []) (hr:C.wf (.slice 1 (.int .u8)) (.slice wm)) (h:SOk wg) (hd:SOk (d.get 0)) (hi:Sg put wg) (hi2:(d.get 0).get 1= .int ((d.get 0).get 1).toInt) (hN:2199023255552<N) (wh:C) (k:KD R):
  NB N (mkB id who rts wm put wj ph un wg) d wh k=k [.int (KX id who rts wm put wj ph un wg d w wh.toInt).1,(KX id who rts wm put wj ph un wg d w wh.toInt).2] []:=by
 have hi3:Sg put (Cq wg d):=⟨hi.p0,hi.p1,by unfold Cq;split;exact hi2;exact hi.r⟩;rw[fO];unfold Wg KX;rw[LK];have h6:(mkB id who rts wm put wj ph un wg).get 6=ph:=rfl;have d0:∀(c:C) (l:List C),dk (c::l) 0=c:=fun _ _=>rfl;simp only[h6,look_eq hW hN,Wc h hd,d0,q7g hr hi3 (show 5000<N by omega),add_eq];by_cases h1:ph.toInt=1;{simp[h1]};by_cases h2:GU ph put wj wg d w=0
 case neg=>simp[h1,h2,go_sem,AF]
 by_cases h3:(Bp wh.toInt (Ox wm put (Cq wg d))).2=0 <;> simp[h1,h2,h3,go_sem,AF,mkB]
end
end
def q3W:List Sh:=[.as (.ptr (.g (.l 1)) [] Bc),.d (.arr 32 (.int .u8))]
def q3Z:List (Key × OSh):=[(.l 1,.box (.agg Bc [.as (.mp (.g (.l 2)))])),(.l 2,.map (.arr 32 (.int .u8)) AB)]
def Zt {R:Type} (N:Nat) (a0 a1 b0:C) (m0:Es) (k1:KD R):Option R:=bif DY AB (dE AB m0)then(bif Hd (dE AB m0) a0 then(k1 [cd (Ji (dE AB m0) a0) 1,dw true] [])else(k1 [br 0,dw false] []))else none
def RX:=lid "" (@Zt R N)
theorem qW {R N a0 a1 b0 m0 k}:@RX R N a0 a1 b0 m0 k=Zt N a0 a1 b0 m0 k:=by unfold RX;rw[Ao]
def q3X:OvG R:=Ca q3W q3Z (fun ds ms=>RX N (dk ds 0) (dk ds 1) (dk ds 2) (dm ms 0)) fun ds ms K d1 m1=>K (rj [V.d (cg bw) (dk d1 0),V.d Ty.bool (dw (ez (dk d1 1)))]) []
theorem q3Y:okX 196 (@q3X R N):=Cc Aq N [(196,[(0,[(3,5)])])] [(196,[([9],⟨[],[(4,.d (.int .u64)),(5,.d .bool)],[],[],[.g (.l 1),.g (.l 2)],[]⟩)])] (fun _ _ _=>qW)
def q3K:List Sh:=[.as (.ptr (.g (.l 1)) [] Bc),.d (.arr 32 (.int .u8)),.d (.int .u64)]
def q3N:List (Key × OSh):=[(.l 1,.box (.agg Bc [.as (.mp (.g (.l 2)))])),(.l 2,.map (.arr 32 (.int .u8)) AB)]
def Zq (a0 a1 a2 b0:C) (m0:Es) (k1:KD R):Option R:=if AW AB (dE AB m0)=true then(RX N a0 gm gm (unE (dE AB m0)) (fun d1 m1=>(jn (fun d2 m2=>(k1 [dw (ez (dk d2 0))] [])) (fun k2=>(bif ez (dk d1 1)then(k2 [dw (decide (bp (dk d1 0)<=bp a1))] [])else(k2 [dw false] []))))))else none
def RU:=lid "" (@Zq R N)
theorem qU {R N a0 a1 a2 b0 m0 k}:@RU R N a0 a1 a2 b0 m0 k=Zq N a0 a1 a2 b0 m0 k:=by unfold RU;rw[Ao]
def q3L:OvG R:=Ca q3K q3N (fun ds ms=>RU N (dk ds 0) (dk ds 1) (dk ds 2) (dk ds 3) (dm ms 0)) fun ds ms K d1 m1=>K (V.d Ty.bool (dw (ez (dk d1 0)))) []
theorem q3M:okX 175 (@q3L R N):=Cc (AR (q3Y N) <| Aq) N [(175,[(0,[(4,5)])])] [(175,[([0,1,1],⟨[0],[(6,.d .bool)],[],[],[.g (.l 1),.g (.l 2)],[]⟩),
  ([9],⟨[],[(6,.d .bool)],[],[],[.g (.l 1),.g (.l 2)],[]⟩)])] (fun _ _ _=>qU)
def q3O:List Sh:=[.as (.ptr (.g (.l 1)) [] Bc),.d CV,.d (.int .u64)]
def q3R:List (Key × OSh):=[(.l 1,.box (.agg Bc [.as (.mp (.g (.l 2)))])),(.l 2,.map (.arr 32 (.int .u8)) AB)]
def Zr (a0 a1 b0:C) (m0:Es) (k1:KD R):Option R:=if AW AB (dE AB m0)=true then(RU N (cd a0 3) (cd a0 4) gm gm (unE (dE AB m0)) (fun d1 m1=>(bif ez (dk d1 0)then(k1 [br 1] [])else(bif decide (bp (cd a0 4)<bp a1)then(k1 [br 2] [])else(k1 [br 0] [])))))else none
def RV:=lid "" (@Zr R N)
theorem qV {R N a0 a1 b0 m0 k}:@RV R N a0 a1 b0 m0 k=Zr N a0 a1 b0 m0 k:=by unfold RV;rw[Ao]
def q3P:OvG R:=Ca q3O q3R (fun ds ms=>RV N (dk ds 0) (dk ds 1) (dk ds 2) (dm ms 0)) fun ds ms K d1 m1=>K (V.d (cg ca) (dk d1 0)) []
theorem q3Q:okX 160 (@q3P R N):=Cc (AR (q3M N) <| Aq) N [(160,[(0,[(4,5)])])] [(160,[([9],⟨[],[(6,.d (.int .i64))],[],[],[.g (.l 1),.g (.l 2)],[]⟩)])] (fun _ _ _=>qV)
def q3G:List Sh:=[.as (.ptr (.g (.l 1)) [] Bc),.d (.int .u64),.d (.slice 64 CV)]
def q3J:List (Key × OSh):=[(.l 1,.box (.agg Bc [.as (.mp (.g (.l 2)))])),(.l 2,.map (.arr 32 (.int .u8)) AB)]
def Uu (m0:Es) (k2:KD R):KD R->KD R:=fun k3 d1 m1=>(bif decide (bp (dk d1 4)<bp (dk d1 2))then(if 0<=bp (dk d1 4)/\bp (dk d1 4)<(↑(bn (bq (dk d1 1))):Int)then(if AW AB (dE AB m0)=true then(RV N (dr (bq (dk d1 1)) (bo (bp (dk d1 4))) gm) (dk d1 0) gm (unE (dE AB m0)) (fun d2 m2=>(bif di (bn (bq (dk d1 3))) (bn (bq (dk d1 3)))then(if(bn (bq (dk d1 3))+1)*8<=140737488355328/\bn (bq (dk d1 3))+1<=9223372036854775807 then(bif di (bn (bq (dk d1 3))+1) (bn (bq (dk d1 3)++[dk d2 0]))then(k3 [dk d1 0,dk d1 1,dk d1 2,cz (bq (dk d1 3)++[dk d2 0]),br (bu ca (bp (dk d1 4)+1))] [])else none)else none)else none)))else none)else none)else(bif di (bn (bq (dk d1 3))) (bn (bq (dk d1 3)))then(k2 [cz (bq (dk d1 3))] [])else none))
def Zp (a0 a1 b0:C) (m0:Es) (k1:KD R):Option R:=jn (fun d1 m1=>(bif di (bn (bq (dk d1 0))) (bn (bq (dk d1 0)))then(k1 [cz (bq (dk d1 0))] [])else none)) (fun k2=>(BP N (Uu N m0 k2) [a0,a1,br (↑(bn (bq a1)):Int),cz [],br 0] []))
def RT:=lid "" (@Zp R N)
theorem qT {R N a0 a1 b0 m0 k}:@RT R N a0 a1 b0 m0 k=Zp N a0 a1 b0 m0 k:=by unfold RT;rw[Ao]
def q3H:OvG R:=Ca q3G q3J (fun ds ms=>RT N (dk ds 0) (dk ds 1) (dk ds 2) (dm ms 0)) fun ds ms K d1 m1=>K (V.ts 8 (cg ca) (bq (dk d1 0))) []
theorem q3I:okX 146 (@q3H R N):=Cc (AR (q3Q N) <| Aq) N [] [(146,[([1,0,1,1],⟨[0],[(7,.sl 8 (.int .i64) 5007)],[],[],[.g (.l 1),.g (.l 2)],[]⟩),
  ([4,1,0,1,1],⟨[0,1,10,11],[(7,.sl 8 (.int .i64) 5007),(12,.d (.int .i64))],[],[],[.g (.l 1),.g (.l 2)],[]⟩),
  ([9],⟨[],[(6,.sl 8 (.int .i64) 5006)],[],[],[.g (.l 1),.g (.l 2)],[]⟩)])] (fun _ _ _=>qT) fun ds ms K=>(show _=jn (fun d1 m1=>(bif di (bn (bq (dk d1 0))) (bn (bq (dk d1 0)))then
  (K (V.ts 8 (cg ca) (bq (dk d1 0))) [])
 else
  none)) _ by kernel_rfl).trans (congrArg (fun k=>jn k _) (funext fun _=>funext fun _=>by simp only[cm,cond_true]))
def zT:List Sh:=[.d AQ,.as (.ptr (.g (.l 1)) [] Bc),.d (.int .u64)]
def zW:List (Key × OSh):=[(.l 1,.box (.agg Bc [.as (.mp (.g (.l 2)))])),(.l 2,.map (.arr 32 (.int .u8)) AB)]
def Sx {R:Type} (N:Nat) (k1:KD R) (k2:KD R):KD R->KD R:=fun k3 d2 m2=>(bif decide (bp (dk d2 3)<bp (dk d2 1))then(if 0<=bp (dk d2 3)/\bp (dk d2 3)<(↑(bn (bq (dk d2 0))):Int)then(bif decide (bp (dr (bq (dk d2 0)) (bo (bp (dk d2 3))) gm)=0)then(k1 [br 30,Cg,AO (dc 2 (cg bw))] [])else(bif di (bn (bq (dk d2 2))) (bn (bq (dk d2 2)))then(if(bn (bq (dk d2 2))+1)*1<=140737488355328/\bn (bq (dk d2 2))+1<=9223372036854775807 then(bif di (bn (bq (dk d2 2))+1) (bn (bq (dk d2 2)++[dw (decide (bp (dr (bq (dk d2 0)) (bo (bp (dk d2 3))) gm)=1))]))then(k3 [dk d2 0,dk d2 1,cz (bq (dk d2 2)++[dw (decide (bp (dr (bq (dk d2 0)) (bo (bp (dk d2 3))) gm)=1))]),br (bu ca (bp (dk d2 3)+1)),dk d2 4,dk d2 5,dk d2 6] [])else none)else none)else none))else none)else(bif di (bn (bq (dk d2 2))) (bn (bq (dk d2 2)))then(k2 [cz (bq (dk d2 2)),dk d2 4,dk d2 5,dk d2 6] [])else none))
def Wf (a0 a1 b0:C) (m0:Es) (k1:KD R):Option R:=bif decide (bp (cd a0 6)=0)then(k1 [br 3,Cg,AO (dc 2 (cg bw))] [])else(bif decide (bp (cd a0 6)=2)then(k1 [br 31,Cg,AO (dc 2 (cg bw))] [])else(bif decide (bp a1<bp (cd a0 7))then(k1 [br 30,Cg,AO (dc 2 (cg bw))] [])else(if AW AB (dE AB m0)=true then(RT N a1 (cd (cd a0 8) 4) gm (unE (dE AB m0)) (fun d1 m1=>(jn (fun d2 m2=>(Rk N (cd (dk d2 1) 8) (cd (dk d2 1) 4) (cd (dk d2 1) 5) (cz (bq (dk d2 0))) (fun d3 m3=>(bif !decide (bp (dk d3 0)=0)then(k1 [dk d3 0,Cg,AO (dc 2 (cg bw))] [])else(LW N (dk d2 1) (fun d4 m4=>(k1 [br 0,dt (dk d4 0) 6 (br 2),dk d3 1] []))))))) (fun k2=>(BP N (Sx N k1 k2) [cz (bq (dk d1 0)),br (↑(bn (bq (dk d1 0))):Int),cz [],br 0,a0,Cg,AO (dc 2 (cg bw))] [])))))else none)))
def NA:=lid "" (@Wf R N)
theorem fM {R N a0 a1 b0 m0 k}:@NA R N a0 a1 b0 m0 k=Wf N a0 a1 b0 m0 k:=by unfold NA;rw[Ao]
def zU:OvG R:=Ca zT zW (fun ds ms=>NA N (dk ds 0) (dk ds 1) (dk ds 2) (dm ms 0)) fun ds ms K d1 m1=>K (rj [V.d AQ (dk d1 1),V.d (dc 2 (cg bw)) (dk d1 2),V.d (cg ca) (dk d1 0)]) []
theorem zV:okX 128 (@zU R N):=Cc (AR (Wk N) <| AR (q3I N) <| AR (q4I N) <| Aq) N [(128,[(20,[(12,6),(3,6)])])] [(128,[([1,0,1,1,1],⟨[1,3,6,7],[(9,.sl 1 .bool 5009)],[],[],[.g (.l 1),.g (.l 2)],[]⟩),
  ([4,1,0,1,1,1],⟨[1,3,6,7,38,39],[(9,.sl 1 .bool 5009),(40,.d (.int .i64))],[],[],[.g (.l 1),.g (.l 2)],[]⟩),
  ([9],⟨[],[(6,.as (.ptr (.l 6) [] AQ)),(7,.as (.ptr (.l 7) [] (.arr 2 (.int .u64)))),(8,.d (.int .i64))],[],[(.l 6,.box (.d AQ)),(.l 7,.box (.d (.arr 2 (.int .u64))))],[.g (.l 1),.g (.l 2)],[]⟩)])] (fun _ _ _=>fM)
def Wh (a0 a1 a2:C) (k1:KD R):Option R:=jn (fun d1 m1=>(bif ez (dk d1 2)then(k1 [br 1,Cg] [])else(bif decide (bp (cd (dk d1 3) 6)=2)then(k1 [br 31,Cg] [])else(LW N (dk d1 3) (fun d2 m2=>(if 0<=bp (dk d1 0)/\bp (dk d1 0)<2 then(JF N (cd (cd (dk d2 0) 4) (bo (bp (dk d1 0)))) (dk d1 1) (fun d3 m3=>(if 0<=bp (dk d1 0)/\bp (dk d1 0)<2 then(bif !decide (bp (dk d3 1)=0)then(k1 [dk d3 1,Cg] [])else(JF N (br 0) (cd (cd (dt (dk d2 0) 4 (dt (cd (dk d2 0) 4) (bo (bp (dk d1 0))) (dk d3 0))) 4) 0) (fun d4 m4=>(bif !decide (bp (dk d4 1)=0)then(bif !decide (bp (dk d4 1)=0)then(k1 [dk d4 1,Cg] [])else(k1 [br 0,dt (dk d2 0) 4 (dt (cd (dk d2 0) 4) (bo (bp (dk d1 0))) (dk d3 0))] []))else(JF N (dk d4 0) (cd (cd (dt (dk d2 0) 4 (dt (cd (dk d2 0) 4) (bo (bp (dk d1 0))) (dk d3 0))) 4) 1) (fun d5 m5=>(bif !decide (bp (dk d5 1)=0)then(bif !decide (bp (dk d5 1)=0)then(k1 [dk d5 1,Cg] [])else(k1 [br 0,dt (dk d2 0) 4 (dt (cd (dk d2 0) 4) (bo (bp (dk d1 0))) (dk d3 0))] []))else(k1 [br 0,dt (dk d2 0) 4 (dt (cd (dk d2 0) 4) (bo (bp (dk d1 0))) (dk d3 0))] []))))))))else none)))else none)))))) (fun k2=>(bif !decide (bp a1=0)then(bif !decide (bp a1=1)then(k2 [a1,a2,dw true,a0,Cg] [])else(k2 [a1,a2,dw (decide (bp a2=0)),a0,Cg] []))else(k2 [a1,a2,dw (decide (bp a2=0)),a0,Cg] [])))
def KP:=lid "" (@Wh R N)
theorem fQ {R N a0 a1 a2 k}:@KP R N a0 a1 a2 k=Wh N a0 a1 a2 k:=by unfold KP;rw[Ao]
def zZ:OvG R:=BW [AQ,.int .i64,.int .u64] (Io (KP N)) fun a K d1 m1=>K (rj [V.d AQ (dk d1 1),V.d (cg ca) (dk d1 0)]) []
theorem fP:okX 101 (@zZ R N):=Bf (AR (Ul N) <| AR (Wk N) <| Aq) N [] [(101,[([0,4,0,1],(Bv [1,2,3,6] [(9,.d .bool)])),
  ([9],⟨[],[(6,.as (.ptr (.l 6) [] AQ)),(7,.d (.int .i64))],[],[(.l 6,.box (.d AQ))],[],[]⟩)])] (fun _ _=>fQ)
section
variable {R:Type} {N:Nat}
def ofP (m:Es) (c:C) (wh:Int):Int:=
 if DE m (c.get 3)=true/\((getM m (c.get 3)).get 1).toInt<=(c.get 4).toInt then 1 else if(c.get 4).toInt<wh then 2 else 0
theorem q7n (h:C) (a1 b0:C) (m:Es) (k:KD R):RX N h a1 b0 m k=k [if DE m h=true then(getM m h).get 1 else .int 0,.bool (DE m h)] []:=by rw[qW];unfold Zt;simp only[go_sem];cases DE m h <;> rfl
theorem q1t (h x:C) (a1 b0:C) (m:Es) (k:KD R):RU N h x a1 b0 m k=k [.bool (DE m h&&decide (((getM m h).get 1).toInt<=x.toInt))] []:=by rw[qU];unfold Zq;simp only[go_sem,q7n,AX];cases DE m h <;> simp
theorem of_eq (c wh:C) (b0:C) (m:Es) (k:KD R):RV N c wh b0 m k=k [.int (ofP m c wh.toInt)] []:=by rw[qV];unfold Zr ofP;simp only[go_sem,q1t,AX];cases h:DE m (c.get 3);{by_cases h2:(c.get 4).toInt<wh.toInt <;> simp[h2]};{by_cases h1:((getM m (c.get 3)).get 1).toInt<=(c.get 4).toInt;{simp[h1]};{by_cases h2:(c.get 4).toInt<wh.toInt <;> simp[h1,h2]}}
theorem all_eq (wh:C) (l:C) (b0:C) (m:Es) (hl:l.elems.length<1099511627776) (hN:2199023255552<N) (k:KD R):RT N wh l b0 m k=k [.slice (l.elems.map fun c=>.int (ofP m c wh.toInt))] []:=by
 rw[qT];unfold Zp;rw[AY];refine Km (F:=Uu N m _) (fun i=>[wh,l,.int l.elems.length,.slice ((l.elems.take i).map fun c=>.int (ofP m c wh.toInt)),.int i]) (fun _=>[]) l.elems.length _ ?_ ?_ (by omega)
 ·intro i hi rec;have hc:l.elems[i]? =some l.elems[i]:=cr hi;have h1:(i:Int)<(l.elems.length:Int):=by omega
  have hlen:(l.elems.take i).length=i:=by rw[List.length_take];omega
  have h3:(i+1)*8<=140737488355328/\i+1<=9223372036854775807:=by omega
  have h4:ed (i+1) l.elems=ed i l.elems++[l.elems[i]]:=by rw[qm,hc];rfl
  unfold Uu;simp only[go_sem,AF,Ac,h1,EW hc,CZ (show i<4611686018427387904 by omega),db,and_self,AG,h3,cm,of_eq,lf,da,dp,dx,hlen,h4,mr,List.map_cons,List.map_nil]
 ·intro rec;unfold Uu;simp only[go_sem,AF,Ac,fw,AG,cm,ej]
section
variable {id who rts:C} {wm:List C} {put wj ph un wg:C}
def Kf (m:Es) (wh:Int) (l:List C):Bool:=l.any fun c=>decide (ofP m c wh=0)
def Jd (m:Es) (wh:Int) (l:List C):List C:=l.map fun c=>.bool (decide (ofP m c wh=1))
def Pu (m:Es) (wh:Int) (_:Nat) (acc:List C) (c:C):List C ⊕ Unit:=if ofP m c wh=0 then .inr ()else .inl (acc++[.bool (decide (ofP m c wh=1))])
theorem jE (m:Es) (wh:Int):∀(l:List C) (i:Nat) (acc:List C),CP (Pu m wh) i acc l=if Kf m wh l=true then .inr ()else .inl (acc++Jd m wh l)
 | [],_,acc=>by simp[CP,Kf,Jd]
 |c::l,i,acc=>by
  simp only[CP,Pu];by_cases h:ofP m c wh=0;{simp[h,Kf]}
  ·have ih:=jE m wh l (i+1) (acc++[.bool (decide (ofP m c wh=1))]);simp only[h,if_false,ih];have e:Kf m wh (c::l)=Kf m wh l:=by simp[Kf,h]
   rw[e];simp[Jd]
def HW (m:Es) (id who rts:C) (wm:List C) (put wj ph un wg:C) (wh:Int):Int × C × C:=
 if ph.toInt=0 then(3,zB,zz)else if ph.toInt=2 then(31,zB,zz)else if wh<un.toInt then(30,zB,zz)else
  if Kf m wh (BO wg)=true then(30,zB,zz)else
   if(Gy wg put wj (Jd m wh (BO wg))).1≠0 then((Gy wg put wj (Jd m wh (BO wg))).1,zB,zz)else
    (0,mkB id who rts wm put wj (.int 2) un wg,(Gy wg put wj (Jd m wh (BO wg))).2)
theorem q0L (h:SOk wg) (hl:(BO wg).length<1099511627776) (m:Es) (wh b0:C) (hN:2199023255552<N) (k:KD R):
  NA N (mkB id who rts wm put wj ph un wg) wh b0 m k=
   k [.int (HW m id who rts wm put wj ph un wg wh.toInt).1,(HW m id who rts wm put wj ph un wg wh.toInt).2.1,(HW m id who rts wm put wj ph un wg wh.toInt).2.2] []:=by
 have hz:AO (dc 2 (cg bw))=zz:=rfl;have h6:(mkB id who rts wm put wj ph un wg).get 6=ph:=rfl;have h7:(mkB id who rts wm put wj ph un wg).get 7=un:=rfl;have h8:(mkB id who rts wm put wj ph un wg).get 8=wg:=rfl;have h4:(mkB id who rts wm put wj ph un wg).get 4=put:=rfl;have h5:(mkB id who rts wm put wj ph un wg).get 5=wj:=rfl;rw[fM];unfold Wf HW;rw[LK,hz];simp only[h6,h7,h8];by_cases a1:ph.toInt=0;{simp[a1]};by_cases a2:ph.toInt=2;{simp[a1,a2]};by_cases a3:wh.toInt<un.toInt;{simp[a1,a2,a3]};have hbl:(wg.get 4).elems.length=(BO wg).length:=rfl;simp only[a1,a2,a3,AG,Dv,Aj,Al,all_eq wh (wg.get 4) gm m hl hN,AY,AI,Ac,lf,hbl]
 refine(ZQ (N:=N) (F:=Sx N k _) (fun i (acc:List C)=>[.slice ((BO wg).map fun c=>.int (ofP m c wh.toInt)),.int (BO wg).length,.slice acc,.int i,mkB id who rts wm put wj ph un wg,zB,zz]) (fun _ _=>[])
  (BO wg) (Pu m wh.toInt) (fun acc=>if(Gy wg put wj acc).1≠0 then k [.int (Gy wg put wj acc).1,zB,zz] []else k [.int 0,mkB id who rts wm put wj (.int 2) un wg,(Gy wg put wj acc).2] [])
  (fun _=>k [.int 30,zB,zz] []) (fun i acc=>acc.length=i) (s0:=[]) rfl ?_ ?_ (by omega)).trans ?_
 ·intro i acc c hx hP;have hi:i<(BO wg).length:=(List.getElem?_eq_some_iff.1 hx).1;refine⟨fun rec=>?_,fun acc' h'=>?_⟩
  ·have h1:(i:Int)<((BO wg).length:Int):=by omega
   have hg:(List.map (fun c=>br (ofP m c wh.toInt)) (BO wg)).getD i .nil= .int (ofP m c wh.toInt):=by rw[du,List.getElem?_map,hx];rfl
   have h3:(acc.length+1)*1<=140737488355328/\acc.length+1<=9223372036854775807:=by omega
   unfold Sx Pu;rw[LK,hz];simp only[AI,AL,AP,AU,Aa,Ag,Ah,AF,Ac,h1,hg,lf,da,dp,dx,cf,bx,CZ (show i<4611686018427387904 by omega),db,and_self,AG,h3,cm];by_cases h:ofP m c wh.toInt=0 <;> simp[h]
  ·unfold Pu at h';split at h';{cases h'};{cases h';simp[hP]}
 ·intro acc hP rec;unfold Sx;rw[LK,hz];simp only[AI,AL,AP,AU,Aa,Ag,Ah,AF,Ac,fw,AG,cm,h8,h4,h5,q6c wg put wj (.slice acc) rfl hN,Ws h];by_cases h:(Gy wg put wj acc).1=0;{simp[h,mkB];rfl};{simp[h,mkB]}
 ·rw[jE];by_cases h:Kf m wh.toInt (BO wg)=true;{simp[h,FX]};{simp only[h,if_false,List.nil_append,FX];by_cases h9:(Gy wg put wj (Jd m wh.toInt (BO wg))).1=0 <;> simp[h9]}
def JG (id who rts:C) (wm:List C) (put wj ph un wg:C) (side wv:Int):Int × C:=
 if(side≠0/\side≠1)\/wv=0 then(1,zB)else if ph.toInt=2 then(31,zB)else
  if(Bp (put.get side.toNat).toInt wv).2≠0 then((Bp (put.get side.toNat).toInt wv).2,zB)else
   if(EU [(put.set side.toNat (.int (Bp (put.get side.toNat).toInt wv).1)).get 0,(put.set side.toNat (.int (Bp (put.get side.toNat).toInt wv).1)).get 1]).2≠0 then((EU [(put.set side.toNat (.int (Bp (put.get side.toNat).toInt wv).1)).get 0,(put.set side.toNat (.int (Bp (put.get side.toNat).toInt wv).1)).get 1]).2,zB)else
    (0,mkB id who rts wm (put.set side.toNat (.int (Bp (put.get side.toNat).toInt wv).1)) wj ph un wg)
theorem qL (h:SOk wg) (side wv:C) (k:KD R):
  KP N (mkB id who rts wm put wj ph un wg) side wv k=k [.int (JG id who rts wm put wj ph un wg side.toInt wv.toInt).1,(JG id who rts wm put wj ph un wg side.toInt wv.toInt).2] []:=by
 have h6:(mkB id who rts wm put wj ph un wg).get 6=ph:=rfl;rw[fQ];unfold Wh JG;rw[LK]
 have e:∀K:KD R,jn K (fun K=>(bif !decide (side.toInt=0)then(bif !decide (side.toInt=1)then K [side,wv,.bool true,mkB id who rts wm put wj ph un wg,zB] []else K [side,wv,.bool (decide (wv.toInt=0)),mkB id who rts wm put wj ph un wg,zB] [])else K [side,wv,.bool (decide (wv.toInt=0)),mkB id who rts wm put wj ph un wg,zB] []))=
   K [side,wv,.bool (decide ((side.toInt≠0/\side.toInt≠1)\/wv.toInt=0)),mkB id who rts wm put wj ph un wg,zB] []:=fun K=>by
  rw[AY];by_cases h0:side.toInt=0;{simp[h0]};{by_cases h1:side.toInt=1 <;> simp[h0,h1]}
 rw[e];by_cases a1:(side.toInt≠0/\side.toInt≠1)\/wv.toInt=0;{simp only[AI,AL,AP,AU,AX,a1,AG]};have hs:0<=side.toInt/\side.toInt<2:=by omega
 by_cases a2:ph.toInt=2;{simp only[AI,AL,AP,AU,AX,a1,a2,h6,AG]};simp only[AI,AL,AP,AU,AX,AF,a1,a2,h6,AG,Ws h,hs,and_self,add_eq];unfold mkB;simp only[lX,vP,Int.toNat_zero];by_cases b1:(Bp (put.get side.toInt.toNat).toInt wv.toInt).2=0
 case neg=>simp only[b1,AG,ne_eq,not_false_iff]
 have e2:∀x y:C,(EU [x,y]).2=if(Bp 0 x.toInt).2=0 then(Bp (Bp 0 x.toInt).1 y.toInt).2 else(Bp 0 x.toInt).2:=fun x y=>by by_cases g1:(Bp 0 x.toInt).2=0;{by_cases g2:(Bp (Bp 0 x.toInt).1 y.toInt).2=0 <;> simp[EU,CP,LQ,Mb,g1,g2]};{simp[EU,CP,LQ,Mb,g1]}
 simp only[b1,e2,AG,ne_eq,not_true];by_cases b2:(Bp 0 ((put.set side.toInt.toNat (br (Bp (put.get side.toInt.toNat).toInt wv.toInt).1)).get 0).toInt).2=0;{simp only[b2,AG];by_cases b3:(Bp (Bp 0 ((put.set side.toInt.toNat (br (Bp (put.get side.toInt.toNat).toInt wv.toInt).1)).get 0).toInt).1 ((put.set side.toInt.toNat (br (Bp (put.get side.toInt.toNat).toInt wv.toInt).1)).get 1).toInt).2=0;{simp only[b3,AG,not_true]};{simp only[b3,AG,not_false_iff]}};{simp only[b2,AG,not_false_iff]}
end
end
section
variable {R:Type} {N:Nat}
theorem q6u {l:List C} {i:Nat} (hi:i<l.length):l.take (i+1)=l.take i++[l.getD i .nil]:=by rw[qm,cr hi,du,cr hi];rfl
def eD (c:C):Prop:=c= .agg [c.get 0,c.get 1,c.get 2,c.get 3,c.get 4]
theorem q2g (c:C) (h:eD c) (k:KD R):Qi N c k=k [c] []:=by rw[nR];unfold Yp;simp only[SK,cC,cD,q5L,vP];rw[<-h]
structure StE (s:C):Prop where
 eta:SOk s
 cs:∀c∈BO s,eD c
 ln:(BO s).length<=12
theorem q2j (s:C) (h:StE s) (hN:2000<N) (k:KD R):Qj N s k=k [s] []:=by
 have he:=h.eta;have hc:=h.cs;have hl:=h.ln;unfold SOk at he;rw[nS];unfold Yq;rw[AY];unfold BO at he hc hl;generalize hcs:bq (cd s 4)=cs at*;generalize (fh [AO (cg dj),AO (cg bw),AO (dc 2 (cg bw)),AO (dc 2 (cg bw)),cz []])=Z;have key:=Km (F:=UO N fun d1 m1=>k [fh [dk d1 0,dk d1 1,dk d1 2,dk d1 3,cz (bq (dk d1 4))]] []) (fun i=>[s.get 4,.int cs.length,.int i,s.get 0,s.get 1,s.get 2,s.get 3,.slice (cs.take i),Z]) (fun _=>[]) cs.length (k [s] []) ?_ ?_ (N:=N) (by omega);{simpa using key}
 ·intro i hi rec;have h1:(i:Int)<(cs.length:Int):=by omega
  have h2:=hc _ (IU hi);have h3:(cs.take i).length<=12:=by simp;omega
  have g1:((cs.take i).length+1)*64<=140737488355328/\(cs.take i).length+1<=9223372036854775807:=by omega
  unfold UO;simp only[AI,AL,AP,AU,Aa,Ag,Ah,Ap,Ar,AF,Ac,hcs,h1,g1,AG,db,and_self,cm,bx,q2g _ h2,da,dp,dx,cf,CZ (show i<4611686018427387904 by omega),q6u hi]
 ·intro rec;unfold UO;simp only[AI,AL,AP,AU,Aa,Ag,Ah,Ap,Ar,AF,Ac,fw,AG,ej];rw[<-he]
theorem q2c (a:C) (hN:100<N):∃y:C,∀k:KD R,Qh N a k=k [y] []:=by
 obtain⟨d,⟨x,y,rfl⟩,h⟩:=Gq (R:=R) (F:=fun k2=>UL N k2) 32 (fun i st=>∃x y:C,st=[a,.int i,x,y]) (fun d=>∃x y:C,d=[x,y])
  (fun i st hi hst=>by
   obtain⟨x,y,rfl⟩:=hst;have e1:(i:Int)<32:=by omega
   refine⟨_,⟨x,?y1,rfl⟩,fun k rec=>?eq1⟩
   case eq1=>
    unfold UL;simp only[AI,AL,AP,AU,AF,e1,AG,db,and_self,CZ (show i<4611686018427387904 by omega)];rfl)
  (fun st hst=>by
   obtain⟨x,y,rfl⟩:=hst;refine⟨_,⟨x,y,rfl⟩,fun k rec=>?_⟩;unfold UL;have e:¬((32:Nat):Int)<32:=by decide
   simp only[AI,AL,AP,AU,AF,e,AG])
  (N:=N) (by omega) (st:=[a,.int (0:Nat),fh
  [fh (dh 32 (fh (dh 16 (br 0)))),
   fh (dh 32 (fh (dh 16 (br 0))))],fh
  [fh (dh 32 (fh (dh 16 (br 0)))),
   fh (dh 32 (fh (dh 16 (br 0))))]]) ⟨_,_,rfl⟩
 refine⟨y,fun k=>?_⟩;rw[nN];unfold Yn;simp only[AY];exact(h _).trans rfl
def Sk (n:Nat) (x:C):Prop:=∃(a b:C) (p:List C),x= .agg [a,b,.slice p]/\p.length<=n
theorem nQ {n:Nat} (a:C) (ha:Sk n a) (hn:n<=4398046511104) (hN:n+100<N):∃(s e:C) (q:List C),∀k:KD R,Nu N a k=k [.agg [s,e,.slice q]] []:=by
 obtain⟨s,e,p,rfl,hp⟩:=ha;obtain⟨s',hs⟩:=q2c (R:=R) (N:=N) s (show 100<N by omega)
 generalize hZ:(fh
  [fh
    [fh (dh 32 (fh (dh 16 (br 0)))),
     fh (dh 32 (fh (dh 16 (br 0))))],
   AO (cg dj),cz []])=Z
 obtain⟨d,⟨q,rfl⟩,h⟩:=Gq (R:=R) (F:=fun k2=>UM N k2) p.length (fun i st=>∃q:List C,q.length=i/\st=[.slice p,.int p.length,.int i,s',e,.slice q,Z]) (fun d=>∃q:List C,d=[s',e,.slice q,Z])
  (fun i st hi hst=>by
   obtain⟨q,hq,rfl⟩:=hst;have e1:(i:Int)<(p.length:Int):=by omega
   have g1:(i+1)*32<=140737488355328/\i+1<=9223372036854775807:=by omega
   refine⟨_,⟨q++[p.getD i .nil],by simp[hq],rfl⟩,fun k rec=>?_⟩;unfold UM;simp only[AI,AL,AP,AU,Aa,Ag,Ah,AF,Ac,e1,hq,g1,AG,db,and_self,cm,bx,da,dp,dx,cf,CZ (show i<4611686018427387904 by omega)])
  (fun st hst=>by
   obtain⟨q,hq,rfl⟩:=hst;refine⟨_,⟨q,rfl⟩,fun k rec=>?_⟩;unfold UM;simp only[AI,AL,AP,AU,Aa,Ag,Ah,AF,Ac,fw,AG])
  (N:=N) (by omega) (st:=[.slice p,.int p.length,.int (0:Nat),s',e,.slice [],Z]) ⟨[],rfl,rfl⟩
 refine⟨s',e,q,fun k=>?_⟩;rw[nP];unfold Yo;simp only[AY,Jj,Lm,Tv,hs,AI,Ac,hZ];exact(h _).trans rfl
theorem q2p {n:Nat} (s x y:C) (h:StE s) (hx:Sk n x) (hy:Sk n y) (hn:n<=4398046511104) (hN:n+2000<N):∃(x0 x1 y0 y1:C) (p q:List C),∀k:KD R,Nv N (.agg [s,.agg [x,y]]) k=k [.agg [s,.agg [.agg [x0,x1,.slice p],.agg [y0,y1,.slice q]]]] []:=by obtain⟨x0,x1,p,h1⟩:=nQ (R:=R) (N:=N) x hx hn (by omega);obtain⟨y0,y1,q,h2⟩:=nQ (R:=R) (N:=N) y hy hn (by omega);refine⟨x0,x1,y0,y1,p,q,fun k=>?_⟩;have t0:bo 0=0:=rfl;have t1:bo 1=1:=rfl;rw[nV];unfold Yr;simp only[Jj,Lm,q2j s h (show 2000<N by omega),AI,t0,t1,h1,h2];rfl
def stZ (id:Int):C:=.agg [.int id,.int 0,zz,zz,.slice []]
theorem sV (a:Int) (k:KD R):OM N (.int a) k=k [stZ a] []:=by rw[sY];rfl
def bX (s:C) (id:Int):Bool:=decide ((s.get 0).toInt=id/\(s.get 1).toInt=0/\C.beq (s.get 2) zz=true/\C.beq (s.get 3) zz=true/\(s.get 4).elems.length=0)
theorem yP (s:C) (id:Int) (hN:10<N) (k:KD R):Rh N s (stZ id) k=k [.bool (bX s id)] []:=by
 have he:∀k:KD R,SM N (s.get 4) (.slice []) k=k [.bool (decide ((s.get 4).elems.length=0))] []:=fun k=>by
  obtain⟨M,rfl⟩:∃M,N=M+1:=⟨N-1,by omega⟩;rw[vW];unfold cJ;by_cases z:(s.get 4).elems.length=0
  ·have z':((s.get 4).elems.length:Int)=(([]:List C).length:Int):=by simp[z]
   simp only[Ac,z,z',AY,Dt,AG];unfold vV;simp[AF,AP,AU]
  ·have z':¬((s.get 4).elems.length:Int)=(([]:List C).length:Int):=by simpa using z
   simp only[Ac,z,z',AG]
 have g0:(stZ id).get 0= .int id:=rfl;have g1:(stZ id).get 1= .int 0:=rfl;have g2:(stZ id).get 2=zz:=rfl;have g3:(stZ id).get 3=zz:=rfl;have g4:(stZ id).get 4= .slice []:=rfl;rw[tA];unfold aR bX;simp only[AY,g0,g1,g2,g3,g4,he,AF,AI,AX];by_cases a0:(s.get 0).toInt=id
 case neg=>simp[a0,AX,AI]
 by_cases a1:(s.get 1).toInt=0
 case neg=>simp[a1,AX,AI]
 cases a2:C.beq (s.get 2) zz;{simp[a0,a1,AX,AI]};cases a3:C.beq (s.get 3) zz;{simp[a0,a1,AX,AI]};simp[a0,a1,AX,AI]
end
section
variable {R:Type}
theorem q1L {K:KD R} {B:KD R->Option R} (ds:List C) (ms:List Es) (h:∀k,B k=k ds ms):jn K B=K ds ms:=by rw[AY];exact h K
end
def Wd (a0 a1 a2:C) (k1:KD R):Option R:=jn (fun d1 m1=>(bif ez (dk d1 2)then(k1 [br 0,br 1,Cg] [])else(LY N (dk d1 3) (dk d1 1) (fun d2 m2=>(bif !decide (bp (dk d2 0)=0)then(k1 [br 0,dk d2 0,Cg] [])else(LX N (dk d1 3) (dk d1 1) (fun d3 m3=>(if 0<=bp (dk d1 0)/\bp (dk d1 0)<2 then(if 0<=bp (dk d1 0)/\bp (dk d1 0)<2 then(bif decide (bu bw (bp (cd (cd (cd (dk d3 0) 8) 3) (bo (bp (dk d1 0))))-bp (cd (cd (dk d3 0) 5) (bo (bp (dk d1 0)))))=0)then(k1 [br 0,br 6,Cg] [])else(if 0<=bp (dk d1 0)/\bp (dk d1 0)<2 then(if 0<=bp (dk d1 0)/\bp (dk d1 0)<2 then(k1 [br (bu bw (bp (cd (cd (cd (dk d3 0) 8) 3) (bo (bp (dk d1 0))))-bp (cd (cd (dk d3 0) 5) (bo (bp (dk d1 0)))))),br 0,dt (dk d3 0) 5 (dt (cd (dk d3 0) 5) (bo (bp (dk d1 0))) (br (bu bw (bp (cd (cd (dk d3 0) 5) (bo (bp (dk d1 0))))+bu bw (bp (cd (cd (cd (dk d3 0) 8) 3) (bo (bp (dk d1 0))))-bp (cd (cd (dk d3 0) 5) (bo (bp (dk d1 0)))))))))] [])else none)else none))else none)else none)))))))) (fun k2=>(bif !decide (bp a1=0)then(k2 [a1,a2,dw !decide (bp a1=1),a0,Cg] [])else(k2 [a1,a2,dw false,a0,Cg] [])))
def Mz:=lid "" (@Wd R N)
theorem fL {R N a0 a1 a2 k}:@Mz R N a0 a1 a2 k=Wd N a0 a1 a2 k:=by unfold Mz;rw[Ao]
def zR:OvG R:=BW [AQ,.int .i64,Ch] (Io (Mz N)) fun a K d1 m1=>K (rj [V.d AQ (dk d1 2),V.d (cg bw) (dk d1 0),V.d (cg ca) (dk d1 1)]) []
theorem zS:okX 104 (@zR R N):=Bf (AR (Wo N) <| AR (Wm N) <| Aq) N [(104,[(0,[(5,5)])])] [(104,[([0,0,1],(Bv [1,3,5,6] [(16,.d .bool)])),
  ([9],⟨[],[(6,.as (.ptr (.l 6) [] AQ)),(7,.d (.int .u64)),(8,.d (.int .i64))],[],[(.l 6,.box (.d AQ))],[],[]⟩)])] (fun _ _=>fL)
end Go.Proofs.YtpemdagggddcfaaGreatDoor
