/-
 What the functions on the way compute, part 5.
 Conditions: none.
-/
import Derived.Test.YtgdonkaoajbclaaGreatDoorKd
set_option linter.all false
noncomputable section
set_option maxRecDepth 100000
set_option maxHeartbeats 4000000
open Go.BinOp renaming and->dr
open Go.E.C renaming agg->dj,bool->cg,elems->au,get->bc,int->az,nil->dw,set->db,slice->bj,toBool->cz,toInt->ao
open Go.E.Key renaming g->gb,l->dt
open Go.E.O renaming box->xu
open Go.E.Ty renaming arr->ct,int->br
open Go.E.V renaming tup->ow
open Go.IntKind renaming i64->aw,u32->cm,u64->ay,wrap->ar
open Go.IntWalk renaming i64_in->dh
open Int renaming fdiv->fx,lt_irrefl->fb,natCast_nonneg->bu,toNat->av,toNat_natCast->bh,toNat_of_nonneg->gy
open List renaming getD->bp,getD_cons_zero->qf,getD_eq_getElem?_getD->bn,getElem?_eq_getElem->bm,length->aq,length_append->bx,length_cons->cn,length_map->ez,length_nil->df,map->dg,map_append->kq,replicate->bf,reverse_cons->qg,take->cr,take_of_length_le->du
open Nat renaming beq->bo,beq_refl->bw,zero_add->cq
namespace Go.Proofs.YtgdonkaoajbclaaGreatDoor
open Go Go.E
variable {R:Type} (N:Nat)
def q4j:List Sh:=[.as (.ptr (.g (.l 1)) [] GV)]
def q4l:List (Key × OSh):=[(.l 1,.box (.agg GV [.vec (.g (.l 2)) 8 (.int .u64),.d (.int .i64)])),(.l 2,.box (.arr (.int .u64)))]
def VV (b0 b1 b2:C) (k1:KD R):Option R:=bif decide ((↑(av (ao b0)):Int)=0)then(if aq (au b2)=aq (au b2)then(IX N (az 12) (az (↑(av (ao b0)):Int)) b1 b2 (fun d1 m1=>(if aq (au (dk d1 3))=aq (au (dk d1 3))then(k1 [az 0,az (↑(av (ao (dk d1 0))):Int),dk d1 1,az (↑(av (ao (dk d1 2))):Int),dk d1 3] [])else none)))else none)else(if 0<=ar aw ((↑(av (ao b0)):Int)-1)/\ar aw ((↑(av (ao b0)):Int)-1)<(↑(av (ao b0)):Int)then(if Int.ofNat 0<=0/\0<=ar aw ((↑(av (ao b0)):Int)-1)/\ar aw ((↑(av (ao b0)):Int)-1)<=(↑(av (ao b0)):Int)then(if aq (au b2)=aq (au b2)then(k1 [bc b2 (0+av (ar aw ((↑(av (ao b0)):Int)-1))),az (↑(av (ar aw ((↑(av (ao b0)):Int)-1)-0)):Int),b1,az (↑(aq (au b2)):Int),b2] [])else none)else none)else none)
def DB:=lid "" (@VV R N)
theorem Zu {R N b0 b1 b2 k}:@DB R N b0 b1 b2 k=VV N b0 b1 b2 k:=by unfold DB;rw[AV]
def q4k:OvG R:=Cc q4j q4l (fun ds ms=>DB N (dk ds 0) (dk ds 1) (dk ds 2)) fun ds ms K d1 m1=>K (V.d (br ay) (dk d1 0)) [(gb (dt 1),
  xu
   (V.agg GV
    [V.sr (dt 1000000000074) [] 0 (av (ao (dk d1 1))) none 8 (br ay),
     V.d (br aw) (dk d1 2)])),
 (gb (dt 2),O.dead (ct (av (ao (dk d1 3))) (br ay))),
 (dt 1000000000074,xu (V.d (ct (aq (au (dk d1 4))) (br ay)) (dk d1 4)))]
theorem qY:okX 94 (@q4k R N):=Cj (AH (Zs N) <| AW) N [] [(94,[([9],⟨[],[(2,.d (.int .u64))],[.g (.l 1),.g (.l 2)],[],[],[(.int .u64)]⟩)])] (fun _ _ _=>Zu)
def q4m:List Sh:=[.as (.ptr (.g (.l 1)) [] GV),.d (.slice 8 (.int .u64))]
def q4o:List (Key × OSh):=[(.l 1,.box (.agg GV [.vec (.g (.l 2)) 8 (.int .u64),.d (.int .i64)])),(.l 2,.box (.arr (.int .u64)))]
def Zv (k1:KD R) (k2:KD R):KD R->KD R:=fun k3 d1 m1=>(bif decide (ao (dk d1 2)<ao (dk d1 1))then(if 0<=ao (dk d1 2)/\ao (dk d1 2)<(↑(aq (au (dk d1 0))):Int)then(bif decide (32<=(↑(av (ao (dk d1 3))):Int))then(if aq (au (dk d1 6))=aq (au (dk d1 6))then(IX N (az 4) (az (↑(av (ao (dk d1 3))):Int)) (dk d1 4) (dk d1 6) (fun d2 m2=>(if aq (au (dk d2 3))=aq (au (dk d2 3))then(k1 [az (↑(av (ao (dk d2 0))):Int),dk d2 1,az (↑(av (ao (dk d1 5))):Int),dk d2 3] [])else none)))else none)else(if(av (ao (dk d1 3))+1)*8<=140737488355328/\av (ao (dk d1 3))+1<=9223372036854775807 then(if av (ao (dk d1 3))+1=aq (cr (av (ao (dk d1 3))) (au (dk d1 6))++[bp (au (dk d1 0)) (av (ao (dk d1 2))) dw])then(k3 [dk d1 0,dk d1 1,az (ar aw (ao (dk d1 2)+1)),az (↑(av (ao (dk d1 3))+1):Int),dk d1 4,az (↑(av (ao (dk d1 5))):Int),dj (cr (av (ao (dk d1 3))) (au (dk d1 6))++[bp (au (dk d1 0)) (av (ao (dk d1 2))) dw])] [])else none)else none))else none)else(if aq (au (dk d1 6))=aq (au (dk d1 6))then(k2 [az (↑(av (ao (dk d1 3))):Int),dk d1 4,az (↑(av (ao (dk d1 5))):Int),dk d1 6] [])else none))
def VW (a0 b0 b1 b2:C) (k1:KD R):Option R:=jn (fun d1 m1=>(if aq (au (dk d1 3))=aq (au (dk d1 3))then(k1 [az (↑(av (ao (dk d1 0))):Int),dk d1 1,az (↑(av (ao (dk d1 2))):Int),dk d1 3] [])else none)) (fun k2=>(if aq (au b2)=aq (au b2)then(Ac N (Zv N k1 k2) [a0,az (↑(aq (au a0)):Int),az 0,az (↑(av (ao b0)):Int),b1,az (↑(aq (au b2)):Int),b2] [])else none))
def Fy:=lid "" (@VW R N)
theorem Zw {R N a0 b0 b1 b2 k}:@Fy R N a0 b0 b1 b2 k=VW N a0 b0 b1 b2 k:=by unfold Fy;rw[AV]
def q4n:OvG R:=Cc q4m q4o (fun ds ms=>Fy N (dk ds 0) (dk ds 1) (dk ds 2) (dk ds 3)) fun ds ms K d1 m1=>K (ow []) [(gb (dt 1),
  xu
   (V.agg GV
    [V.sr (dt 1000000000074) [] 0 (av (ao (dk d1 0))) none 8 (br ay),
     V.d (br aw) (dk d1 1)])),
 (gb (dt 2),O.dead (ct (av (ao (dk d1 2))) (br ay))),
 (dt 1000000000074,xu (V.d (ct (aq (au (dk d1 3))) (br ay)) (dk d1 3)))]
theorem qZ:okX 118 (@q4n R N):=Cj (AH (Zs N) <| AW) N [] [(118,[([1],⟨[0],[],[.g (.l 1),.g (.l 2)],[],[],[(.int .u64)]⟩),
  ([4,1],⟨[0,6,7],[(8,.d (.int .i64))],[.g (.l 1),.g (.l 2)],[],[],[(.int .u64)]⟩),
  ([9],⟨[],[],[.g (.l 1),.g (.l 2)],[],[],[(.int .u64)]⟩)])] (fun _ _ _=>Zw)
def zM {R:Type} (N:Nat) (a0 a1:C) (k1:KD R):Option R:=k1 [az (ar ay (ar ay (ar ay (fx (ao a0) (2^min (av 32) 64)*fx (ao a1) (2^min (av 32) 64))+fx (ar ay (ar ay (fx (ao a0) (2^min (av 32) 64)*Aj dr ay (ao a1) 4294967295)+fx (ar ay (Aj dr ay (ao a0) 4294967295*Aj dr ay (ao a1) 4294967295)) (2^min (av 32) 64))) (2^min (av 32) 64))+fx (ar ay (Aj dr ay (ar ay (ar ay (fx (ao a0) (2^min (av 32) 64)*Aj dr ay (ao a1) 4294967295)+fx (ar ay (Aj dr ay (ao a0) 4294967295*Aj dr ay (ao a1) 4294967295)) (2^min (av 32) 64))) 4294967295+ar ay (Aj dr ay (ao a0) 4294967295*fx (ao a1) (2^min (av 32) 64)))) (2^min (av 32) 64))),az (ar ay (ao a0*ao a1))] []
def SH:=lid "" (@zM R N)
theorem zN {R N a0 a1 k}:@SH R N a0 a1 k=zM N a0 a1 k:=by unfold SH;rw[AV]
def q8F:OvG R:=Ae [.int .u64,.int .u64] (Bq (SH N)) fun a K d1 m1=>K (ow [V.d (br ay) (dk d1 0),V.d (br ay) (dk d1 1)]) []
theorem q8G:okX 139 (@q8F R N):=Ai AW N [] [(139,[([9],(Af [(4,.d (.int .u64)),(5,.d (.int .u64))]))])] (fun _ _=>zN)
def fK (a0 a1:C) (k1:KD R):Option R:=SH N a0 a1 (fun d1 m1=>(bif !decide (ao (dk d1 0)=0)then(k1 [az 0,az 11] [])else(k1 [dk d1 1,az 0] [])))
def SW:=lid "" (@fK R N)
theorem aj {R N a0 a1 k}:@SW R N a0 a1 k=fK N a0 a1 k:=by unfold SW;rw[AV]
def q9g:OvG R:=Ae [.int .u64,.int .u64] (Bq (SW N)) fun a K d1 m1=>K (ow [V.d (br ay) (dk d1 0),V.d (br aw) (dk d1 1)]) []
theorem q9h:okX 120 (@q9g R N):=Ai (AH (q8G N) <| AW) N [] [(120,[([9],(Af [(4,.d (.int .u64)),(5,.d (.int .i64))]))])] (fun _ _=>aj)
def q4c:List Sh:=[.as (.ptr (.g (.l 1)) [] GV),.d .bool]
def q4f:List (Key × OSh):=[(.l 1,.box (.agg GV [.vec (.g (.l 2)) 8 (.int .u64),.d (.int .i64)])),(.l 2,.box (.arr (.int .u64)))]
def Zr (a0 b0 b1 b2:C) (k1:KD R):Option R:=bif cz a0 then(if aq (au b2)=aq (au b2)then(Fy N (bj [az 1]) (az (↑(av (ao b0)):Int)) b1 b2 (fun d1 m1=>(if aq (au (dk d1 3))=aq (au (dk d1 3))then(k1 [az (↑(av (ao (dk d1 0))):Int),dk d1 1,az (↑(av (ao (dk d1 2))):Int),dk d1 3] [])else none)))else none)else(if aq (au b2)=aq (au b2)then(Fy N (bj [az 0]) (az (↑(av (ao b0)):Int)) b1 b2 (fun d1 m1=>(if aq (au (dk d1 3))=aq (au (dk d1 3))then(k1 [az (↑(av (ao (dk d1 0))):Int),dk d1 1,az (↑(av (ao (dk d1 2))):Int),dk d1 3] [])else none)))else none)
def Hj:=lid "" (@Zr R N)
theorem qW {R N a0 b0 b1 b2 k}:@Hj R N a0 b0 b1 b2 k=Zr N a0 b0 b1 b2 k:=by unfold Hj;rw[AV]
def q4d:OvG R:=Cc q4c q4f (fun ds ms=>Hj N (dk ds 0) (dk ds 1) (dk ds 2) (dk ds 3)) fun ds ms K d1 m1=>K (ow []) [(gb (dt 1),
  xu
   (V.agg GV
    [V.sr (dt 1000000000074) [] 0 (av (ao (dk d1 0))) none 8 (br ay),
     V.d (br aw) (dk d1 1)])),
 (gb (dt 2),O.dead (ct (av (ao (dk d1 2))) (br ay))),
 (dt 1000000000074,xu (V.d (ct (aq (au (dk d1 3))) (br ay)) (dk d1 3)))]
theorem q4e:okX 121 (@q4d R N):=Cj (AH (qZ N) <| AW) N [] [(121,[([9],⟨[],[],[.g (.l 1),.g (.l 2)],[],[],[(.int .u64)]⟩)])] (fun _ _ _=>qW)
def q36:List Sh:=[.d YZ,.as (.ptr (.g (.l 1)) [] GV),.d (.int .i64),.d (.int .u64)]
def q39:List (Key × OSh):=[(.l 1,.box (.agg GV [.vec (.g (.l 2)) 8 (.int .u64),.d (.int .i64)])),(.l 2,.box (.arr (.int .u64)))]
def DZ (a0 a1 a2 b0 b1 b2:C) (k1:KD R):Option R:=bif decide (ao a1=1)then(if aq (au b2)=aq (au b2)then(Fy N (bj [a2]) (az (↑(av (ao b0)):Int)) b1 b2 (fun d1 m1=>(if aq (au (dk d1 3))=aq (au (dk d1 3))then(k1 [az (↑(av (ao (dk d1 0))):Int),dk d1 1,az (↑(av (ao (dk d1 2))):Int),dk d1 3] [])else none)))else none)else(bif decide (ao a1=2)then(bif decide (ar ay (↑(aq (au (bc a0 0))):Int)<=ao a2)then(if aq (au b2)=aq (au b2)then(IX N (az 1) (az (↑(av (ao b0)):Int)) b1 b2 (fun d1 m1=>(if aq (au (dk d1 3))=aq (au (dk d1 3))then(k1 [az (↑(av (ao (dk d1 0))):Int),dk d1 1,az (↑(av (ao (dk d1 2))):Int),dk d1 3] [])else none)))else none)else(if 0<=ao a2/\ao a2<(↑(aq (au (bc a0 0))):Int)then(if aq (au b2)=aq (au b2)then(Fy N (bj [bp (au (bc a0 0)) (av (ao a2)) dw]) (az (↑(av (ao b0)):Int)) b1 b2 (fun d1 m1=>(if aq (au (dk d1 3))=aq (au (dk d1 3))then(k1 [az (↑(av (ao (dk d1 0))):Int),dk d1 1,az (↑(av (ao (dk d1 2))):Int),dk d1 3] [])else none)))else none)else none))else(bif decide (ao a1=3)then(jn (fun d1 m1=>(if aq (au (dk d1 3))=aq (au (dk d1 3))then(k1 [az (↑(av (ao (dk d1 0))):Int),dk d1 1,az (↑(av (ao (dk d1 2))):Int),dk d1 3] [])else none)) (fun k2=>(if aq (au b2)=aq (au b2)then(DB N (az (↑(av (ao b0)):Int)) b1 b2 (fun d1 m1=>(if aq (au (dk d1 4))=aq (au (dk d1 4))then(DB N (az (↑(av (ao (dk d1 1))):Int)) (dk d1 2) (dk d1 4) (fun d2 m2=>(bif !decide (ao (dk d2 2)=0)then(if aq (au (dk d2 4))=aq (au (dk d2 4))then(k2 [az (↑(av (ao (dk d2 1))):Int),dk d2 2,az (↑(av (ao (dk d1 3))):Int),dk d2 4] [])else none)else(JW N (dk d2 0) (dk d1 0) (fun d3 m3=>(bif !decide (ao (dk d3 1)=0)then(if aq (au (dk d2 4))=aq (au (dk d2 4))then(IX N (dk d3 1) (az (↑(av (ao (dk d2 1))):Int)) (dk d2 2) (dk d2 4) (fun d4 m4=>(if aq (au (dk d4 3))=aq (au (dk d4 3))then(k2 [az (↑(av (ao (dk d4 0))):Int),dk d4 1,az (↑(av (ao (dk d1 3))):Int),dk d4 3] [])else none)))else none)else(if aq (au (dk d2 4))=aq (au (dk d2 4))then(Fy N (bj [dk d3 0]) (az (↑(av (ao (dk d2 1))):Int)) (dk d2 2) (dk d2 4) (fun d4 m4=>(if aq (au (dk d4 3))=aq (au (dk d4 3))then(k2 [az (↑(av (ao (dk d4 0))):Int),dk d4 1,az (↑(av (ao (dk d1 3))):Int),dk d4 3] [])else none)))else none)))))))else none)))else none)))else(bif decide (ao a1=4)then(jn (fun d1 m1=>(if aq (au (dk d1 3))=aq (au (dk d1 3))then(k1 [az (↑(av (ao (dk d1 0))):Int),dk d1 1,az (↑(av (ao (dk d1 2))):Int),dk d1 3] [])else none)) (fun k2=>(if aq (au b2)=aq (au b2)then(DB N (az (↑(av (ao b0)):Int)) b1 b2 (fun d1 m1=>(if aq (au (dk d1 4))=aq (au (dk d1 4))then(DB N (az (↑(av (ao (dk d1 1))):Int)) (dk d1 2) (dk d1 4) (fun d2 m2=>(bif !decide (ao (dk d2 2)=0)then(if aq (au (dk d2 4))=aq (au (dk d2 4))then(k2 [az (↑(av (ao (dk d2 1))):Int),dk d2 2,az (↑(av (ao (dk d1 3))):Int),dk d2 4] [])else none)else(Md N (dk d2 0) (dk d1 0) (fun d3 m3=>(bif !decide (ao (dk d3 1)=0)then(if aq (au (dk d2 4))=aq (au (dk d2 4))then(IX N (dk d3 1) (az (↑(av (ao (dk d2 1))):Int)) (dk d2 2) (dk d2 4) (fun d4 m4=>(if aq (au (dk d4 3))=aq (au (dk d4 3))then(k2 [az (↑(av (ao (dk d4 0))):Int),dk d4 1,az (↑(av (ao (dk d1 3))):Int),dk d4 3] [])else none)))else none)else(if aq (au (dk d2 4))=aq (au (dk d2 4))then(Fy N (bj [dk d3 0]) (az (↑(av (ao (dk d2 1))):Int)) (dk d2 2) (dk d2 4) (fun d4 m4=>(if aq (au (dk d4 3))=aq (au (dk d4 3))then(k2 [az (↑(av (ao (dk d4 0))):Int),dk d4 1,az (↑(av (ao (dk d1 3))):Int),dk d4 3] [])else none)))else none)))))))else none)))else none)))else(bif decide (ao a1=5)then(jn (fun d1 m1=>(if aq (au (dk d1 3))=aq (au (dk d1 3))then(k1 [az (↑(av (ao (dk d1 0))):Int),dk d1 1,az (↑(av (ao (dk d1 2))):Int),dk d1 3] [])else none)) (fun k2=>(if aq (au b2)=aq (au b2)then(DB N (az (↑(av (ao b0)):Int)) b1 b2 (fun d1 m1=>(if aq (au (dk d1 4))=aq (au (dk d1 4))then(DB N (az (↑(av (ao (dk d1 1))):Int)) (dk d1 2) (dk d1 4) (fun d2 m2=>(bif !decide (ao (dk d2 2)=0)then(if aq (au (dk d2 4))=aq (au (dk d2 4))then(k2 [az (↑(av (ao (dk d2 1))):Int),dk d2 2,az (↑(av (ao (dk d1 3))):Int),dk d2 4] [])else none)else(SW N (dk d2 0) (dk d1 0) (fun d3 m3=>(bif !decide (ao (dk d3 1)=0)then(if aq (au (dk d2 4))=aq (au (dk d2 4))then(IX N (dk d3 1) (az (↑(av (ao (dk d2 1))):Int)) (dk d2 2) (dk d2 4) (fun d4 m4=>(if aq (au (dk d4 3))=aq (au (dk d4 3))then(k2 [az (↑(av (ao (dk d4 0))):Int),dk d4 1,az (↑(av (ao (dk d1 3))):Int),dk d4 3] [])else none)))else none)else(if aq (au (dk d2 4))=aq (au (dk d2 4))then(Fy N (bj [dk d3 0]) (az (↑(av (ao (dk d2 1))):Int)) (dk d2 2) (dk d2 4) (fun d4 m4=>(if aq (au (dk d4 3))=aq (au (dk d4 3))then(k2 [az (↑(av (ao (dk d4 0))):Int),dk d4 1,az (↑(av (ao (dk d1 3))):Int),dk d4 3] [])else none)))else none)))))))else none)))else none)))else(bif decide (ao a1=6)then(if aq (au b2)=aq (au b2)then(DB N (az (↑(av (ao b0)):Int)) b1 b2 (fun d1 m1=>(if aq (au (dk d1 4))=aq (au (dk d1 4))then(DB N (az (↑(av (ao (dk d1 1))):Int)) (dk d1 2) (dk d1 4) (fun d2 m2=>(if aq (au (dk d2 4))=aq (au (dk d2 4))then(Hj N (cg (decide (ao (dk d2 0)<ao (dk d1 0)))) (az (↑(av (ao (dk d2 1))):Int)) (dk d2 2) (dk d2 4) (fun d3 m3=>(if aq (au (dk d3 3))=aq (au (dk d3 3))then(k1 [az (↑(av (ao (dk d3 0))):Int),dk d3 1,az (↑(av (ao (dk d1 3))):Int),dk d3 3] [])else none)))else none)))else none)))else none)else(bif decide (ao a1=7)then(if aq (au b2)=aq (au b2)then(DB N (az (↑(av (ao b0)):Int)) b1 b2 (fun d1 m1=>(if aq (au (dk d1 4))=aq (au (dk d1 4))then(DB N (az (↑(av (ao (dk d1 1))):Int)) (dk d1 2) (dk d1 4) (fun d2 m2=>(if aq (au (dk d2 4))=aq (au (dk d2 4))then(Hj N (cg (decide (ao (dk d2 0)=ao (dk d1 0)))) (az (↑(av (ao (dk d2 1))):Int)) (dk d2 2) (dk d2 4) (fun d3 m3=>(if aq (au (dk d3 3))=aq (au (dk d3 3))then(k1 [az (↑(av (ao (dk d3 0))):Int),dk d3 1,az (↑(av (ao (dk d1 3))):Int),dk d3 3] [])else none)))else none)))else none)))else none)else(bif decide (ao a1=8)then(if aq (au b2)=aq (au b2)then(DB N (az (↑(av (ao b0)):Int)) b1 b2 (fun d1 m1=>(if aq (au (dk d1 4))=aq (au (dk d1 4))then(Hj N (cg (decide (ao (dk d1 0)=0))) (az (↑(av (ao (dk d1 1))):Int)) (dk d1 2) (dk d1 4) (fun d2 m2=>(if aq (au (dk d2 3))=aq (au (dk d2 3))then(k1 [az (↑(av (ao (dk d2 0))):Int),dk d2 1,az (↑(av (ao (dk d1 3))):Int),dk d2 3] [])else none)))else none)))else none)else(bif decide (ao a1=9)then(if aq (au b2)=aq (au b2)then(DB N (az (↑(av (ao b0)):Int)) b1 b2 (fun d1 m1=>(if aq (au (dk d1 4))=aq (au (dk d1 4))then(DB N (az (↑(av (ao (dk d1 1))):Int)) (dk d1 2) (dk d1 4) (fun d2 m2=>(jn (fun d3 m3=>(if aq (au (dk d3 2))=aq (au (dk d3 2))then(k1 [az (↑(av (ao (dk d3 0))):Int),dk d3 1,az (↑(av (ao (dk d3 3))):Int),dk d3 2] [])else none)) (fun k2=>(bif !decide (ao (dk d2 0)=0)then(if aq (au (dk d2 4))=aq (au (dk d2 4))then(Hj N (cg !decide (ao (dk d1 0)=0)) (az (↑(av (ao (dk d2 1))):Int)) (dk d2 2) (dk d2 4) (fun d3 m3=>(if aq (au (dk d3 3))=aq (au (dk d3 3))then(k2 [az (↑(av (ao (dk d3 0))):Int),dk d3 1,dk d3 3,az (↑(av (ao (dk d1 3))):Int),az (↑(av (ao (dk d1 3))):Int)] [])else none)))else none)else(if aq (au (dk d2 4))=aq (au (dk d2 4))then(Hj N (cg false) (az (↑(av (ao (dk d2 1))):Int)) (dk d2 2) (dk d2 4) (fun d3 m3=>(if aq (au (dk d3 3))=aq (au (dk d3 3))then(k2 [az (↑(av (ao (dk d3 0))):Int),dk d3 1,dk d3 3,az (↑(av (ao (dk d1 3))):Int),az (↑(av (ao (dk d1 3))):Int)] [])else none)))else none))))))else none)))else none)else(bif decide (ao a1=10)then(if aq (au b2)=aq (au b2)then(DB N (az (↑(av (ao b0)):Int)) b1 b2 (fun d1 m1=>(if aq (au (dk d1 4))=aq (au (dk d1 4))then(DB N (az (↑(av (ao (dk d1 1))):Int)) (dk d1 2) (dk d1 4) (fun d2 m2=>(jn (fun d3 m3=>(if aq (au (dk d3 2))=aq (au (dk d3 2))then(k1 [az (↑(av (ao (dk d3 0))):Int),dk d3 1,az (↑(av (ao (dk d3 3))):Int),dk d3 2] [])else none)) (fun k2=>(bif !decide (ao (dk d2 0)=0)then(if aq (au (dk d2 4))=aq (au (dk d2 4))then(Hj N (cg true) (az (↑(av (ao (dk d2 1))):Int)) (dk d2 2) (dk d2 4) (fun d3 m3=>(if aq (au (dk d3 3))=aq (au (dk d3 3))then(k2 [az (↑(av (ao (dk d3 0))):Int),dk d3 1,dk d3 3,az (↑(av (ao (dk d1 3))):Int),az (↑(av (ao (dk d1 3))):Int)] [])else none)))else none)else(if aq (au (dk d2 4))=aq (au (dk d2 4))then(Hj N (cg !decide (ao (dk d1 0)=0)) (az (↑(av (ao (dk d2 1))):Int)) (dk d2 2) (dk d2 4) (fun d3 m3=>(if aq (au (dk d3 3))=aq (au (dk d3 3))then(k2 [az (↑(av (ao (dk d3 0))):Int),dk d3 1,dk d3 3,az (↑(av (ao (dk d1 3))):Int),az (↑(av (ao (dk d1 3))):Int)] [])else none)))else none))))))else none)))else none)else(bif decide (ao a1=13)then(if aq (au b2)=aq (au b2)then(DB N (az (↑(av (ao b0)):Int)) b1 b2 (fun d1 m1=>(if aq (au (dk d1 4))=aq (au (dk d1 4))then(Fy N (bj [dk d1 0,dk d1 0]) (az (↑(av (ao (dk d1 1))):Int)) (dk d1 2) (dk d1 4) (fun d2 m2=>(if aq (au (dk d2 3))=aq (au (dk d2 3))then(k1 [az (↑(av (ao (dk d2 0))):Int),dk d2 1,az (↑(av (ao (dk d1 3))):Int),dk d2 3] [])else none)))else none)))else none)else(bif decide (ao a1=14)then(if aq (au b2)=aq (au b2)then(DB N (az (↑(av (ao b0)):Int)) b1 b2 (fun d1 m1=>(if aq (au (dk d1 4))=aq (au (dk d1 4))then(DB N (az (↑(av (ao (dk d1 1))):Int)) (dk d1 2) (dk d1 4) (fun d2 m2=>(if aq (au (dk d2 4))=aq (au (dk d2 4))then(Fy N (bj [dk d1 0,dk d2 0]) (az (↑(av (ao (dk d2 1))):Int)) (dk d2 2) (dk d2 4) (fun d3 m3=>(if aq (au (dk d3 3))=aq (au (dk d3 3))then(k1 [az (↑(av (ao (dk d3 0))):Int),dk d3 1,az (↑(av (ao (dk d1 3))):Int),dk d3 3] [])else none)))else none)))else none)))else none)else(bif decide (ao a1=15)then(if aq (au b2)=aq (au b2)then(DB N (az (↑(av (ao b0)):Int)) b1 b2 (fun d1 m1=>(if aq (au (dk d1 4))=aq (au (dk d1 4))then(k1 [az (↑(av (ao (dk d1 1))):Int),dk d1 2,az (↑(av (ao (dk d1 3))):Int),dk d1 4] [])else none)))else none)else(bif decide (ao a1=16)then(bif decide (ar ay (↑(aq (au (bc a0 1))):Int)<=ao a2)then(if aq (au b2)=aq (au b2)then(IX N (az 1) (az (↑(av (ao b0)):Int)) b1 b2 (fun d1 m1=>(if aq (au (dk d1 3))=aq (au (dk d1 3))then(k1 [az (↑(av (ao (dk d1 0))):Int),dk d1 1,az (↑(av (ao (dk d1 2))):Int),dk d1 3] [])else none)))else none)else(if 0<=ao a2/\ao a2<(↑(aq (au (bc a0 1))):Int)then(if aq (au b2)=aq (au b2)then(Hj N (bp (au (bc a0 1)) (av (ao a2)) dw) (az (↑(av (ao b0)):Int)) b1 b2 (fun d1 m1=>(if aq (au (dk d1 3))=aq (au (dk d1 3))then(k1 [az (↑(av (ao (dk d1 0))):Int),dk d1 1,az (↑(av (ao (dk d1 2))):Int),dk d1 3] [])else none)))else none)else none))else(bif decide (ao a1=17)then(if aq (au b2)=aq (au b2)then(Fy N (bj [bc a0 2]) (az (↑(av (ao b0)):Int)) b1 b2 (fun d1 m1=>(if aq (au (dk d1 3))=aq (au (dk d1 3))then(k1 [az (↑(av (ao (dk d1 0))):Int),dk d1 1,az (↑(av (ao (dk d1 2))):Int),dk d1 3] [])else none)))else none)else(if aq (au b2)=aq (au b2)then(k1 [az (↑(av (ao b0)):Int),b1,az (↑(aq (au b2)):Int),b2] [])else none)))))))))))))))
def MD:=lid "" (@DZ R N)
theorem qU {R N a0 a1 a2 b0 b1 b2 k}:@MD R N a0 a1 a2 b0 b1 b2 k=DZ N a0 a1 a2 b0 b1 b2 k:=by unfold MD;rw[AV]
def q37:OvG R:=Cc q36 q39 (fun ds ms=>MD N (dk ds 0) (dk ds 1) (dk ds 2) (dk ds 3) (dk ds 4) (dk ds 5)) fun ds ms K d1 m1=>K (ow []) [(gb (dt 1),
  xu
   (V.agg GV
    [V.sr (dt 1000000000074) [] 0 (av (ao (dk d1 0))) none 8 (br ay),
     V.d (br aw) (dk d1 1)])),
 (gb (dt 2),O.dead (ct (av (ao (dk d1 2))) (br ay))),
 (dt 1000000000074,xu (V.d (ct (aq (au (dk d1 3))) (br ay)) (dk d1 3)))]
theorem q38:okX 95 (@q37 R N):=Cj (AH (Wq N) <| AH (fL N) <| AH (qY N) <| AH (Zs N) <| AH (qZ N) <| AH (q9h N) <| AH (q4e N) <| AW) N [(95,[(0,[(4,5)])])] [(95,[([1,2,1,3,1,3,1,3,1,3,1,3,1,3,1,3,1,3,1,4,1,1],⟨[1],[],[.g (.l 1),.g (.l 2)],[],[],[(.int .u64)]⟩),
  ([1,2,1,3,1,3,1,3,1,3,1,3,1,3,1,3,1,3,1,3,1,4,1,1],⟨[1],[],[.g (.l 1),.g (.l 2)],[],[],[(.int .u64)]⟩),
  ([9],⟨[],[],[.g (.l 1),.g (.l 2)],[],[],[(.int .u64)]⟩)]),(119,[([9],⟨[0],[],[],[],[],[(.int .u64)]⟩)])] (fun _ _ _=>qU)
def Zp (k1:KD R):KD R->KD R:=fun k2 d2 m2=>(if aq (au (dk d2 0))<=256/\0<=ao (dk d2 3)/\ao (dk d2 3)<=100000 then(bif !decide (Ar (au (dk d2 0)) (av (ao (dk d2 3)))=0)then(k1 [az 0,dk d2 4,az (Ar (au (dk d2 0)) (av (ao (dk d2 3))))] [])else(if(0<=if Ar (au (dk d2 0)) (av (ao (dk d2 3)))=0 then bN (au (dk d2 0)) (av (ao (dk d2 3)))else 0)/\(if Ar (au (dk d2 0)) (av (ao (dk d2 3)))=0 then bN (au (dk d2 0)) (av (ao (dk d2 3)))else 0)<18 then(bif decide (ar aw (ao (dk d2 1)-ao (dk d2 4))<ao (bc (bc (dj Ek) (av (if Ar (au (dk d2 0)) (av (ao (dk d2 3)))=0 then bN (au (dk d2 0)) (av (ao (dk d2 3)))else 0))) 2))then(k1 [az 0,dk d2 4,az 24] [])else(if(0<=if Ar (au (dk d2 0)) (av (ao (dk d2 3)))=0 then bN (au (dk d2 0)) (av (ao (dk d2 3)))else 0)/\(if Ar (au (dk d2 0)) (av (ao (dk d2 3)))=0 then bN (au (dk d2 0)) (av (ao (dk d2 3)))else 0)<18 then(bif decide ((if Ar (au (dk d2 0)) (av (ao (dk d2 3)))=0 then bN (au (dk d2 0)) (av (ao (dk d2 3)))else 0)=0)then(if aq (au (dk d2 7))=aq (au (dk d2 7))then(DB N (az (↑(av (ao (dk d2 5))):Int)) (dk d2 6) (dk d2 7) (fun d3 m3=>(k1 [dk d3 0,az (ar aw (ao (dk d2 4)+ao (bc (bc (dj Ek) (av (if Ar (au (dk d2 0)) (av (ao (dk d2 3)))=0 then bN (au (dk d2 0)) (av (ao (dk d2 3)))else 0))) 2))),dk d3 2] [])))else none)else(jn (fun d3 m3=>(bif !decide (ao (dk d3 6)=0)then(k1 [az 0,dk d3 3,dk d3 6] [])else(if aq (au (dk d3 7))=aq (au (dk d3 7))then(k2 [dk d3 0,dk d3 1,dk d3 2,dk d3 4,dk d3 3,az (↑(av (ao (dk d3 5))):Int),dk d3 6,dk d3 7] [])else none))) (fun k3=>(bif decide ((if Ar (au (dk d2 0)) (av (ao (dk d2 3)))=0 then bN (au (dk d2 0)) (av (ao (dk d2 3)))else 0)=11)then(if aq (au (dk d2 7))=aq (au (dk d2 7))then(k3 [dk d2 0,dk d2 1,dk d2 2,az (ar aw (ao (dk d2 4)+ao (bc (bc (dj Ek) (av (if Ar (au (dk d2 0)) (av (ao (dk d2 3)))=0 then bN (au (dk d2 0)) (av (ao (dk d2 3)))else 0))) 2))),az (ar aw (if Ar (au (dk d2 0)) (av (ao (dk d2 3)))=0 then CA (au (dk d2 0)) (av (ao (dk d2 3))+1) (Ay (bN (au (dk d2 0)) (av (ao (dk d2 3)))))else 0)),az (↑(av (ao (dk d2 5))):Int),dk d2 6,dk d2 7] [])else none)else(bif decide ((if Ar (au (dk d2 0)) (av (ao (dk d2 3)))=0 then bN (au (dk d2 0)) (av (ao (dk d2 3)))else 0)=12)then(if aq (au (dk d2 7))=aq (au (dk d2 7))then(DB N (az (↑(av (ao (dk d2 5))):Int)) (dk d2 6) (dk d2 7) (fun d3 m3=>(bif !decide (ao (dk d3 0)=0)then(if aq (au (dk d3 4))=aq (au (dk d3 4))then(k3 [dk d2 0,dk d2 1,dk d2 2,az (ar aw (ao (dk d2 4)+ao (bc (bc (dj Ek) (av (if Ar (au (dk d2 0)) (av (ao (dk d2 3)))=0 then bN (au (dk d2 0)) (av (ao (dk d2 3)))else 0))) 2))),az (ar aw (if Ar (au (dk d2 0)) (av (ao (dk d2 3)))=0 then CA (au (dk d2 0)) (av (ao (dk d2 3))+1) (Ay (bN (au (dk d2 0)) (av (ao (dk d2 3)))))else 0)),az (↑(av (ao (dk d3 1))):Int),dk d3 2,dk d3 4] [])else none)else(if aq (au (dk d3 4))=aq (au (dk d3 4))then(k3 [dk d2 0,dk d2 1,dk d2 2,az (ar aw (ao (dk d2 4)+ao (bc (bc (dj Ek) (av (if Ar (au (dk d2 0)) (av (ao (dk d2 3)))=0 then bN (au (dk d2 0)) (av (ao (dk d2 3)))else 0))) 2))),az (if Ar (au (dk d2 0)) (av (ao (dk d2 3)))=0 then(↑(av (ao (dk d2 3))+1+Ay (bN (au (dk d2 0)) (av (ao (dk d2 3))))):Int)else 0),az (↑(av (ao (dk d3 1))):Int),dk d3 2,dk d3 4] [])else none))))else none)else(if aq (au (dk d2 7))=aq (au (dk d2 7))then(MD N (dk d2 2) (az (if Ar (au (dk d2 0)) (av (ao (dk d2 3)))=0 then bN (au (dk d2 0)) (av (ao (dk d2 3)))else 0)) (az (if Ar (au (dk d2 0)) (av (ao (dk d2 3)))=0 then CA (au (dk d2 0)) (av (ao (dk d2 3))+1) (Ay (bN (au (dk d2 0)) (av (ao (dk d2 3)))))else 0)) (az (↑(av (ao (dk d2 5))):Int)) (dk d2 6) (dk d2 7) (fun d3 m3=>(if aq (au (dk d3 3))=aq (au (dk d3 3))then(k3 [dk d2 0,dk d2 1,dk d2 2,az (ar aw (ao (dk d2 4)+ao (bc (bc (dj Ek) (av (if Ar (au (dk d2 0)) (av (ao (dk d2 3)))=0 then bN (au (dk d2 0)) (av (ao (dk d2 3)))else 0))) 2))),az (if Ar (au (dk d2 0)) (av (ao (dk d2 3)))=0 then(↑(av (ao (dk d2 3))+1+Ay (bN (au (dk d2 0)) (av (ao (dk d2 3))))):Int)else 0),az (↑(av (ao (dk d3 0))):Int),dk d3 1,dk d3 3] [])else none)))else none))))))else none))else none))else none)
def VU (a0 a1 a2:C) (k1:KD R):Option R:=jn (fun d1 m1=>(bif cz (dk d1 3)then(k1 [az 0,az 0,az 1] [])else(Ac N (Zp N k1) [dk d1 0,dk d1 1,dk d1 2,az 0,az 0,az 0,AI (br aw),dj []] []))) (fun k2=>(bif decide (256<(↑(aq (au a0)):Int))then(k2 [a0,a2,a1,cg true] [])else(bif decide (ao a2<0)then(k2 [a0,a2,a1,cg true] [])else(k2 [a0,a2,a1,cg (decide (4096<ao a2))] []))))
def Np:=lid "" (@VU R N)
theorem Zq {R N a0 a1 a2 k}:@Np R N a0 a1 a2 k=VU N a0 a1 a2 k:=by unfold Np;rw[AV]
def q34:OvG R:=Ae [.slice 1 (.int .u8),YZ,.int .i64] (Eb (Np N)) fun a K d1 m1=>K (ow [V.d (br ay) (dk d1 0),V.d (br aw) (dk d1 1),V.d (br aw) (dk d1 2)]) []
theorem q35:okX 67 (@q34 R N):=Ai (AH (q4b N) <| AH (qY N) <| AH (q38 N) <| AW) N [(67,[(0,[(4,5)])])] [(67,[([1],⟨[0,2,4,9],[(10,.d (.int .i64)),(11,.d (.int .i64))],[],[],[],[(.int .u64)]⟩),
  ([0,0,6,1],⟨[0,2,4],[(27,.d .bool)],[],[],[],[(.int .u64)]⟩),
  ([1,3,1,4,1,0,1,1,1,1,1,7,1],⟨[0,2,4,9,11],[(10,.d (.int .i64))],[],[],[],[(.int .u64)]⟩),
  ([9],⟨[],[(6,.d (.int .u64)),(7,.d (.int .i64)),(8,.d (.int .i64))],[],[],[],[(.int .u64)]⟩)])] (fun _ _=>Zq)
section
variable {R:Type} {N:Nat}
structure St where
 s:List Int
 e:Int
def Df (b:Bool):Int:=if b=true then 1 else 0
def St.fail (x:St) (c:Int):St:=⟨x.s,if x.e=0 then c else x.e⟩
def St.pop (x:St):Int × St:=match x.s with
 | []=>(0,x.fail 12)
 |a::r=>(a,⟨r,x.e⟩)
def St.push (x:St) (a:Int):St:=if 32<=x.s.length then x.fail 4 else⟨a::x.s,x.e⟩
def St.FR (x:St) (a b:Int):St:=if 32<=x.s.length then x.fail 4 else(x.push a).push b
structure OkA (x:St) (arr:C):Prop where
 le:x.s.length<=32
 is:arr.elems.take x.s.length=x.s.reverse.map az
def St.HU (x:St) (arr:C) (a:Int):C:=if 32<=x.s.length then arr else .agg (arr.elems.take x.s.length++[.int a])
def St.PR (x:St) (arr:C) (a b:Int):C:=if 32<=x.s.length then arr else(x.push a).HU (x.HU arr a) b
section
variable {x:St} {arr:C}
theorem OkA.fail (h:OkA x arr) (c:Int):OkA (x.fail c) arr:=⟨h.le,h.is⟩
theorem OkA.pop (h:OkA x arr):OkA x.pop.2 arr:=by
 obtain⟨s,e⟩:=x;cases s with
 |nil=>exact⟨h.le,h.is⟩
 |cons a r=>
  have h1:r.length+1<=32:=h.le;have h2:arr.elems.take (r.length+1)=(a::r).reverse.map az:=h.is;refine⟨show r.length<=32 by omega,show arr.elems.take r.length=r.reverse.map az from ?_⟩;have h3:=congrArg (cr r.length) h2;rw[List.take_take,Nat.min_eq_left (Nat.le_succ _),qg,kq,List.take_append_of_le_length (by rw[ez,List.length_reverse];exact Nat.le_refl _),du (l:=dg az r.reverse) (by simp)]at h3;exact h3
theorem OkA.len (h:OkA x arr):x.s.length<=arr.elems.length:=by
 have:=congrArg aq h.is;simp at this;omega
theorem OkA.top {a:Int} {r:List Int} {e:Int} (h:OkA ⟨a::r,e⟩ arr):arr.get r.length= .int a:=by
 have h2:arr.elems.take (r.length+1)=(a::r).reverse.map az:=h.is;have h3:=congrArg (fun l=>l[r.length]?) h2;simp only[List.getElem?_take,Nat.lt_succ_self,if_true,qg,kq]at h3;rw[List.getElem?_append_right (by simp)]at h3;have h4:arr.elems[r.length]? =some (.int a):=by simpa using h3
 cases arr <;> simp only[au,List.getElem?_nil,reduceCtorEq]at h4 <;> simp[bc,h4]
theorem OkA.push (h:OkA x arr) (a:Int):OkA (x.push a) (x.HU arr a):=by
 unfold St.push St.HU;by_cases h1:32<=x.s.length
 ·simp only[h1,if_true];exact h.fail 4
 ·simp only[h1,if_false];refine⟨show x.s.length+1<=32 by omega,?_⟩;show cr (x.s.length+1) (arr.elems.take x.s.length++[az a])=(a::x.s).reverse.map az;rw[h.is,du (by simp),qg,kq];rfl
theorem OkA.FR (h:OkA x arr) (a b:Int):OkA (x.FR a b) (x.PR arr a b):=by
 unfold St.FR St.PR;by_cases h1:32<=x.s.length
 ·simp only[h1,if_true];exact h.fail 4
 ·simp only[h1,if_false];exact(h.push a).push b
theorem Jn (c:Int) (k:KD R):IX N (.int c) (.int x.s.length) (.int x.e) arr k=k [.int (x.fail c).s.length,.int (x.fail c).e,.int arr.elems.length,arr] []:=by
 rw[qX];unfold Zt St.fail;simp only[go_sem,AB,Ah,bh,if_true];by_cases h:x.e=0 <;> simp[h]
theorem Dg (h:OkA x arr) (k:KD R):DB N (.int x.s.length) (.int x.e) arr k=k [.int x.pop.1,.int x.pop.2.s.length,.int x.pop.2.e,.int arr.elems.length,arr] []:=by
 obtain⟨s,e⟩:=x;cases s with
 |nil=>
  rw[Zu];unfold VV;have:=Jn (R:=R) (N:=N) (x:=⟨[],e⟩) (arr:=arr) 12;simp only[df]at this ⊢;simp only[go_sem,AB,Ah,bh,if_true];exact(this _).trans rfl
 |cons a r=>
  have hn:r.length+1<=32:=h.le;have hw:ar .i64 (((r.length+1:Nat):Int)-1)=r.length:=by rw[dh _ (by omega)];omega
  rw[Zu];unfold VV;simp only[cn,go_sem,AB,Ah,bh,if_true,hw];have h0:¬(((r.length+1:Nat):Int)=0):=by omega
  have h1:(0:Int)<=(r.length:Int)/\(r.length:Int)<((r.length+1:Nat):Int):=⟨by omega,by omega⟩;have h2:(0:Int)<=0/\(0:Int)<=(r.length:Int)/\(r.length:Int)<=((r.length+1:Nat):Int):=⟨by decide,by omega,by omega⟩;simp only[h0,AE,if_pos h1,if_pos h2,cq,Int.sub_zero,bh,h.top];rfl
theorem Ml (h:OkA x arr) (a:Int) (hN:4<N) (k:KD R):Fy N (.slice [.int a]) (.int x.s.length) (.int x.e) arr k=k [.int (x.push a).s.length,.int (x.push a).e,.int arr.elems.length,x.HU arr a] []:=by
 obtain⟨M,rfl⟩:∃M,N=M+3:=⟨N-3,by omega⟩;rw[Zw];unfold VW;simp only[go_sem,Bm,Zv,AB,Ah,AJ,bh,if_true,cn,df,cq];have hl:=h.len;have h32:=h.le;have e1:IntKind.i64.wrap ((0:Int)+1)=1:=by decide
 have e2:((0:Int)<((1:Nat):Int))=True:=by simp
 have e3:(((1:Nat):Int)<((1:Nat):Int))=False:=by simp
 by_cases h1:32<=x.s.length
 ·have h1':(32:Int)<=(x.s.length:Int):=by omega
  simp only[h1',Jn,go_sem,AB,AE];simp[St.push,St.HU,h1]
 ·have h1':¬(32:Int)<=(x.s.length:Int):=by omega
  have h2:x.s.length+1=(cr x.s.length arr.elems++[az a]).length:=by simp;omega
  have h3:(x.s.length+1)*8<=140737488355328/\x.s.length+1<=9223372036854775807:=by omega
  simp only[h1',go_sem,AB,e1,qf,<-h2,h3];simp[St.push,St.HU,h1]
theorem X7 (h:OkA x arr) (a b:Int) (hN:4<N) (k:KD R):Fy N (.slice [.int a,.int b]) (.int x.s.length) (.int x.e) arr k=k [.int (x.FR a b).s.length,.int (x.FR a b).e,.int arr.elems.length,x.PR arr a b] []:=by
 obtain⟨M,rfl⟩:∃M,N=M+3:=⟨N-3,by omega⟩;rw[Zw];unfold VW;simp only[go_sem,Bm,Zv,AB,Ah,AJ,bh,if_true,cn,df,cq];have hl:=h.len;have h32:=h.le;have e1:IntKind.i64.wrap ((0:Int)+1)=1:=by decide
 have e2:IntKind.i64.wrap ((1:Int)+1)=2:=by decide
 by_cases h1:32<=x.s.length
 ·have h1':(32:Int)<=(x.s.length:Int):=by omega
  simp only[h1',Jn,go_sem,AB,AE];simp[St.FR,St.PR,h1]
 ·have h1':¬(32:Int)<=(x.s.length:Int):=by omega
  have h2:x.s.length+1=(cr x.s.length arr.elems++[az a]).length:=by simp;omega
  have h3:(x.s.length+1)*8<=140737488355328/\x.s.length+1<=9223372036854775807:=by omega
  have hx:x.push a=⟨a::x.s,x.e⟩:=if_neg h1;have hA:x.HU arr a= .agg (arr.elems.take x.s.length++[.int a]):=if_neg h1;simp only[h1',go_sem,AB,e1,e2,qf,List.getD_cons_succ,<-h2,h3];by_cases h4:32<=x.s.length+1
  ·have h4':(32:Int)<=((x.s.length+1:Nat):Int):=by omega
   have:=Jn (R:=R) (N:=M+3) (x:=x.push a) (arr:=x.HU arr a) 4;rw[hx,hA]at this;simp only[cn]at this;simp only[h4',go_sem,AB,this];simp[St.FR,St.PR,h1,hx,hA,St.push,St.HU,h4]
  ·have h4':¬(32:Int)<=((x.s.length+1:Nat):Int):=by omega
   have h5:(x.s.length+1+1)*8<=140737488355328/\x.s.length+1+1<=9223372036854775807:=by omega
   have h6:cr (x.s.length+1) (cr x.s.length arr.elems++[az a])=cr x.s.length arr.elems++[az a]:=du (by omega);have h7:x.s.length+1+1=(cr x.s.length arr.elems++[az a]++[az b]).length:=by simp;omega
   simp only[h4',go_sem,AB,DQ,h5,h6,<-h7];simp[St.FR,St.PR,h1,hx,hA,St.push,St.HU,h4];rw[DQ,h6,List.append_assoc];rfl
theorem Lz (h:OkA x arr) (c:C) (hN:4<N) (k:KD R):Hj N c (.int x.s.length) (.int x.e) arr k=k [.int (x.push (Df c.toBool)).s.length,.int (x.push (Df c.toBool)).e,.int arr.elems.length,x.HU arr (Df c.toBool)] []:=by
 rw[qW];unfold Zr;cases hc:c.toBool <;> simp only[go_sem,AB,bh,AE,Ml h _ hN] <;> first|done|rfl
end
def St.put (x:St) (r:Int × Int):St:=if r.2=0 then x.push r.1 else x.fail r.2
def hiM (a b:Int):Int:=
  (ar ay
   (ar ay
     (ar ay
       (fx (a) (2^min (av 32) 64)*fx (b) (2^min (av 32) 64))+
      fx
       (ar ay
        (ar ay
          (fx (a) (2^min (av 32) 64)*
           Aj dr ay (b) 4294967295)+
         fx
          (ar ay
           (Aj dr ay (a) 4294967295*
            Aj dr ay (b) 4294967295))
          (2^min (av 32) 64)))
       (2^min (av 32) 64))+
    fx
     (ar ay
      (Aj dr ay
        (ar ay
         (ar ay
           (fx (a) (2^min (av 32) 64)*
            Aj dr ay (b) 4294967295)+
          fx
           (ar ay
            (Aj dr ay (a) 4294967295*
             Aj dr ay (b) 4294967295))
           (2^min (av 32) 64)))
        4294967295+
       ar ay
        (Aj dr ay (a) 4294967295*
         fx (b) (2^min (av 32) 64))))
     (2^min (av 32) 64)))
def mulR (a b:Int):Int × Int:=if hiM a b=0 then(IntKind.u64.wrap (a*b),0)else(0,11)
def St.Ik (x:St) (f:Int->Int->Int × Int):St:=if x.pop.2.pop.2.e=0 then x.pop.2.pop.2.put (f x.pop.2.pop.1 x.pop.1)else x.pop.2.pop.2
def CD (w:C) (op:Nat) (arg:Int) (x:St):St:=match op with
 |1=>x.push arg
 |2=>if arg<((w.get 0).elems.length:Int)then x.push ((w.get 0).elems.getD arg.toNat .nil).toInt else x.fail 1
 |3=>x.Ik Ap
 |4=>x.Ik Bu
 |5=>x.Ik mulR
 |6=>x.pop.2.pop.2.push (Df (decide (x.pop.2.pop.1<x.pop.1)))
 |7=>x.pop.2.pop.2.push (Df (decide (x.pop.2.pop.1=x.pop.1)))
 |8=>x.pop.2.push (Df (decide (x.pop.1=0)))
 |9=>x.pop.2.pop.2.push (Df (!decide (x.pop.2.pop.1=0)&& !decide (x.pop.1=0)))
 |10=>x.pop.2.pop.2.push (Df (!decide (x.pop.2.pop.1=0)|| !decide (x.pop.1=0)))
 |13=>x.pop.2.FR x.pop.1 x.pop.1
 |14=>x.pop.2.pop.2.FR x.pop.1 x.pop.2.pop.1
 |15=>x.pop.2
 |16=>if arg<((w.get 1).elems.length:Int)then x.push (Df ((w.get 1).elems.getD arg.toNat .nil).toBool)else x.fail 1
 |17=>x.push (w.get 2).toInt
 |_=>x
structure WOk (w:C):Prop where
 f:∀c∈(w.get 0).elems,c= .int c.toInt
 l0:(w.get 0).elems.length<4611686018427387904
 l1:(w.get 1).elems.length<4611686018427387904
 h:w.get 2= .int (w.get 2).toInt
theorem mul_eq (a b:Int) (k:KD R):SW N (.int a) (.int b) k=k [.int (mulR a b).1,.int (mulR a b).2] []:=by
 have h1:∀k:KD R,SH N (.int a) (.int b) k=k [.int (hiM a b),.int (IntKind.u64.wrap (a*b))] []:=fun k=>by rw[zN];rfl
 rw[aj];unfold fK mulR;rw[h1];simp only[go_sem,AB];by_cases h:hiM a b=0 <;> simp[h]
theorem z0K {w:C} (hw:WOk w) {x:St} {arr:C} (h:OkA x arr) (hN:4<N) (op:Nat) (hop:op<=17) (arg:Int) (ha:0<=arg):∃yy,OkA (CD w op arg x) yy/\∀{R:Type} (k:KD R),
  MD N w (.int op) (.int arg) (.int x.s.length) (.int x.e) arr k=k [.int (CD w op arg x).s.length,.int (CD w op arg x).e,.int arr.elems.length,yy] []:=by
 have c:op=0\/op=1\/op=2\/op=3\/op=4\/op=5\/op=6\/op=7\/op=8\/op=9\/op=10\/op=11\/op=12\/op=13\/op=14\/op=15\/op=16\/op=17:=by omega
 have hp:=h.pop;have hpp:=hp.pop;have red:∀b:Prop,[Decidable b]->(if b then true else false)=decide b:=fun b _=>by by_cases h:b <;> simp[h]
 have m1:IntKind.u64.min=0:=by decide
 have m2:IntKind.u64.max=18446744073709551615:=by decide
 have ofl:∀n:Nat,n<4611686018427387904->IntKind.u64.wrap (n:Int)=n:=fun n hn=>Lj (by omega) (by omega)
 have go:∀(x':St) (yy:C),OkA x' yy->(∀{R:Type} (k:KD R),DZ N w (.int op) (.int arg) (.int x.s.length) (.int x.e) arr k=k [.int x'.s.length,.int x'.e,.int arr.elems.length,yy] [])->x'=CD w op arg x->∃yy,OkA (CD w op arg x) yy/\∀{R:Type} (k:KD R),
  MD N w (.int op) (.int arg) (.int x.s.length) (.int x.e) arr k=k [.int (CD w op arg x).s.length,.int (CD w op arg x).e,.int arr.elems.length,yy] []:=by
  rintro x' yy h1 h2 rfl;exact⟨yy,h1,fun k=>by rw[qU];exact h2 k⟩
 have Ik:∀(f:Int->Int->Int × Int),CD w op arg x=x.Ik f->(∀{R:Type} (k:KD R),DZ N w (.int op) (.int arg) (.int x.s.length) (.int x.e) arr k=
   if x.pop.2.pop.2.e=0 then(if(f x.pop.2.pop.1 x.pop.1).2=0 then k [.int (x.pop.2.pop.2.push (f x.pop.2.pop.1 x.pop.1).1).s.length,.int (x.pop.2.pop.2.push (f x.pop.2.pop.1 x.pop.1).1).e,.int arr.elems.length,x.pop.2.pop.2.HU arr (f x.pop.2.pop.1 x.pop.1).1] []
    else k [.int (x.pop.2.pop.2.fail (f x.pop.2.pop.1 x.pop.1).2).s.length,.int (x.pop.2.pop.2.fail (f x.pop.2.pop.1 x.pop.1).2).e,.int arr.elems.length,arr] [])
   else k [.int x.pop.2.pop.2.s.length,.int x.pop.2.pop.2.e,.int arr.elems.length,arr] [])->∃yy,OkA (CD w op arg x) yy/\∀{R:Type} (k:KD R),
  MD N w (.int op) (.int arg) (.int x.s.length) (.int x.e) arr k=k [.int (CD w op arg x).s.length,.int (CD w op arg x).e,.int arr.elems.length,yy] []:=by
  intro f hf hk;by_cases h1:x.pop.2.pop.2.e=0
  ·by_cases h2:(f x.pop.2.pop.1 x.pop.1).2=0
   ·refine go _ _ (hpp.push (f x.pop.2.pop.1 x.pop.1).1) (fun k=>?_) ?_
    ·rw[hk,if_pos h1,if_pos h2]
    ·rw[hf];simp[St.Ik,St.put,h1,h2]
   ·refine go _ _ (hpp.fail (f x.pop.2.pop.1 x.pop.1).2) (fun k=>?_) ?_
    ·rw[hk,if_pos h1,if_neg h2]
    ·rw[hf];simp[St.Ik,St.put,h1,h2]
  ·refine go _ _ hpp (fun k=>?_) ?_
   ·rw[hk,if_neg h1]
   ·rw[hf];simp[St.Ik,h1]
 rcases c with rfl|rfl|rfl|rfl|rfl|rfl|rfl|rfl|rfl|rfl|rfl|rfl|rfl|rfl|rfl|rfl|rfl|rfl
 case inr.inl =>   -- push
  refine go _ _ (h.push arg) (fun k=>?_) rfl;unfold DZ;simp only[go_sem,AB,bh,if_true,Ml h _ hN,Int.reduceEq,reduceIte]
 case inr.inr.inl =>   -- load
  by_cases hlt:arg<((w.get 0).elems.length:Int)
  ·have zl:¬((w.get 0).elems.length:Int)<=arg:=by omega
   have z5H:(w.get 0).elems.getD arg.toNat .nil= .int ((w.get 0).elems.getD arg.toNat .nil).toInt:=by
    refine hw.f _ ?_;rw[bn,bm (by omega)];exact List.getElem_mem _
   refine go _ _ (h.push ((w.get 0).elems.getD arg.toNat .nil).toInt) (fun k=>?_) (by simp only[CD,hlt,if_true]);unfold DZ;simp only[go_sem,AB,bh,if_true,ofl _ hw.l0,zl,hlt,ha,and_self,Int.reduceEq,reduceIte];rw[z5H,Ml h _ hN];simp only[go_sem,AB,bh,if_true]
  ·have zl:((w.get 0).elems.length:Int)<=arg:=by omega
   refine go _ _ (h.fail 1) (fun k=>?_) (by simp only[CD,hlt,if_false]);unfold DZ;simp only[go_sem,AB,bh,if_true,ofl _ hw.l0,zl,Jn,Int.reduceEq,reduceIte]
 case inr.inr.inr.inl =>   -- add
  refine Ik Ap rfl fun k=>?_;unfold DZ;simp only[go_sem,AB,bh,if_true,Dg h,Dg hp,add_eq,Ml hpp _ hN,Jn,Int.reduceEq,reduceIte];by_cases h1:x.pop.2.pop.2.e=0 <;> by_cases h2:(Ap x.pop.2.pop.1 x.pop.1).2=0 <;> simp[h1,h2]
 case inr.inr.inr.inr.inl =>   -- sub
  refine Ik Bu rfl fun k=>?_;unfold DZ;simp only[go_sem,AB,bh,if_true,Dg h,Dg hp,sub_eq,Ml hpp _ hN,Jn,Int.reduceEq,reduceIte];by_cases h1:x.pop.2.pop.2.e=0 <;> by_cases h2:(Bu x.pop.2.pop.1 x.pop.1).2=0 <;> simp[h1,h2]
 case inr.inr.inr.inr.inr.inl =>   -- mul
  refine Ik mulR rfl fun k=>?_;unfold DZ;simp only[go_sem,AB,bh,if_true,Dg h,Dg hp,mul_eq,Ml hpp _ hN,Jn,Int.reduceEq,reduceIte];by_cases h1:x.pop.2.pop.2.e=0 <;> by_cases h2:(mulR x.pop.2.pop.1 x.pop.1).2=0 <;> simp[h1,h2]
 all_goals try (   -- those that can't fail of themselves
  first
  |(refine go _ _ (hpp.push _) (fun k=>?_) rfl
    unfold DZ;simp only[go_sem,AB,Ah,bh,if_true,Dg h,Dg hp,Lz hpp _ hN,Int.reduceEq,reduceIte]
    first|done|rfl)
  |(refine go _ _ (hp.push _) (fun k=>?_) rfl
    unfold DZ;simp only[go_sem,AB,Ah,bh,if_true,Dg h,Lz hp _ hN,Int.reduceEq,reduceIte]
    first|done|rfl)
  |(refine go _ _ (hp.FR _ _) (fun k=>?_) rfl
    unfold DZ;simp only[go_sem,AB,bh,if_true,Dg h,X7 hp _ _ hN,Int.reduceEq,reduceIte]
    first|done|rfl)
  |(refine go _ _ (hpp.FR _ _) (fun k=>?_) rfl
    unfold DZ;simp only[go_sem,AB,bh,if_true,Dg h,Dg hp,X7 hpp _ _ hN,Int.reduceEq,reduceIte]
    first|done|rfl)
  |(refine go _ _ hp (fun k=>?_) rfl
    unfold DZ;simp only[go_sem,AB,bh,if_true,Dg h,Int.reduceEq,reduceIte]
    first|done|rfl)
  |(refine go _ _ h (fun k=>?_) rfl
    unfold DZ;simp only[go_sem,AB,bh,if_true,Int.reduceEq,reduceIte]
    first|done|rfl))
 ·by_cases h1:x.pop.2.pop.1=0
  ·refine go _ _ (hpp.push (Df false)) (fun k=>?_) (by simp[CD,h1]);unfold DZ;simp only[go_sem,AB,Ah,bh,AE,Dg h,Dg hp,h1,Lz hpp _ hN,Int.reduceEq,reduceIte]
   first|done|rfl
  ·refine go _ _ (hpp.push (Df (!decide (x.pop.1=0)))) (fun k=>?_) (by simp[CD,h1]);unfold DZ;simp only[go_sem,AB,Ah,bh,AE,Dg h,Dg hp,h1,Lz hpp _ hN,Int.reduceEq,reduceIte]
   first|done|rfl
 ·by_cases h1:x.pop.2.pop.1=0
  ·refine go _ _ (hpp.push (Df (!decide (x.pop.1=0)))) (fun k=>?_) (by simp[CD,h1]);unfold DZ;simp only[go_sem,AB,Ah,bh,AE,Dg h,Dg hp,h1,Lz hpp _ hN,Int.reduceEq,reduceIte]
   first|done|rfl
  ·refine go _ _ (hpp.push (Df true)) (fun k=>?_) (by simp[CD,h1]);unfold DZ;simp only[go_sem,AB,Ah,bh,AE,Dg h,Dg hp,h1,Lz hpp _ hN,Int.reduceEq,reduceIte]
   first|done|rfl
 ·by_cases hlt:arg<((w.get 1).elems.length:Int)
  ·have zl:¬((w.get 1).elems.length:Int)<=arg:=by omega
   refine go _ _ (h.push (Df ((w.get 1).elems.getD arg.toNat .nil).toBool)) (fun k=>?_) (by simp only[CD,hlt,if_true]);unfold DZ;simp only[go_sem,AB,bh,if_true,ofl _ hw.l1,zl,hlt,ha,and_self,Lz h _ hN,Int.reduceEq,reduceIte]
   first|done|rfl
  ·have zl:((w.get 1).elems.length:Int)<=arg:=by omega
   refine go _ _ (h.fail 1) (fun k=>?_) (by simp only[CD,hlt,if_false]);unfold DZ;simp only[go_sem,AB,bh,if_true,ofl _ hw.l1,zl,Jn,Int.reduceEq,reduceIte]
 ·refine go _ _ (h.push (w.get 2).toInt) (fun k=>?_) rfl;unfold DZ;simp only[go_sem,AB,bh,if_true,Int.reduceEq,reduceIte];rw[hw.h,Ml h _ hN];simp only[go_sem,AB,bh,if_true]
end
section
variable {R:Type} {N:Nat}
def Bs (o:Int):Int:=if o=5 then 3 else if o=16 then 10 else 1
theorem Qm (o:Int):1<=Bs o/\Bs o<=10:=by unfold Bs;(repeat' split) <;> omega
theorem q6k:∀(o:Nat),o<18->(Ek.getD o .nil).get 2= .int (Bs o):=by
 intro o h;have c:o=0\/o=1\/o=2\/o=3\/o=4\/o=5\/o=6\/o=7\/o=8\/o=9\/o=10\/o=11\/o=12\/o=13\/o=14\/o=15\/o=16\/o=17:=by omega
 rcases c with rfl|rfl|rfl|rfl|rfl|rfl|rfl|rfl|rfl|rfl|rfl|rfl|rfl|rfl|rfl|rfl|rfl|rfl <;> rfl
def CL (p:List C) (i:Nat):Int:=CA p (i+1) (Ay (bN p i))
def LW (p:List C) (gas:Int) (w:C):Nat->Nat->Int->St->Int × Int × Int
 |0,_,_,_=>(0,0,0)
 |f+1,i,sp,x=>
  if Ar p i≠0 then(0,sp,Ar p i)
  else if gas-sp<Bs (bN p i)then(0,sp,24)
  else if bN p i=0 then(x.pop.1,sp+Bs (bN p i),x.pop.2.e)
  else if bN p i=11 then(if x.e≠0 then(0,sp+Bs (bN p i),x.e)else LW p gas w f (CL p i).toNat (sp+Bs (bN p i)) x)
  else if bN p i=12 then(if x.pop.2.e≠0 then(0,sp+Bs (bN p i),x.pop.2.e)else LW p gas w f (if x.pop.1=0 then i+1+Ay (bN p i)else(CL p i).toNat) (sp+Bs (bN p i)) x.pop.2)
  else(if(CD w (bN p i).toNat (CL p i) x).e≠0 then(0,sp+Bs (bN p i),(CD w (bN p i).toNat (CL p i) x).e)
   else LW p gas w f (i+1+Ay (bN p i)) (sp+Bs (bN p i)) (CD w (bN p i).toNat (CL p i) x))
theorem QB {p:List C} {gas:Int} {w:C}:∀(f g i:Nat) (sp:Int) (x:St),(gas-sp).toNat<f->(gas-sp).toNat<g->LW p gas w f i sp x=LW p gas w g i sp x
 |0,_,_,_,_,h,_=>by omega
 |_+1,0,_,_,_,_,h=>by omega
 |f+1,g+1,i,sp,x,h1,h2=>by
  have hc:=Qm (bN p i);simp only[LW];split
  ·rfl
  split
  ·rfl
  split
  ·rfl
  split
  ·split
   ·rfl
   ·exact QB f g _ _ _ (by omega) (by omega)
  split
  ·split
   ·rfl
   ·exact QB f g _ _ _ (by omega) (by omega)
  split
  ·rfl
  ·exact QB f g _ _ _ (by omega) (by omega)
def ED (p:List C) (gas:Int) (w:C) (i:Nat) (sp:Int) (x:St):Int × Int × Int:=LW p gas w ((gas-sp).toNat+1) i sp x
theorem q1b {p:List C} {gas:Int} {w:C} {i:Nat} {sp:Int} {x:St}:ED p gas w i sp x=
  if Ar p i≠0 then(0,sp,Ar p i)
  else if gas-sp<Bs (bN p i)then(0,sp,24)
  else if bN p i=0 then(x.pop.1,sp+Bs (bN p i),x.pop.2.e)
  else if bN p i=11 then(if x.e≠0 then(0,sp+Bs (bN p i),x.e)else ED p gas w (CL p i).toNat (sp+Bs (bN p i)) x)
  else if bN p i=12 then(if x.pop.2.e≠0 then(0,sp+Bs (bN p i),x.pop.2.e)else ED p gas w (if x.pop.1=0 then i+1+Ay (bN p i)else(CL p i).toNat) (sp+Bs (bN p i)) x.pop.2)
  else(if(CD w (bN p i).toNat (CL p i) x).e≠0 then(0,sp+Bs (bN p i),(CD w (bN p i).toNat (CL p i) x).e)
   else ED p gas w (i+1+Ay (bN p i)) (sp+Bs (bN p i)) (CD w (bN p i).toNat (CL p i) x)):=by
 have hc:=Qm (bN p i);unfold ED;rw[LW];split
 ·rfl
 split
 ·rfl
 split
 ·rfl
 split
 ·split
  ·rfl
  ·exact QB _ _ _ _ _ (by omega) (by omega)
 split
 ·split
  ·rfl
  ·exact QB _ _ _ _ _ (by omega) (by omega)
 split
 ·rfl
 ·exact QB _ _ _ _ _ (by omega) (by omega)
theorem VC {p:List C} (hp:C.wf (.slice 1 (.int .u8)) (.slice p)) {i:Nat} (h:i+1+Ay (bN p i)<=p.length) (h2:bN p i=11\/bN p i=12):0<=CL p i/\CL p i<65536:=by
 have hm:Ay (bN p i)=2:=by rcases h2 with h2|h2 <;> rw[h2] <;> rfl
 have h16:=ZK hp (i:=i+1) (k:=Ay (bN p i)) (by omega);unfold CL;rw[hm]at h16 ⊢;exact⟨h16.1,by have:=h16.2;omega⟩
structure q2Z where
 i:Nat
 sp:Int
 x:St
 arr:C
theorem z3C {p:List C} (hp:C.wf (.slice 1 (.int .u8)) (.slice p)) (hl:p.length<=256) {gas:Int} (hg:0<=gas/\gas<=4096) {w:C} (hw:WOk w) (hN:5000<N) (k:KD R):
  Np N (.slice p) w (.int gas) k=k [.int (ED p gas w 0 0 ⟨[],0⟩).1,.int (ED p gas w 0 0 ⟨[],0⟩).2.1,.int (ED p gas w 0 0 ⟨[],0⟩).2.2] []:=by
 rw[Zq];unfold VU;have a1:¬(256:Int)<(p.length:Int):=by omega
 have a2:¬gas<0:=by omega
 have a3:¬(4096:Int)<gas:=by omega
 simp only[go_sem,AB,AJ,Ah,a1,a2,a3,AE]
 refine Hr (F:=Zp N k) (fun i:q2Z=>[.slice p,.int gas,w,.int i.i,.int i.sp,.int i.x.s.length,.int i.x.e,i.arr]) (fun _=>[]) (fun i=>(gas-i.sp).toNat)
  (fun i=>OkA i.x i.arr/\i.x.e=0/\0<=i.sp/\i.sp<=gas/\i.i<=100000) (fun i=>k [.int (ED p gas w i.i i.sp i.x).1,.int (ED p gas w i.i i.sp i.x).2.1,.int (ED p gas w i.i i.sp i.x).2.2] [])
  ?_ N ⟨0,0,⟨[],0⟩,.agg []⟩ ⟨⟨by simp,by simp[au]⟩,rfl,by dsimp only;omega,by dsimp only;omega,by dsimp only;omega⟩ (by dsimp only;omega)
 rintro⟨i,sp,x,arr⟩ ⟨hA,he,h0,h1,hi⟩ rec zd;dsimp only at hA he h0 h1 hi zd ⊢;rw[q1b];unfold Zp;have b1:aq p<=256/\(0:Int)<=(i:Int)/\(i:Int)<=100000:=⟨hl,by omega,by omega⟩;simp only[go_sem,AB,AJ,Ah,b1,if_true,and_self,bh];by_cases e1:Ar p i=0
 case neg=>simp[e1]
 have hb:i<p.length/\bN p i<18/\i+1+Ay (bN p i)<=p.length:=by
  unfold Ar at e1;split at e1
  ·cases e1
  split at e1
  ·cases e1
  split at e1
  ·cases e1
  omega
 have hbw:=Hg hp hb.1;have hop:0<=bN p i/\bN p i<18:=by omega
 simp only[e1,hop,AE,and_self,ne_eq,not_true];have hco:(Ek.getD (bN p i).toNat .nil).get 2= .int (Bs (bN p i)):=by
  have:=q6k (bN p i).toNat (by omega)
  rwa [gy hop.1]at this
 have hcp:=Qm (bN p i);have w1:IntKind.i64.wrap (gas-sp)=gas-sp:=dh _ (by omega);have w2:IntKind.i64.wrap (sp+Bs (bN p i))=sp+Bs (bN p i):=dh _ (by omega);have hmo:=Jz (bN p i);obtain⟨g1,g2,g3⟩:=Ls hp (i:=i+1) (k:=Ay (bN p i)) (by omega) hmo;have hpl:=z0K hw hA (N:=N) (by omega) (bN p i).toNat (by omega) (CA p (i+1) (Ay (bN p i))) g1;rw[gy hop.1]at hpl;simp only[hco,go_sem,AB,w1,w2];generalize hc:Bs (bN p i)=c at*;by_cases e2:gas-sp<c
 ·simp[e2]
 by_cases e3:bN p i=0
 ·simp[e2,e3,Dg hA,go_sem]
 have hw3:0<=CL p i->CL p i<65536->IntKind.i64.wrap (CA p (i+1) (Ay (bN p i)))=((CL p i).toNat:Int):=fun h1 h2=>by
  rw[gy h1];exact dh _ (by unfold CL at*;omega)
 by_cases e4:bN p i=11
 ·obtain⟨q1,q2⟩:=VC hp hb.2.2 (.inl e4);have:=zd ⟨(CL p i).toNat,sp+c,x,arr⟩ ⟨hA,he,by dsimp only;omega,by dsimp only;omega,by dsimp only;omega⟩ (by dsimp only;omega);simp only[hw3 q1 q2];simp only[e2,e3,e4,he,AE,not_true,not_false_iff,Int.reduceEq];simpa only[he]using this
 by_cases e5:bN p i=12
 ·obtain⟨q1,q2⟩:=VC hp hb.2.2 (.inr e5);simp only[hw3 q1 q2,Dg hA];simp only[e2,e3,e4,e5,go_sem,AB,AE,not_true,not_false_iff,Int.reduceEq,bh];by_cases e6:x.pop.2.e=0
  ·by_cases e7:x.pop.1=0
   ·have:=zd ⟨i+1+Ay (bN p i),sp+c,x.pop.2,arr⟩ ⟨hA.pop,e6,by dsimp only;omega,by dsimp only;omega,by dsimp only;omega⟩ (by dsimp only;omega);simp only[e5]at this;simpa[e6,e7]using this
   ·have:=zd ⟨(CL p i).toNat,sp+c,x.pop.2,arr⟩ ⟨hA.pop,e6,by dsimp only;omega,by dsimp only;omega,by dsimp only;omega⟩ (by dsimp only;omega);simpa[e6,e7]using this
  ·by_cases e7:x.pop.1=0 <;> simp[e6,e7]
 ·obtain⟨yy,hA',hk⟩:=hpl;simp only[hk];simp only[e2,e3,e4,e5,go_sem,AB,AE,not_true,not_false_iff,Int.reduceEq,bh];have hq:CA p (i+1) (Ay (bN p i))=CL p i:=rfl;rw[hq]at hA' ⊢;by_cases e6:(CD w (bN p i).toNat (CL p i) x).e=0
  ·have:=zd ⟨i+1+Ay (bN p i),sp+c,CD w (bN p i).toNat (CL p i) x,yy⟩ ⟨hA',e6,by dsimp only;omega,by dsimp only;omega,by dsimp only;omega⟩ (by dsimp only;omega);simpa[e6]using this
  ·simp[e6]
end
def VK {R:Type} (N:Nat) (k1:KD R) (k2:KD R):KD R->KD R:=fun k3 d3 m3=>(bif decide (ao (dk d3 3)<2)then(if 0<=ao (dk d3 3)/\ao (dk d3 3)<2 then(jn (fun d4 m4=>(bif cz (dk d4 4)then(k1 [az 12] [])else(k3 [dk d4 0,dk d4 1,dk d4 2,az (ar aw (ao (dk d4 3)+1))] []))) (fun k4=>(bif decide (ao (bc (bc (dk d3 0) 8) 1)<ao (bc (bc (dk d3 1) 0) 1))then(if 0<=ao (dk d3 3)/\ao (dk d3 3)<2 then(k4 [dk d3 0,dk d3 1,dk d3 2,dk d3 3,cg (decide (ao (bc (bc (bc (dk d3 1) 0) 3) (av (ao (dk d3 3))))<ao (bc (dk d3 2) (av (ao (dk d3 3))))))] [])else none)else(k4 [dk d3 0,dk d3 1,dk d3 2,dk d3 3,cg false] []))))else none)else(k2 [] []))
def Za (a0 a1:C) (k1:KD R):Option R:=bif decide (ao (bc a0 6)=2)then(k1 [az 31] [])else(JJ N (bc a0 2) a1 (bc a0 0) (fun d1 m1=>(bif !cz (dk d1 0)then(k1 [az 20] [])else(PK N (bc a1 0) (bc a0 4) (fun d2 m2=>(bif !decide (ao (dk d2 0)=0)then(k1 [dk d2 0] [])else(jn (fun d3 m3=>(k1 [az 0] [])) (fun k2=>(Ac N (VK N k1 k2) [a0,a1,bc a0 5,az 0] [])))))))))
def Ly:=lid "" (@Za R N)
theorem pX {R N a0 a1 k}:@Ly R N a0 a1 k=Za N a0 a1 k:=by unfold Ly;rw[AV]
def q3J:OvG R:=Ae [Ax,Dw] (Bq (Ly N)) (BD (br aw))
theorem ZZ:okX 39 (@q3J R N):=Ai (AH (q4O N) <| AH (Y1 N) <| AW) N [(39,[(0,[(2,5),(3,5)])])] [(39,[([1,0,1,1,1],(Af [])),
  ([4,1,0,1,1,1],(AX [2,3,29] [(30,.d (.int .i64))])),
  ([0,1,4,0,1,1,5,4,1,0,1,1,1],(AX [2,3,29,30] [(49,.d .bool)])),
  ([9],(Af [(4,.d (.int .i64))]))])] (fun _ _=>pX)
def hR {R:Type} (N:Nat) (a0:C) (k1:KD R):Option R:=bif bo (aq (au (bc a0 4))) (aq (au (bc a0 4)))then(k1 [dj [bc a0 0,bc a0 1,bc a0 2,bc a0 3,bj (au (bc a0 4))]] [])else none
def PL:=lid "" (@hR R N)
theorem Y6 {R N a0 k}:@PL R N a0 k=hR N a0 k:=by unfold PL;rw[AV]
def z0C:OvG R:=Ae [Bi] (Bw (PL N)) (BD Bi)
theorem Y5:okX 63 (@z0C R N):=Ai (AH (qQ N) <| AW) N [] [(63,[([9],⟨[],[(2,.as (.ptr (.l 2) [] Bi))],[],[(.l 2,.box (.d Bi))],[],[]⟩)])] (fun _ _=>Y6)
def ZW (a0:C) (k1:KD R):Option R:=PL N (bc a0 8) (fun d1 m1=>(bif bo (aq (au (bc a0 3))) (aq (au (bc a0 3)))then(k1 [dj [bc a0 0,bc a0 1,bc a0 2,bj (au (bc a0 3)),bc a0 4,bc a0 5,bc a0 6,bc a0 7,dk d1 0]] [])else none))
def Lw:=lid "" (@ZW R N)
theorem pV {R N a0 k}:@Lw R N a0 k=ZW N a0 k:=by unfold Lw;rw[AV]
def q3H:OvG R:=Ae [Ax] (Bw (Lw N)) (BD Ax)
theorem ZV:okX 36 (@q3H R N):=Ai (AH (Zm N) <| AH (Y5 N) <| AW) N [(36,[(1,[(8,7)])])] [(36,[([9],⟨[],[(2,.as (.ptr (.l 2) [] Ax))],[],[(.l 2,.box (.d Ax))],[],[]⟩)])] (fun _ _=>pV)
def BF:C:=dj [AI (br cm),AI (ct 2 (br aw)),dj [dj [dj (bf 32 (az 0)),dj (bf 32 (az 0))],az 0],bj [],AI (ct 2 (br ay)),AI (ct 2 (br ay)),AI (br aw),AI (br ay),dj [AI (br cm),AI (br ay),AI (ct 2 (br ay)),AI (ct 2 (br ay)),bj []]]
def ZY (a0 a1:C) (k1:KD R):Option R:=Lw N a0 (fun d1 m1=>(jn (fun d2 m2=>(k1 [dk d2 0] [])) (fun k2=>(bif decide (ao (bc (bc (dk d1 0) 8) 1)<ao (bc (bc a1 0) 1))then(PL N (bc a1 0) (fun d2 m2=>(k2 [db (dk d1 0) 8 (dk d2 0),BF] [])))else(k2 [dk d1 0,BF] [])))))
def Lx:=lid "" (@ZY R N)
theorem pW {R N a0 a1 k}:@Lx R N a0 a1 k=ZY N a0 a1 k:=by unfold Lx;rw[AV]
def q3I:OvG R:=Ae [Ax,Dw] (Bq (Lx N)) (BD Ax)
theorem ZX:okX 40 (@q3I R N):=Ai (AH (ZV N) <| AH (Y5 N) <| AW) N [(40,[(0,[(3,5)])])] [(40,[([1,0,1,1],(AX [2,4] [])),
  ([9],⟨[],[(4,.as (.ptr (.l 4) [] Ax))],[],[(.l 4,.box (.d Ax))],[],[]⟩)])] (fun _ _=>pW)
def Zb (a0:C) (k1:KD R):Option R:=Np N (bc a0 3) (dj [bj [bc (bc a0 4) (av 0),bc (bc a0 4) (av 1),bc (bc a0 8) 1],bj [],AI (br ay)]) (az 200) (fun d1 m1=>(bif !decide (ao (dk d1 2)=0)then(k1 [az 5] [])else(k1 [az (if 1<if 50<ao (dk d1 0)then 50 else ao (dk d1 0)then if 50<ao (dk d1 0)then 50 else ao (dk d1 0)else 1)] [])))
def Qe:=lid "" (@Zb R N)
theorem pY {R N a0 k}:@Qe R N a0 k=Zb N a0 k:=by unfold Qe;rw[AV]
def q3K:OvG R:=Ae [Ax] (Bw (Qe N)) (BD (br ay))
theorem q3L:okX 41 (@q3K R N):=Ai (AH (q35 N) <| AW) N [(41,[(0,[(1,5)])])] [(41,[([9],(Af [(2,.d (.int .u64))]))])] (fun _ _=>pY)
def ZR (a0 a1 a2:C) (k1:KD R):Option R:=bif decide (ao (bc a0 6)=1)then(k1 [az 3,BF] [])else(Ly N a0 a1 (fun d1 m1=>(bif !decide (ao (dk d1 0)=0)then(k1 [dk d1 0,BF] [])else(Lx N a0 a1 (fun d2 m2=>(Qe N (dk d2 0) (fun d3 m3=>(JW N a2 (dk d3 0) (fun d4 m4=>(bif !decide (ao (dk d4 1)=0)then(k1 [dk d4 1,BF] [])else(k1 [az 0,db (db (dk d2 0) 6 (az 1)) 7 (dk d4 0)] [])))))))))))
def Qa:=lid "" (@ZR R N)
theorem pR {R N a0 a1 a2 k}:@Qa R N a0 a1 a2 k=ZR N a0 a1 a2 k:=by unfold Qa;rw[AV]
def q3z:OvG R:=Ae [Ax,Dw,.int .u64] (Eb (Qa N)) fun a K d1 m1=>K (ow [V.d Ax (dk d1 1),V.d (br aw) (dk d1 0)]) []
theorem q3A:okX 12 (@q3z R N):=Ai (AH (Wq N) <| AH (ZZ N) <| AH (ZX N) <| AH (q3L N) <| AW) N [(12,[(0,[(4,5)])])] [(12,[([9],⟨[],[(6,.as (.ptr (.l 6) [] Ax)),(7,.d (.int .i64))],[],[(.l 6,.box (.d Ax))],[],[]⟩)])] (fun _ _=>pR)
section
variable {R:Type} {N:Nat}
def SOk (s:C):Prop:=s= .agg [s.get 0,s.get 1,s.get 2,s.get 3,.slice (AY s)]
def mkB (id who rts:C) (yj:List C) (put yi ph un yh:C):C:=.agg [id,who,rts,.slice yj,put,yi,ph,un,yh]
theorem Y4 {s:C} (h:SOk s) (k:KD R):PL N s k=k [s] []:=by
 rw[Y6];unfold hR;simp only[bw,cond_true];exact congrArg (fun x=>k [x] []) h.symm
section
variable {id who rts:C} {yj:List C} {put yi ph un yh:C}
theorem Zd (h:SOk yh) (k:KD R):Lw N (mkB id who rts yj put yi ph un yh) k=k [mkB id who rts yj put yi ph un yh] []:=by
 rw[pV];unfold ZW mkB;simp only[go_sem,Y4 h,AJ,bw,cond_true]
def LM (yh yi s:C) (_:Nat) (_:Unit) (side:Nat):Unit ⊕ Int:=if(yh.get 1).toInt<(s.get 1).toInt/\((s.get 3).get side).toInt<(yi.get side).toInt then .inr 12 else .inl ()
def EY (ph put yi yh d:C) (w:Bool):Int:=
 if ph.toInt=2 then 31 else if w=false then 20 else if Fm (d.get 0) put≠0 then Fm (d.get 0) put else okE (BG (LM yh yi (d.get 0)) 0 () [0,1])
theorem look_eq {d:C} {w:Bool} (hW:∀k:KD R,JJ N rts d id k=k [.bool w] []) (hN:2199023255552<N) (k:KD R):
  Ly N (mkB id who rts yj put yi ph un yh) d k=k [.int (EY ph put yi yh d w)] []:=by
 rw[pX];unfold Za EY mkB;simp only[go_sem,AB,Ah,hW,q1H (d.get 0) put hN];by_cases h1:ph.toInt=2
 ·simp[h1]
 cases w
 ·simp[h1]
 by_cases h2:Fm (d.get 0) put=0
 case neg=>simp[h1,h2]
 simp only[h1,h2,AE,ne_eq,not_true,Bool.true_eq_false];refine(Hs (F:=VK N k _) (fun i (_:Unit)=>[.agg [id,who,rts,.slice yj,put,yi,ph,un,yh],d,yi,.int i]) (fun _ _=>[]) ([0,1]:List Nat) (LM yh yi (d.get 0)) (fun _=>k [.int 0] []) (fun e=>k [.int e] []) (s0:=()) ?_ ?_ (show 2<N by omega)).trans ?_
 ·intro i _ c hx hi rec;have hi2:i<2:=hi;have h1:(i:Int)<2:=by omega
  have hc:c=i:=by
   have:i=0\/i=1:=by omega
   rcases this with rfl|rfl <;> simp at hx <;> exact hx.symm
  subst hc;unfold VK LM;simp only[go_sem,AB,Ah,h1,BM (show c<4611686018427387904 by omega),bu,and_self,if_true];by_cases h3:(yh.get 1).toInt<((d.get 0).get 1).toInt
  ·by_cases h4:(((d.get 0).get 3).get c).toInt<(yi.get c).toInt <;> simp[h3,h4]
  ·simp[h3]
 ·intro _ rec;unfold VK;simp[go_sem,AB]
 ·unfold EA okE;cases BG (LM yh yi (d.get 0)) 0 () [0,1] <;> rfl
def Bn (yh d:C):C:=if(yh.get 1).toInt<((d.get 0).get 1).toInt then d.get 0 else yh
theorem ZO {d:C} (h:SOk yh) (hd:SOk (d.get 0)) (k:KD R):Lx N (mkB id who rts yj put yi ph un yh) d k=k [mkB id who rts yj put yi ph un (Bn yh d)] []:=by
 rw[pW];unfold ZY Bn;rw[Zd h];unfold mkB;simp only[go_sem,AB,Y4 hd];by_cases h3:(yh.get 1).toInt<((d.get 0).get 1).toInt <;> simp[h3]
def GR (p:List C) (w:C) (gas:Int):Int × Int × Int:=if 256<p.length\/gas<0\/4096<gas then(0,0,1)else ED p gas w 0 0 ⟨[],0⟩
theorem run_eq {p:List C} (hp:C.wf (.slice 1 (.int .u8)) (.slice p)) {gas:Int} {w:C} (hw:WOk w) (hN:5000<N) (k:KD R):
  Np N (.slice p) w (.int gas) k=k [.int (GR p w gas).1,.int (GR p w gas).2.1,.int (GR p w gas).2.2] []:=by
 unfold GR;by_cases h:256<p.length\/gas<0\/4096<gas
 ·rw[if_pos h,Zq];unfold VU;simp only[go_sem,AB,AJ,Ah];by_cases a1:(256:Int)<(p.length:Int)
  ·simp[a1]
  by_cases a2:gas<0
  ·simp[a1,a2]
  have a3:(4096:Int)<gas:=by omega
  simp[a1,a2,a3]
 ·rw[if_neg h];exact z3C hp (by omega) (by omega) hw hN k
def GW (put yh:C):C:=.agg [.slice [put.get 0,put.get 1,yh.get 1],.slice [],.int 0]
def Gn (yj:List C) (put yh:C):Int:=
 if(GR yj (GW put yh) 200).2.2≠0 then 5 else
  if 1<(if 50<(GR yj (GW put yh) 200).1 then 50 else(GR yj (GW put yh) 200).1)then(if 50<(GR yj (GW put yh) 200).1 then 50 else(GR yj (GW put yh) 200).1)else 1
theorem z4I (yj:List C) (put yh:C):1<=Gn yj put yh/\Gn yj put yh<=50:=by
 unfold Gn;split
 ·omega
 ·split <;> split <;> omega
structure QO (put yh:C):Prop where
 p0:put.get 0= .int (put.get 0).toInt
 p1:put.get 1= .int (put.get 1).toInt
 r:yh.get 1= .int (yh.get 1).toInt
theorem q2I (h:QO put yh):WOk (GW put yh):=by
 refine⟨?_,by simp[GW,bc,au],by simp[GW,bc,au],rfl⟩;intro c hc;have hc:c∈[put.get 0,put.get 1,yh.get 1]:=hc;simp only[List.mem_cons,List.not_mem_nil,or_false]at hc;rcases hc with rfl|rfl|rfl
 ·exact h.p0
 ·exact h.p1
 ·exact h.r
theorem z4J (hr:C.wf (.slice 1 (.int .u8)) (.slice yj)) (h:QO put yh) (hN:5000<N) (k:KD R):Qe N (mkB id who rts yj put yi ph un yh) k=k [.int (Gn yj put yh)] []:=by
 rw[pY];unfold Zb mkB Gn;have hw:dj [bj [put.get (av 0),put.get (av 1),yh.get 1],bj [],AI (br ay)]=GW put yh:=rfl;simp only[cP,MM,WC,hw,run_eq hr (q2I h) hN];simp only[go_sem,AB];by_cases h1:(GR yj (GW put yh) 200).2.2=0
 ·simp[h1];rfl
 ·simp[h1]
def zB:C:=.agg [.int 0,zz,.agg [.agg [.agg (bf 32 (.int 0)),.agg (bf 32 (.int 0))],.int 0],.slice [],zz,zz,.int 0,.int 0,.agg [.int 0,.int 0,zz,zz,.slice []]]
theorem Fu:BF=zB:=rfl
def Gy (id who rts:C) (yj:List C) (put yi ph un yh d:C) (w:Bool) (yk:Int):Int × C:=
 if ph.toInt=1 then(3,zB)else if EY ph put yi yh d w≠0 then(EY ph put yi yh d w,zB)else
  if(Ap yk (Gn yj put (Bn yh d))).2≠0 then((Ap yk (Gn yj put (Bn yh d))).2,zB)else
   (0,mkB id who rts yj put yi (.int 1) (.int (Ap yk (Gn yj put (Bn yh d))).1) (Bn yh d))
theorem q6b {d:C} {w:Bool} (hW:∀k:KD R,JJ N rts d id k=k [.bool w] []) (hr:C.wf (.slice 1 (.int .u8)) (.slice yj)) (h:SOk yh) (hd:SOk (d.get 0)) (hi:QO put yh) (hi2:(d.get 0).get 1= .int ((d.get 0).get 1).toInt) (hN:2199023255552<N) (yk:C) (k:KD R):
  Qa N (mkB id who rts yj put yi ph un yh) d yk k=k [.int (Gy id who rts yj put yi ph un yh d w yk.toInt).1,(Gy id who rts yj put yi ph un yh d w yk.toInt).2] []:=by
 have hi3:QO put (Bn yh d):=⟨hi.p0,hi.p1,by unfold Bn;split;exact hi2;exact hi.r⟩;rw[pR];unfold ZR Gy;rw[Fu];have h6:(mkB id who rts yj put yi ph un yh).get 6=ph:=rfl;have d0:∀(c:C) (l:List C),dk (c::l) 0=c:=fun _ _=>rfl;simp only[h6,look_eq hW hN,ZO h hd,d0,z4J hr hi3 (show 5000<N by omega),add_eq];by_cases h1:ph.toInt=1
 ·simp[h1]
 by_cases h2:EY ph put yi yh d w=0
 case neg=>simp[h1,h2,go_sem,AB]
 by_cases h3:(Ap yk.toInt (Gn yj put (Bn yh d))).2=0 <;> simp[h1,h2,h3,go_sem,AB,mkB]
end
end
def q9O:List Sh:=[.as (.ptr (.g (.l 1)) [] FY),.d (.arr 32 (.int .u8))]
def q9R:List (Key × OSh):=[(.l 1,.box (.agg FY [.as (.mp (.g (.l 2)))])),(.l 2,.map (.arr 32 (.int .u8)) Ag)]
def fZ {R:Type} (N:Nat) (a0 a1 b0:C) (m0:Es) (k1:KD R):Option R:=bif DM Ag (dE Ag m0)then(bif Ie (dE Ag m0) a0 then(k1 [bc (Kl (dE Ag m0) a0) 1,cg true] [])else(k1 [az 0,cg false] []))else none
def Sf:=lid "" (@fZ R N)
theorem w9 {R N a0 a1 b0 m0 k}:@Sf R N a0 a1 b0 m0 k=fZ N a0 a1 b0 m0 k:=by unfold Sf;rw[AV]
def q9P:OvG R:=Cc q9O q9R (fun ds ms=>Sf N (dk ds 0) (dk ds 1) (dk ds 2) (dm ms 0)) fun ds ms K d1 m1=>K (ow [V.d (br ay) (dk d1 0),V.d Ty.bool (cg (cz (dk d1 1)))]) []
theorem q9Q:okX 134 (@q9P R N):=Cj AW N [(134,[(0,[(3,5)])])] [(134,[([9],⟨[],[(4,.d (.int .u64)),(5,.d .bool)],[],[],[.g (.l 1),.g (.l 2)],[]⟩)])] (fun _ _ _=>w9)
def q9C:List Sh:=[.as (.ptr (.g (.l 1)) [] FY),.d (.arr 32 (.int .u8)),.d (.int .u64)]
def q9F:List (Key × OSh):=[(.l 1,.box (.agg FY [.as (.mp (.g (.l 2)))])),(.l 2,.map (.arr 32 (.int .u8)) Ag)]
def Az (g:Key->Key):C × V->C × V:=fun c=>(Prod.fst c,V.ren g id (Prod.snd c))
@[go_sem]theorem UC (g:Key->Key) (τ:Ty) (m:Es):dg (Az g) (dE τ m)=dE τ m:=z2P g τ m
def fW (a0 a1 a2 b0:C) (m0:Es) (k1:KD R):Option R:=if BV Ag (dg (Az (swU (dt 2) (CI (if dt 1=CI [] (gb (dt 1))then[]else[]++[(dt 1,CI [] (gb (dt 1)))]) (gb (dt 2))))) (dg (Az (swU (dt 1) (CI [] (gb (dt 1))))) (dg (Az gb) (dE Ag m0))))=true then(Sf N a0 dw dw (unE (dg (Az (swU (dt 2) (CI (if dt 1=CI [] (gb (dt 1))then[]else[]++[(dt 1,CI [] (gb (dt 1)))]) (gb (dt 2))))) (dg (Az (swU (dt 1) (CI [] (gb (dt 1))))) (dg (Az gb) (dE Ag m0))))) (fun d1 m1=>(jn (fun d2 m2=>(k1 [cg (cz (dk d2 0))] [])) (fun k2=>(bif cz (dk d1 1)then(k2 [cg (decide (ao (dk d1 0)<=ao a1))] [])else(k2 [cg false] []))))))else none
def Sc:=lid "" (@fW R N)
theorem x7 {R N a0 a1 a2 b0 m0 k}:@Sc R N a0 a1 a2 b0 m0 k=fW N a0 a1 a2 b0 m0 k:=by unfold Sc;rw[AV]
def q9D:OvG R:=Cc q9C q9F (fun ds ms=>Sc N (dk ds 0) (dk ds 1) (dk ds 2) (dk ds 3) (dm ms 0)) fun ds ms K d1 m1=>K (V.d Ty.bool (cg (cz (dk d1 0)))) []
theorem q9E:okX 107 (@q9D R N):=Cj (AH (q9Q N) <| AW) N [(107,[(0,[(4,5)])])] [(107,[([0,1,1],⟨[0],[(6,.d .bool)],[],[],[.g (.l 1),.g (.l 2)],[]⟩),
  ([9],⟨[],[(6,.d .bool)],[],[],[.g (.l 1),.g (.l 2)],[]⟩)])] (fun _ _ _=>x7)
def q9G:List Sh:=[.as (.ptr (.g (.l 1)) [] FY),.d DI,.d (.int .u64)]
def q9J:List (Key × OSh):=[(.l 1,.box (.agg FY [.as (.mp (.g (.l 2)))])),(.l 2,.map (.arr 32 (.int .u8)) Ag)]
def fX (a0 a1 b0:C) (m0:Es) (k1:KD R):Option R:=if BV Ag (dg (Az (swU (dt 2) (CI (if dt 1=CI [] (gb (dt 1))then[]else[]++[(dt 1,CI [] (gb (dt 1)))]) (gb (dt 2))))) (dg (Az (swU (dt 1) (CI [] (gb (dt 1))))) (dg (Az gb) (dE Ag m0))))=true then(Sc N (bc a0 3) (bc a0 4) dw dw (unE (dg (Az (swU (dt 2) (CI (if dt 1=CI [] (gb (dt 1))then[]else[]++[(dt 1,CI [] (gb (dt 1)))]) (gb (dt 2))))) (dg (Az (swU (dt 1) (CI [] (gb (dt 1))))) (dg (Az gb) (dE Ag m0))))) (fun d1 m1=>(bif cz (dk d1 0)then(k1 [az 1] [])else(bif decide (ao (bc a0 4)<ao a1)then(k1 [az 2] [])else(k1 [az 0] [])))))else none
def Sd:=lid "" (@fX R N)
theorem x8 {R N a0 a1 b0 m0 k}:@Sd R N a0 a1 b0 m0 k=fX N a0 a1 b0 m0 k:=by unfold Sd;rw[AV]
def q9H:OvG R:=Cc q9G q9J (fun ds ms=>Sd N (dk ds 0) (dk ds 1) (dk ds 2) (dm ms 0)) fun ds ms K d1 m1=>K (V.d (br aw) (dk d1 0)) []
theorem q9I:okX 83 (@q9H R N):=Cj (AH (q9E N) <| AW) N [(83,[(0,[(4,5)])])] [(83,[([9],⟨[],[(6,.d (.int .i64))],[],[],[.g (.l 1),.g (.l 2)],[]⟩)])] (fun _ _ _=>x8)
def q9y:List Sh:=[.as (.ptr (.g (.l 1)) [] FY),.d (.int .u64),.d (.slice 64 DI)]
def q9B:List (Key × OSh):=[(.l 1,.box (.agg FY [.as (.mp (.g (.l 2)))])),(.l 2,.map (.arr 32 (.int .u8)) Ag)]
def Wy (m0:Es) (k2:KD R):KD R->KD R:=fun k3 d1 m1=>(bif decide (ao (dk d1 4)<ao (dk d1 2))then(if 0<=ao (dk d1 4)/\ao (dk d1 4)<(↑(aq (au (dk d1 1))):Int)then(if BV Ag (dg (Az (swU (dt 2) (CI (if dt 1=CI [] (gb (dt 1))then[]else[]++[(dt 1,CI [] (gb (dt 1)))]) (gb (dt 2))))) (dg (Az (swU (dt 1) (CI [] (gb (dt 1))))) (dg (Az gb) (dE Ag m0))))=true then(Sd N (bp (au (dk d1 1)) (av (ao (dk d1 4))) dw) (dk d1 0) dw (unE (dg (Az (swU (dt 2) (CI (if dt 1=CI [] (gb (dt 1))then[]else[]++[(dt 1,CI [] (gb (dt 1)))]) (gb (dt 2))))) (dg (Az (swU (dt 1) (CI [] (gb (dt 1))))) (dg (Az gb) (dE Ag m0))))) (fun d2 m2=>(bif bo (aq (au (dk d1 3))) (aq (au (dk d1 3)))then(if(aq (au (dk d1 3))+1)*8<=140737488355328/\aq (au (dk d1 3))+1<=9223372036854775807 then(bif bo (aq (au (dk d1 3))+1) (aq (au (dk d1 3)++[dk d2 0]))then(k3 [dk d1 0,dk d1 1,dk d1 2,bj (au (dk d1 3)++[dk d2 0]),az (ar aw (ao (dk d1 4)+1))] [])else none)else none)else none)))else none)else none)else(bif bo (aq (au (dk d1 3))) (aq (au (dk d1 3)))then(k2 [bj (au (dk d1 3))] [])else none))
def fV (a0 a1 b0:C) (m0:Es) (k1:KD R):Option R:=jn (fun d1 m1=>(bif bo (aq (au (dk d1 0))) (aq (au (dk d1 0)))then(k1 [bj (au (dk d1 0))] [])else none)) (fun k2=>(Ac N (Wy N m0 k2) [a0,a1,az (↑(aq (au a1)):Int),bj [],az 0] []))
def Sb:=lid "" (@fV R N)
theorem x6 {R N a0 a1 b0 m0 k}:@Sb R N a0 a1 b0 m0 k=fV N a0 a1 b0 m0 k:=by unfold Sb;rw[AV]
def q9z:OvG R:=Cc q9y q9B (fun ds ms=>Sb N (dk ds 0) (dk ds 1) (dk ds 2) (dm ms 0)) fun ds ms K d1 m1=>K (V.ts 8 (br aw) (au (dk d1 0))) []
theorem q9A:okX 57 (@q9z R N):=Cj (AH (q9I N) <| AW) N [] [(57,[([1,0,1,1],⟨[0],[(7,.sl 8 (.int .i64) 5007)],[],[],[.g (.l 1),.g (.l 2)],[]⟩),
  ([4,1,0,1,1],⟨[0,1,10,11],[(7,.sl 8 (.int .i64) 5007),(12,.d (.int .i64))],[],[],[.g (.l 1),.g (.l 2)],[]⟩),
  ([9],⟨[],[(6,.sl 8 (.int .i64) 5006)],[],[],[.g (.l 1),.g (.l 2)],[]⟩)])] (fun _ _ _=>x6) fun ds ms K=>(show _=jn (fun d1 m1=>(bif bo (aq (au (dk d1 0))) (aq (au (dk d1 0)))then
  (K (V.ts 8 (br aw) (au (dk d1 0))) [])
 else
  none)) _ by kernel_rfl).trans (congrArg (fun k=>jn k _) (funext fun _=>funext fun _=>by simp only[bw,cond_true]))
def q3v:List Sh:=[.d Ax,.as (.ptr (.g (.l 1)) [] FY),.d (.int .u64)]
def q3y:List (Key × OSh):=[(.l 1,.box (.agg FY [.as (.mp (.g (.l 2)))])),(.l 2,.map (.arr 32 (.int .u8)) Ag)]
def VJ {R:Type} (N:Nat) (k1:KD R) (k2:KD R):KD R->KD R:=fun k3 d2 m2=>(bif decide (ao (dk d2 3)<ao (dk d2 1))then(if 0<=ao (dk d2 3)/\ao (dk d2 3)<(↑(aq (au (dk d2 0))):Int)then(bif decide (ao (bp (au (dk d2 0)) (av (ao (dk d2 3))) dw)=0)then(k1 [az 30,BF,AI (ct 2 (br ay))] [])else(bif bo (aq (au (dk d2 2))) (aq (au (dk d2 2)))then(if(aq (au (dk d2 2))+1)*1<=140737488355328/\aq (au (dk d2 2))+1<=9223372036854775807 then(bif bo (aq (au (dk d2 2))+1) (aq (au (dk d2 2)++[cg (decide (ao (bp (au (dk d2 0)) (av (ao (dk d2 3))) dw)=1))]))then(k3 [dk d2 0,dk d2 1,bj (au (dk d2 2)++[cg (decide (ao (bp (au (dk d2 0)) (av (ao (dk d2 3))) dw)=1))]),az (ar aw (ao (dk d2 3)+1)),dk d2 4,dk d2 5,dk d2 6] [])else none)else none)else none))else none)else(bif bo (aq (au (dk d2 2))) (aq (au (dk d2 2)))then(k2 [bj (au (dk d2 2)),dk d2 4,dk d2 5,dk d2 6] [])else none))
def ZQ (a0 a1 b0:C) (m0:Es) (k1:KD R):Option R:=bif decide (ao (bc a0 6)=0)then(k1 [az 3,BF,AI (ct 2 (br ay))] [])else(bif decide (ao (bc a0 6)=2)then(k1 [az 31,BF,AI (ct 2 (br ay))] [])else(bif decide (ao a1<ao (bc a0 7))then(k1 [az 30,BF,AI (ct 2 (br ay))] [])else(if BV Ag (dg (Az (swU (dt 2) (CI (if dt 1=CI [] (gb (dt 1))then[]else[]++[(dt 1,CI [] (gb (dt 1)))]) (gb (dt 2))))) (dg (Az (swU (dt 1) (CI [] (gb (dt 1))))) (dg (Az gb) (dE Ag m0))))=true then(Sb N a1 (bc (bc a0 8) 4) dw (unE (dg (Az (swU (dt 2) (CI (if dt 1=CI [] (gb (dt 1))then[]else[]++[(dt 1,CI [] (gb (dt 1)))]) (gb (dt 2))))) (dg (Az (swU (dt 1) (CI [] (gb (dt 1))))) (dg (Az gb) (dE Ag m0))))) (fun d1 m1=>(jn (fun d2 m2=>(Sv N (bc (dk d2 1) 8) (bc (dk d2 1) 4) (bc (dk d2 1) 5) (bj (au (dk d2 0))) (fun d3 m3=>(bif !decide (ao (dk d3 0)=0)then(k1 [dk d3 0,BF,AI (ct 2 (br ay))] [])else(Lw N (dk d2 1) (fun d4 m4=>(k1 [az 0,db (dk d4 0) 6 (az 2),dk d3 1] []))))))) (fun k2=>(Ac N (VJ N k1 k2) [bj (au (dk d1 0)),az (↑(aq (au (dk d1 0))):Int),bj [],az 0,a0,BF,AI (ct 2 (br ay))] [])))))else none)))
def QZ:=lid "" (@ZQ R N)
theorem pQ {R N a0 a1 b0 m0 k}:@QZ R N a0 a1 b0 m0 k=ZQ N a0 a1 b0 m0 k:=by unfold QZ;rw[AV]
def q3w:OvG R:=Cc q3v q3y (fun ds ms=>QZ N (dk ds 0) (dk ds 1) (dk ds 2) (dm ms 0)) fun ds ms K d1 m1=>K (ow [V.d Ax (dk d1 1),V.d (ct 2 (br ay)) (dk d1 2),V.d (br aw) (dk d1 0)]) []
theorem q3x:okX 29 (@q3w R N):=Cj (AH (ZV N) <| AH (q9A N) <| AH (z0B N) <| AW) N [(29,[(20,[(12,6),(3,6)])])] [(29,[([1,0,1,1,1],⟨[1,3,6,7],[(9,.sl 1 .bool 5009)],[],[],[.g (.l 1),.g (.l 2)],[]⟩),
  ([4,1,0,1,1,1],⟨[1,3,6,7,38,39],[(9,.sl 1 .bool 5009),(40,.d (.int .i64))],[],[],[.g (.l 1),.g (.l 2)],[]⟩),
  ([9],⟨[],[(6,.as (.ptr (.l 6) [] Ax)),(7,.as (.ptr (.l 7) [] (.arr 2 (.int .u64)))),(8,.d (.int .i64))],[],[(.l 6,.box (.d Ax)),(.l 7,.box (.d (.arr 2 (.int .u64))))],[.g (.l 1),.g (.l 2)],[]⟩)])] (fun _ _ _=>pQ)
def ZT (a0 a1 a2:C) (k1:KD R):Option R:=jn (fun d1 m1=>(bif cz (dk d1 2)then(k1 [az 1,BF] [])else(bif decide (ao (bc (dk d1 3) 6)=2)then(k1 [az 31,BF] [])else(Lw N (dk d1 3) (fun d2 m2=>(if 0<=ao (dk d1 0)/\ao (dk d1 0)<2 then(JW N (bc (bc (dk d2 0) 4) (av (ao (dk d1 0)))) (dk d1 1) (fun d3 m3=>(if 0<=ao (dk d1 0)/\ao (dk d1 0)<2 then(bif !decide (ao (dk d3 1)=0)then(k1 [dk d3 1,BF] [])else(JW N (az 0) (bc (bc (db (dk d2 0) 4 (db (bc (dk d2 0) 4) (av (ao (dk d1 0))) (dk d3 0))) 4) 0) (fun d4 m4=>(bif !decide (ao (dk d4 1)=0)then(bif !decide (ao (dk d4 1)=0)then(k1 [dk d4 1,BF] [])else(k1 [az 0,db (dk d2 0) 4 (db (bc (dk d2 0) 4) (av (ao (dk d1 0))) (dk d3 0))] []))else(JW N (dk d4 0) (bc (bc (db (dk d2 0) 4 (db (bc (dk d2 0) 4) (av (ao (dk d1 0))) (dk d3 0))) 4) 1) (fun d5 m5=>(bif !decide (ao (dk d5 1)=0)then(bif !decide (ao (dk d5 1)=0)then(k1 [dk d5 1,BF] [])else(k1 [az 0,db (dk d2 0) 4 (db (bc (dk d2 0) 4) (av (ao (dk d1 0))) (dk d3 0))] []))else(k1 [az 0,db (dk d2 0) 4 (db (bc (dk d2 0) 4) (av (ao (dk d1 0))) (dk d3 0))] []))))))))else none)))else none)))))) (fun k2=>(bif !decide (ao a1=0)then(bif !decide (ao a1=1)then(k2 [a1,a2,cg true,a0,BF] [])else(k2 [a1,a2,cg (decide (ao a2=0)),a0,BF] []))else(k2 [a1,a2,cg (decide (ao a2=0)),a0,BF] [])))
def Qc:=lid "" (@ZT R N)
theorem pT {R N a0 a1 a2 k}:@Qc R N a0 a1 a2 k=ZT N a0 a1 a2 k:=by unfold Qc;rw[AV]
def q3D:OvG R:=Ae [Ax,.int .i64,.int .u64] (Eb (Qc N)) fun a K d1 m1=>K (ow [V.d Ax (dk d1 1),V.d (br aw) (dk d1 0)]) []
theorem q3E:okX 11 (@q3D R N):=Ai (AH (ZV N) <| AH (Wq N) <| AW) N [] [(11,[([0,4,0,1],(AX [1,2,3,6] [(9,.d .bool)])),
  ([9],⟨[],[(6,.as (.ptr (.l 6) [] Ax)),(7,.d (.int .i64))],[],[(.l 6,.box (.d Ax))],[],[]⟩)])] (fun _ _=>pT)
def ZS {R:Type} (N:Nat) (a0:C) (k1:KD R):Option R:=bif decide (ao (bc a0 6)=2)then(k1 [az 0] [])else(k1 [az (ar ay (ar ay (ar ay (ao (bc (bc a0 4) (av 0))-ao (bc (bc a0 5) (av 0)))+ao (bc (bc a0 4) (av 1)))-ao (bc (bc a0 5) (av 1))))] [])
def Qb:=lid "" (@ZS R N)
theorem pS {R N a0 k}:@Qb R N a0 k=ZS N a0 k:=by unfold Qb;rw[AV]
def q3B:OvG R:=Ae [Ax] (Bw (Qb N)) (BD (br ay))
theorem q3C:okX 22 (@q3B R N):=Ai AW N [(22,[(0,[(1,5)])])] [(22,[([9],(Af [(2,.d (.int .u64))]))])] (fun _ _=>pS)
section
variable {R:Type} {N:Nat}
def ofP (m:Es) (c:C) (yk:Int):Int:=
 if Ez m (c.get 3)=true/\((getM m (c.get 3)).get 1).toInt<=(c.get 4).toInt then 1 else if(c.get 4).toInt<yk then 2 else 0
theorem z4P (h:C) (a1 b0:C) (m:Es) (k:KD R):Sf N h a1 b0 m k=k [if Ez m h=true then(getM m h).get 1 else .int 0,.bool (Ez m h)] []:=by
 rw[w9];unfold fZ;simp only[go_sem];cases Ez m h <;> rfl
theorem q6P (h x:C) (a1 b0:C) (m:Es) (k:KD R):Sc N h x a1 b0 m k=k [.bool (Ez m h&&decide (((getM m h).get 1).toInt<=x.toInt))] []:=by
 rw[x7];unfold fW;simp only[go_sem,z4P,Ah];cases Ez m h <;> simp
theorem of_eq (c yk:C) (b0:C) (m:Es) (k:KD R):Sd N c yk b0 m k=k [.int (ofP m c yk.toInt)] []:=by
 rw[x8];unfold fX ofP;simp only[go_sem,q6P,Ah];cases h:Ez m (c.get 3)
 ·by_cases h2:(c.get 4).toInt<yk.toInt <;> simp[h2]
 ·by_cases h1:((getM m (c.get 3)).get 1).toInt<=(c.get 4).toInt
  ·simp[h1]
  ·by_cases h2:(c.get 4).toInt<yk.toInt <;> simp[h1,h2]
theorem all_eq (yk:C) (l:C) (b0:C) (m:Es) (hl:l.elems.length<1099511627776) (hN:2199023255552<N) (k:KD R):Sb N yk l b0 m k=k [.slice (l.elems.map fun c=>.int (ofP m c yk.toInt))] []:=by
 rw[x6];unfold fV;rw[AQ];refine Dd (F:=Wy N m _) (fun i=>[yk,l,.int l.elems.length,.slice ((l.elems.take i).map fun c=>.int (ofP m c yk.toInt)),.int i]) (fun _=>[]) l.elems.length _ ?_ ?_ (by omega)
 ·intro i hi rec;have hc:l.elems[i]? =some l.elems[i]:=bm hi;have h1:(i:Int)<(l.elems.length:Int):=by omega
  have hlen:(l.elems.take i).length=i:=by rw[List.length_take];omega
  have h3:(i+1)*8<=140737488355328/\i+1<=9223372036854775807:=by omega
  have h4:cr (i+1) l.elems=cr i l.elems++[l.elems[i]]:=by rw[List.take_add_one,hc];rfl
  unfold Wy;simp only[go_sem,AB,AJ,h1,HD hc,BM (show i<4611686018427387904 by omega),bu,and_self,AE,h3,bw,of_eq,ez,bx,cn,df,hlen,h4,kq,List.map_cons,List.map_nil]
 ·intro rec;unfold Wy;simp only[go_sem,AB,AJ,fb,AE,bw,List.take_length]
section
variable {id who rts:C} {yj:List C} {put yi ph un yh:C}
def Jv (m:Es) (yk:Int) (l:List C):Bool:=l.any fun c=>decide (ofP m c yk=0)
def JK (m:Es) (yk:Int) (l:List C):List C:=l.map fun c=>.bool (decide (ofP m c yk=1))
def Kf (m:Es) (yk:Int) (_:Nat) (acc:List C) (c:C):List C ⊕ Unit:=if ofP m c yk=0 then .inr ()else .inl (acc++[.bool (decide (ofP m c yk=1))])
theorem aX (m:Es) (yk:Int):∀(l:List C) (i:Nat) (acc:List C),BG (Kf m yk) i acc l=if Jv m yk l=true then .inr ()else .inl (acc++JK m yk l)
 | [],_,acc=>by simp[BG,Jv,JK]
 |c::l,i,acc=>by
  simp only[BG,Kf];by_cases h:ofP m c yk=0
  ·simp[h,Jv]
  ·have ih:=aX m yk l (i+1) (acc++[.bool (decide (ofP m c yk=1))]);simp only[h,if_false,ih];have e:Jv m yk (c::l)=Jv m yk l:=by simp[Jv,h]
   rw[e];simp[JK]
def Eg (m:Es) (id who rts:C) (yj:List C) (put yi ph un yh:C) (yk:Int):Int × C × C:=
 if ph.toInt=0 then(3,zB,zz)else if ph.toInt=2 then(31,zB,zz)else if yk<un.toInt then(30,zB,zz)else
  if Jv m yk (AY yh)=true then(30,zB,zz)else
   if(EE yh put yi (JK m yk (AY yh))).1≠0 then((EE yh put yi (JK m yk (AY yh))).1,zB,zz)else
    (0,mkB id who rts yj put yi (.int 2) un yh,(EE yh put yi (JK m yk (AY yh))).2)
theorem q53 (h:SOk yh) (hl:(AY yh).length<1099511627776) (m:Es) (yk b0:C) (hN:2199023255552<N) (k:KD R):
  QZ N (mkB id who rts yj put yi ph un yh) yk b0 m k=
   k [.int (Eg m id who rts yj put yi ph un yh yk.toInt).1,(Eg m id who rts yj put yi ph un yh yk.toInt).2.1,(Eg m id who rts yj put yi ph un yh yk.toInt).2.2] []:=by
 have hz:AI (ct 2 (br ay))=zz:=rfl;have h6:(mkB id who rts yj put yi ph un yh).get 6=ph:=rfl;have h7:(mkB id who rts yj put yi ph un yh).get 7=un:=rfl;have h8:(mkB id who rts yj put yi ph un yh).get 8=yh:=rfl;have h4:(mkB id who rts yj put yi ph un yh).get 4=put:=rfl;have h5:(mkB id who rts yj put yi ph un yh).get 5=yi:=rfl;rw[pQ];unfold ZQ Eg;rw[Fu,hz];simp only[h6,h7,h8];by_cases a1:ph.toInt=0
 ·simp[a1]
 by_cases a2:ph.toInt=2
 ·simp[a1,a2]
 by_cases a3:yk.toInt<un.toInt
 ·simp[a1,a2,a3]
 have hbl:(yh.get 4).elems.length=(AY yh).length:=rfl;simp only[a1,a2,a3,AE,UC,DN,EF,all_eq yk (yh.get 4) dw m hl hN,AQ,AF,AJ,ez,hbl]
 refine(Ol (N:=N) (F:=VJ N k _) (fun i (acc:List C)=>[.slice ((AY yh).map fun c=>.int (ofP m c yk.toInt)),.int (AY yh).length,.slice acc,.int i,mkB id who rts yj put yi ph un yh,zB,zz]) (fun _ _=>[])
  (AY yh) (Kf m yk.toInt) (fun acc=>if(EE yh put yi acc).1≠0 then k [.int (EE yh put yi acc).1,zB,zz] []else k [.int 0,mkB id who rts yj put yi (.int 2) un yh,(EE yh put yi acc).2] [])
  (fun _=>k [.int 30,zB,zz] []) (fun i acc=>acc.length=i) (s0:=[]) rfl ?_ ?_ (by omega)).trans ?_
 ·intro i acc c hx hP;have hi:i<(AY yh).length:=(List.getElem?_eq_some_iff.1 hx).1;refine⟨fun rec=>?_,fun z71 h'=>?_⟩
  ·have h1:(i:Int)<((AY yh).length:Int):=by omega
   have hg:(dg (fun c=>az (ofP m c yk.toInt)) (AY yh)).getD i .nil= .int (ofP m c yk.toInt):=by rw[bn,List.getElem?_map,hx];rfl
   have h3:(acc.length+1)*1<=140737488355328/\acc.length+1<=9223372036854775807:=by omega
   unfold VJ Kf;rw[Fu,hz];simp only[AF,AL,AP,AU,Ab,Av,Ba,AB,AJ,h1,hg,ez,bx,cn,df,cq,bh,BM (show i<4611686018427387904 by omega),bu,and_self,AE,h3,bw];by_cases h:ofP m c yk.toInt=0 <;> simp[h]
  ·unfold Kf at h';split at h'
   ·cases h'
   ·cases h';simp[hP]
 ·intro acc hP rec;unfold VJ;rw[Fu,hz];simp only[AF,AL,AP,AU,Ab,Av,Ba,AB,AJ,fb,AE,bw,h8,h4,h5,z38 yh put yi (.slice acc) rfl hN,Zd h];by_cases h:(EE yh put yi acc).1=0
  ·simp[h,mkB];rfl
  ·simp[h,mkB]
 ·rw[aX];by_cases h:Jv m yk.toInt (AY yh)=true
  ·simp[h,EA]
  ·simp only[h,if_false,List.nil_append,EA];by_cases h9:(EE yh put yi (JK m yk.toInt (AY yh))).1=0 <;> simp[h9]
def HR (id who rts:C) (yj:List C) (put yi ph un yh:C) (side yo:Int):Int × C:=
 if(side≠0/\side≠1)\/yo=0 then(1,zB)else if ph.toInt=2 then(31,zB)else
  if(Ap (put.get side.toNat).toInt yo).2≠0 then((Ap (put.get side.toNat).toInt yo).2,zB)else
   if(Di [(put.set side.toNat (.int (Ap (put.get side.toNat).toInt yo).1)).get 0,(put.set side.toNat (.int (Ap (put.get side.toNat).toInt yo).1)).get 1]).2≠0 then((Di [(put.set side.toNat (.int (Ap (put.get side.toNat).toInt yo).1)).get 0,(put.set side.toNat (.int (Ap (put.get side.toNat).toInt yo).1)).get 1]).2,zB)else
    (0,mkB id who rts yj (put.set side.toNat (.int (Ap (put.get side.toNat).toInt yo).1)) yi ph un yh)
theorem q9l (h:SOk yh) (side yo:C) (k:KD R):
  Qc N (mkB id who rts yj put yi ph un yh) side yo k=k [.int (HR id who rts yj put yi ph un yh side.toInt yo.toInt).1,(HR id who rts yj put yi ph un yh side.toInt yo.toInt).2] []:=by
 have h6:(mkB id who rts yj put yi ph un yh).get 6=ph:=rfl;rw[pT];unfold ZT HR;rw[Fu]
 have e:∀K:KD R,jn K (fun K=>(bif !decide (side.toInt=0)then(bif !decide (side.toInt=1)then K [side,yo,.bool true,mkB id who rts yj put yi ph un yh,zB] []else K [side,yo,.bool (decide (yo.toInt=0)),mkB id who rts yj put yi ph un yh,zB] [])else K [side,yo,.bool (decide (yo.toInt=0)),mkB id who rts yj put yi ph un yh,zB] []))=
   K [side,yo,.bool (decide ((side.toInt≠0/\side.toInt≠1)\/yo.toInt=0)),mkB id who rts yj put yi ph un yh,zB] []:=fun K=>by
  rw[AQ];by_cases h0:side.toInt=0
  ·simp[h0]
  ·by_cases h1:side.toInt=1 <;> simp[h0,h1]
 rw[e];by_cases a1:(side.toInt≠0/\side.toInt≠1)\/yo.toInt=0
 ·simp only[AF,AL,AP,AU,Ah,a1,AE]
 have hs:0<=side.toInt/\side.toInt<2:=by omega
 by_cases a2:ph.toInt=2
 ·simp only[AF,AL,AP,AU,Ah,a1,a2,h6,AE]
 simp only[AF,AL,AP,AU,Ah,AB,a1,a2,h6,AE,Zd h,hs,and_self,add_eq];unfold mkB;simp only[MM,mG,Int.toNat_zero];by_cases b1:(Ap (put.get side.toInt.toNat).toInt yo.toInt).2=0
 case neg=>simp only[b1,AE,ne_eq,not_false_iff]
 have e2:∀x y:C,(Di [x,y]).2=if(Ap 0 x.toInt).2=0 then(Ap (Ap 0 x.toInt).1 y.toInt).2 else(Ap 0 x.toInt).2:=fun x y=>by
  by_cases g1:(Ap 0 x.toInt).2=0
  ·by_cases g2:(Ap (Ap 0 x.toInt).1 y.toInt).2=0 <;> simp[Di,BG,Hd,Je,g1,g2]
  ·simp[Di,BG,Hd,Je,g1]
 simp only[b1,e2,AE,ne_eq,not_true];by_cases b2:(Ap 0 ((put.set side.toInt.toNat (az (Ap (put.get side.toInt.toNat).toInt yo.toInt).1)).get 0).toInt).2=0
 ·simp only[b2,AE];by_cases b3:(Ap (Ap 0 ((put.set side.toInt.toNat (az (Ap (put.get side.toInt.toNat).toInt yo.toInt).1)).get 0).toInt).1 ((put.set side.toInt.toNat (az (Ap (put.get side.toInt.toNat).toInt yo.toInt).1)).get 1).toInt).2=0
  ·simp only[b3,AE,not_true]
  ·simp only[b3,AE,not_false_iff]
 ·simp only[b2,AE,not_false_iff]
end
end
end Go.Proofs.YtgdonkaoajbclaaGreatDoor
