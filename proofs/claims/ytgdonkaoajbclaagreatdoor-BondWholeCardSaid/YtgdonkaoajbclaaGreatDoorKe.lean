/-
What Go functions compute, part 5.
Conditions: none.
-/
import Derived.Test.YtgdonkaoajbclaaGreatDoorKd
set_option linter.all false
noncomputable section
set_option maxRecDepth 100000
set_option maxHeartbeats 4000000
open Go.BinOp renaming and->dq
open Go.E.C renaming agg->dh,bool->cd,elems->ao,get->ax,int->aw,nil->du,set->ct,slice->bc,toBool->cz,toInt->aj
open Go.E.Key renaming g->ga,l->di
open Go.E.O renaming box->xv
open Go.E.Ty renaming arr->cq,int->bn
open Go.E.V renaming tup->ou
open Go.IntKind renaming i64->ar,u32->cf,u64->av,wrap->al
open Go.IntWalk renaming i64_in->df
open Int renaming fdiv->fw,lt_irrefl->fa,natCast_nonneg->bq,toNat->aq,toNat_natCast->bf,toNat_of_nonneg->gr
open List renaming getD->bj,getD_cons_zero->qe,getD_eq_getElem?_getD->bh,getElem?_eq_getElem->bg,length->ak,length_append->bt,length_cons->cg,length_map->ep,length_nil->de,map->db,map_append->kn,replicate->ay,reverse_cons->qf,take->cn,take_of_length_le->dr
open Nat renaming beq->bw,beq_refl->br,zero_add->cm
namespace Go.Proofs.YtgdonkaoajbclaaGreatDoor
open Go Go.E
variable {R:Type} (N:Nat)
def q4I:List Sh:=[.as (.ptr (.g (.l 1)) [] Gc)]
def q4K:List (Key × OSh):=[(.l 1,.box (.agg Gc [.vec (.g (.l 2)) 8 (.int .u64),.d (.int .i64)])),(.l 2,.box (.arr (.int .u64)))]
def VY (b0 b1 b2:C) (k1:KD R):Option R:=bif decide ((↑(aq (aj b0)):Int)=0)then(if ak (ao b2)=ak (ao b2)then(Ig N (aw 12) (aw (↑(aq (aj b0)):Int)) b1 b2 (fun d1 m1=>(if ak (ao (dk d1 3))=ak (ao (dk d1 3))then(k1 [aw 0,aw (↑(aq (aj (dk d1 0))):Int),dk d1 1,aw (↑(aq (aj (dk d1 2))):Int),dk d1 3] [])else none)))else none)else(if 0<=al ar ((↑(aq (aj b0)):Int)-1)/\al ar ((↑(aq (aj b0)):Int)-1)<(↑(aq (aj b0)):Int)then(if Int.ofNat 0<=0/\0<=al ar ((↑(aq (aj b0)):Int)-1)/\al ar ((↑(aq (aj b0)):Int)-1)<=(↑(aq (aj b0)):Int)then(if ak (ao b2)=ak (ao b2)then(k1 [ax b2 (0+aq (al ar ((↑(aq (aj b0)):Int)-1))),aw (↑(aq (al ar ((↑(aq (aj b0)):Int)-1)-0)):Int),b1,aw (↑(ak (ao b2)):Int),b2] [])else none)else none)else none)
def DJ:=lid "" (@VY R N)
def aB {R N b0 b1 b2 k}:@DJ R N b0 b1 b2 k=VY N b0 b1 b2 k:=by unfold DJ;rw[AW]
def q4J:OvG R:=Cf q4I q4K (fun ds ms=>DJ N (dk ds 0) (dk ds 1) (dk ds 2)) fun ds ms K d1 m1=>K (V.d (bn av) (dk d1 0)) [(ga (di 1),
  xv
   (V.agg Gc
    [V.sr (di 1000000000074) [] 0 (aq (aj (dk d1 1))) none 8 (bn av),
     V.d (bn ar) (dk d1 2)])),
 (ga (di 2),O.dead (cq (aq (aj (dk d1 3))) (bn av))),
 (di 1000000000074,xv (V.d (cq (ak (ao (dk d1 4))) (bn av)) (dk d1 4)))]
def rL:okX 94 (@q4J R N):=Cq (AH (Zz N) <| AZ) N [] [(94,[([9],⟨[],[(2,.d (.int .u64))],[.g (.l 1),.g (.l 2)],[],[],[(.int .u64)]⟩)])] (fun _ _ _=>aB)
def q4L:List Sh:=[.as (.ptr (.g (.l 1)) [] Gc),.d (.slice 8 (.int .u64))]
def q4N:List (Key × OSh):=[(.l 1,.box (.agg Gc [.vec (.g (.l 2)) 8 (.int .u64),.d (.int .i64)])),(.l 2,.box (.arr (.int .u64)))]
def aC (k1:KD R) (k2:KD R):KD R->KD R:=fun k3 d1 m1=>(bif decide (aj (dk d1 2)<aj (dk d1 1))then(if 0<=aj (dk d1 2)/\aj (dk d1 2)<(↑(ak (ao (dk d1 0))):Int)then(bif decide (32<=(↑(aq (aj (dk d1 3))):Int))then(if ak (ao (dk d1 6))=ak (ao (dk d1 6))then(Ig N (aw 4) (aw (↑(aq (aj (dk d1 3))):Int)) (dk d1 4) (dk d1 6) (fun d2 m2=>(if ak (ao (dk d2 3))=ak (ao (dk d2 3))then(k1 [aw (↑(aq (aj (dk d2 0))):Int),dk d2 1,aw (↑(aq (aj (dk d1 5))):Int),dk d2 3] [])else none)))else none)else(if(aq (aj (dk d1 3))+1)*8<=140737488355328/\aq (aj (dk d1 3))+1<=9223372036854775807 then(if aq (aj (dk d1 3))+1=ak (cn (aq (aj (dk d1 3))) (ao (dk d1 6))++[bj (ao (dk d1 0)) (aq (aj (dk d1 2))) du])then(k3 [dk d1 0,dk d1 1,aw (al ar (aj (dk d1 2)+1)),aw (↑(aq (aj (dk d1 3))+1):Int),dk d1 4,aw (↑(aq (aj (dk d1 5))):Int),dh (cn (aq (aj (dk d1 3))) (ao (dk d1 6))++[bj (ao (dk d1 0)) (aq (aj (dk d1 2))) du])] [])else none)else none))else none)else(if ak (ao (dk d1 6))=ak (ao (dk d1 6))then(k2 [aw (↑(aq (aj (dk d1 3))):Int),dk d1 4,aw (↑(aq (aj (dk d1 5))):Int),dk d1 6] [])else none))
def VZ (a0 b0 b1 b2:C) (k1:KD R):Option R:=jn (fun d1 m1=>(if ak (ao (dk d1 3))=ak (ao (dk d1 3))then(k1 [aw (↑(aq (aj (dk d1 0))):Int),dk d1 1,aw (↑(aq (aj (dk d1 2))):Int),dk d1 3] [])else none)) (fun k2=>(if ak (ao b2)=ak (ao b2)then(Ae N (aC N k1 k2) [a0,aw (↑(ak (ao a0)):Int),aw 0,aw (↑(aq (aj b0)):Int),b1,aw (↑(ak (ao b2)):Int),b2] [])else none))
def GI:=lid "" (@VZ R N)
def aE {R N a0 b0 b1 b2 k}:@GI R N a0 b0 b1 b2 k=VZ N a0 b0 b1 b2 k:=by unfold GI;rw[AW]
def q4M:OvG R:=Cf q4L q4N (fun ds ms=>GI N (dk ds 0) (dk ds 1) (dk ds 2) (dk ds 3)) fun ds ms K d1 m1=>K (ou []) [(ga (di 1),
  xv
   (V.agg Gc
    [V.sr (di 1000000000074) [] 0 (aq (aj (dk d1 0))) none 8 (bn av),
     V.d (bn ar) (dk d1 1)])),
 (ga (di 2),O.dead (cq (aq (aj (dk d1 2))) (bn av))),
 (di 1000000000074,xv (V.d (cq (ak (ao (dk d1 3))) (bn av)) (dk d1 3)))]
def rM:okX 118 (@q4M R N):=Cq (AH (Zz N) <| AZ) N [] [(118,[([1],⟨[0],[],[.g (.l 1),.g (.l 2)],[],[],[(.int .u64)]⟩),
  ([4,1],⟨[0,6,7],[(8,.d (.int .i64))],[.g (.l 1),.g (.l 2)],[],[],[(.int .u64)]⟩),
  ([9],⟨[],[],[.g (.l 1),.g (.l 2)],[],[],[(.int .u64)]⟩)])] (fun _ _ _=>aE)
def zY {R:Type} (N:Nat) (a0 a1:C) (k1:KD R):Option R:=k1 [aw (al av (al av (al av (fw (aj a0) (2^min (aq 32) 64)*fw (aj a1) (2^min (aq 32) 64))+fw (al av (al av (fw (aj a0) (2^min (aq 32) 64)*Aj dq av (aj a1) 4294967295)+fw (al av (Aj dq av (aj a0) 4294967295*Aj dq av (aj a1) 4294967295)) (2^min (aq 32) 64))) (2^min (aq 32) 64))+fw (al av (Aj dq av (al av (al av (fw (aj a0) (2^min (aq 32) 64)*Aj dq av (aj a1) 4294967295)+fw (al av (Aj dq av (aj a0) 4294967295*Aj dq av (aj a1) 4294967295)) (2^min (aq 32) 64))) 4294967295+al av (Aj dq av (aj a0) 4294967295*fw (aj a1) (2^min (aq 32) 64)))) (2^min (aq 32) 64))),aw (al av (aj a0*aj a1))] []
def SM:=lid "" (@zY R N)
def zZ {R N a0 a1 k}:@SM R N a0 a1 k=zY N a0 a1 k:=by unfold SM;rw[AW]
def q83:OvG R:=Af [.int .u64,.int .u64] (Bl (SM N)) fun a K d1 m1=>K (ou [V.d (bn av) (dk d1 0),V.d (bn av) (dk d1 1)]) []
def q84:okX 139 (@q83 R N):=Ai AZ N [] [(139,[([9],(Ah [(4,.d (.int .u64)),(5,.d (.int .u64))]))])] (fun _ _=>zZ)
def fV (a0 a1:C) (k1:KD R):Option R:=SM N a0 a1 (fun d1 m1=>(bif !decide (aj (dk d1 0)=0)then(k1 [aw 0,aw 11] [])else(k1 [dk d1 1,aw 0] [])))
def Sb:=lid "" (@fV R N)
def x6 {R N a0 a1 k}:@Sb R N a0 a1 k=fV N a0 a1 k:=by unfold Sb;rw[AW]
def q9E:OvG R:=Af [.int .u64,.int .u64] (Bl (Sb N)) fun a K d1 m1=>K (ou [V.d (bn av) (dk d1 0),V.d (bn ar) (dk d1 1)]) []
def q9F:okX 120 (@q9E R N):=Ai (AH (q84 N) <| AZ) N [] [(120,[([9],(Ah [(4,.d (.int .u64)),(5,.d (.int .i64))]))])] (fun _ _=>x6)
def q4B:List Sh:=[.as (.ptr (.g (.l 1)) [] Gc),.d .bool]
def q4E:List (Key × OSh):=[(.l 1,.box (.agg Gc [.vec (.g (.l 2)) 8 (.int .u64),.d (.int .i64)])),(.l 2,.box (.arr (.int .u64)))]
def Zy (a0 b0 b1 b2:C) (k1:KD R):Option R:=bif cz a0 then(if ak (ao b2)=ak (ao b2)then(GI N (bc [aw 1]) (aw (↑(aq (aj b0)):Int)) b1 b2 (fun d1 m1=>(if ak (ao (dk d1 3))=ak (ao (dk d1 3))then(k1 [aw (↑(aq (aj (dk d1 0))):Int),dk d1 1,aw (↑(aq (aj (dk d1 2))):Int),dk d1 3] [])else none)))else none)else(if ak (ao b2)=ak (ao b2)then(GI N (bc [aw 0]) (aw (↑(aq (aj b0)):Int)) b1 b2 (fun d1 m1=>(if ak (ao (dk d1 3))=ak (ao (dk d1 3))then(k1 [aw (↑(aq (aj (dk d1 0))):Int),dk d1 1,aw (↑(aq (aj (dk d1 2))):Int),dk d1 3] [])else none)))else none)
def Hq:=lid "" (@Zy R N)
def rJ {R N a0 b0 b1 b2 k}:@Hq R N a0 b0 b1 b2 k=Zy N a0 b0 b1 b2 k:=by unfold Hq;rw[AW]
def q4C:OvG R:=Cf q4B q4E (fun ds ms=>Hq N (dk ds 0) (dk ds 1) (dk ds 2) (dk ds 3)) fun ds ms K d1 m1=>K (ou []) [(ga (di 1),
  xv
   (V.agg Gc
    [V.sr (di 1000000000074) [] 0 (aq (aj (dk d1 0))) none 8 (bn av),
     V.d (bn ar) (dk d1 1)])),
 (ga (di 2),O.dead (cq (aq (aj (dk d1 2))) (bn av))),
 (di 1000000000074,xv (V.d (cq (ak (ao (dk d1 3))) (bn av)) (dk d1 3)))]
def q4D:okX 121 (@q4C R N):=Cq (AH (rM N) <| AZ) N [] [(121,[([9],⟨[],[],[.g (.l 1),.g (.l 2)],[],[],[(.int .u64)]⟩)])] (fun _ _ _=>rJ)
def q4v:List Sh:=[.d Yg,.as (.ptr (.g (.l 1)) [] Gc),.d (.int .i64),.d (.int .u64)]
def q4y:List (Key × OSh):=[(.l 1,.box (.agg Gc [.vec (.g (.l 2)) 8 (.int .u64),.d (.int .i64)])),(.l 2,.box (.arr (.int .u64)))]
def Dg (a0 a1 a2 b0 b1 b2:C) (k1:KD R):Option R:=bif decide (aj a1=1)then(if ak (ao b2)=ak (ao b2)then(GI N (bc [a2]) (aw (↑(aq (aj b0)):Int)) b1 b2 (fun d1 m1=>(if ak (ao (dk d1 3))=ak (ao (dk d1 3))then(k1 [aw (↑(aq (aj (dk d1 0))):Int),dk d1 1,aw (↑(aq (aj (dk d1 2))):Int),dk d1 3] [])else none)))else none)else(bif decide (aj a1=2)then(bif decide (al av (↑(ak (ao (ax a0 0))):Int)<=aj a2)then(if ak (ao b2)=ak (ao b2)then(Ig N (aw 1) (aw (↑(aq (aj b0)):Int)) b1 b2 (fun d1 m1=>(if ak (ao (dk d1 3))=ak (ao (dk d1 3))then(k1 [aw (↑(aq (aj (dk d1 0))):Int),dk d1 1,aw (↑(aq (aj (dk d1 2))):Int),dk d1 3] [])else none)))else none)else(if 0<=aj a2/\aj a2<(↑(ak (ao (ax a0 0))):Int)then(if ak (ao b2)=ak (ao b2)then(GI N (bc [bj (ao (ax a0 0)) (aq (aj a2)) du]) (aw (↑(aq (aj b0)):Int)) b1 b2 (fun d1 m1=>(if ak (ao (dk d1 3))=ak (ao (dk d1 3))then(k1 [aw (↑(aq (aj (dk d1 0))):Int),dk d1 1,aw (↑(aq (aj (dk d1 2))):Int),dk d1 3] [])else none)))else none)else none))else(bif decide (aj a1=3)then(jn (fun d1 m1=>(if ak (ao (dk d1 3))=ak (ao (dk d1 3))then(k1 [aw (↑(aq (aj (dk d1 0))):Int),dk d1 1,aw (↑(aq (aj (dk d1 2))):Int),dk d1 3] [])else none)) (fun k2=>(if ak (ao b2)=ak (ao b2)then(DJ N (aw (↑(aq (aj b0)):Int)) b1 b2 (fun d1 m1=>(if ak (ao (dk d1 4))=ak (ao (dk d1 4))then(DJ N (aw (↑(aq (aj (dk d1 1))):Int)) (dk d1 2) (dk d1 4) (fun d2 m2=>(bif !decide (aj (dk d2 2)=0)then(if ak (ao (dk d2 4))=ak (ao (dk d2 4))then(k2 [aw (↑(aq (aj (dk d2 1))):Int),dk d2 2,aw (↑(aq (aj (dk d1 3))):Int),dk d2 4] [])else none)else(Jc N (dk d2 0) (dk d1 0) (fun d3 m3=>(bif !decide (aj (dk d3 1)=0)then(if ak (ao (dk d2 4))=ak (ao (dk d2 4))then(Ig N (dk d3 1) (aw (↑(aq (aj (dk d2 1))):Int)) (dk d2 2) (dk d2 4) (fun d4 m4=>(if ak (ao (dk d4 3))=ak (ao (dk d4 3))then(k2 [aw (↑(aq (aj (dk d4 0))):Int),dk d4 1,aw (↑(aq (aj (dk d1 3))):Int),dk d4 3] [])else none)))else none)else(if ak (ao (dk d2 4))=ak (ao (dk d2 4))then(GI N (bc [dk d3 0]) (aw (↑(aq (aj (dk d2 1))):Int)) (dk d2 2) (dk d2 4) (fun d4 m4=>(if ak (ao (dk d4 3))=ak (ao (dk d4 3))then(k2 [aw (↑(aq (aj (dk d4 0))):Int),dk d4 1,aw (↑(aq (aj (dk d1 3))):Int),dk d4 3] [])else none)))else none)))))))else none)))else none)))else(bif decide (aj a1=4)then(jn (fun d1 m1=>(if ak (ao (dk d1 3))=ak (ao (dk d1 3))then(k1 [aw (↑(aq (aj (dk d1 0))):Int),dk d1 1,aw (↑(aq (aj (dk d1 2))):Int),dk d1 3] [])else none)) (fun k2=>(if ak (ao b2)=ak (ao b2)then(DJ N (aw (↑(aq (aj b0)):Int)) b1 b2 (fun d1 m1=>(if ak (ao (dk d1 4))=ak (ao (dk d1 4))then(DJ N (aw (↑(aq (aj (dk d1 1))):Int)) (dk d1 2) (dk d1 4) (fun d2 m2=>(bif !decide (aj (dk d2 2)=0)then(if ak (ao (dk d2 4))=ak (ao (dk d2 4))then(k2 [aw (↑(aq (aj (dk d2 1))):Int),dk d2 2,aw (↑(aq (aj (dk d1 3))):Int),dk d2 4] [])else none)else(Mh N (dk d2 0) (dk d1 0) (fun d3 m3=>(bif !decide (aj (dk d3 1)=0)then(if ak (ao (dk d2 4))=ak (ao (dk d2 4))then(Ig N (dk d3 1) (aw (↑(aq (aj (dk d2 1))):Int)) (dk d2 2) (dk d2 4) (fun d4 m4=>(if ak (ao (dk d4 3))=ak (ao (dk d4 3))then(k2 [aw (↑(aq (aj (dk d4 0))):Int),dk d4 1,aw (↑(aq (aj (dk d1 3))):Int),dk d4 3] [])else none)))else none)else(if ak (ao (dk d2 4))=ak (ao (dk d2 4))then(GI N (bc [dk d3 0]) (aw (↑(aq (aj (dk d2 1))):Int)) (dk d2 2) (dk d2 4) (fun d4 m4=>(if ak (ao (dk d4 3))=ak (ao (dk d4 3))then(k2 [aw (↑(aq (aj (dk d4 0))):Int),dk d4 1,aw (↑(aq (aj (dk d1 3))):Int),dk d4 3] [])else none)))else none)))))))else none)))else none)))else(bif decide (aj a1=5)then(jn (fun d1 m1=>(if ak (ao (dk d1 3))=ak (ao (dk d1 3))then(k1 [aw (↑(aq (aj (dk d1 0))):Int),dk d1 1,aw (↑(aq (aj (dk d1 2))):Int),dk d1 3] [])else none)) (fun k2=>(if ak (ao b2)=ak (ao b2)then(DJ N (aw (↑(aq (aj b0)):Int)) b1 b2 (fun d1 m1=>(if ak (ao (dk d1 4))=ak (ao (dk d1 4))then(DJ N (aw (↑(aq (aj (dk d1 1))):Int)) (dk d1 2) (dk d1 4) (fun d2 m2=>(bif !decide (aj (dk d2 2)=0)then(if ak (ao (dk d2 4))=ak (ao (dk d2 4))then(k2 [aw (↑(aq (aj (dk d2 1))):Int),dk d2 2,aw (↑(aq (aj (dk d1 3))):Int),dk d2 4] [])else none)else(Sb N (dk d2 0) (dk d1 0) (fun d3 m3=>(bif !decide (aj (dk d3 1)=0)then(if ak (ao (dk d2 4))=ak (ao (dk d2 4))then(Ig N (dk d3 1) (aw (↑(aq (aj (dk d2 1))):Int)) (dk d2 2) (dk d2 4) (fun d4 m4=>(if ak (ao (dk d4 3))=ak (ao (dk d4 3))then(k2 [aw (↑(aq (aj (dk d4 0))):Int),dk d4 1,aw (↑(aq (aj (dk d1 3))):Int),dk d4 3] [])else none)))else none)else(if ak (ao (dk d2 4))=ak (ao (dk d2 4))then(GI N (bc [dk d3 0]) (aw (↑(aq (aj (dk d2 1))):Int)) (dk d2 2) (dk d2 4) (fun d4 m4=>(if ak (ao (dk d4 3))=ak (ao (dk d4 3))then(k2 [aw (↑(aq (aj (dk d4 0))):Int),dk d4 1,aw (↑(aq (aj (dk d1 3))):Int),dk d4 3] [])else none)))else none)))))))else none)))else none)))else(bif decide (aj a1=6)then(if ak (ao b2)=ak (ao b2)then(DJ N (aw (↑(aq (aj b0)):Int)) b1 b2 (fun d1 m1=>(if ak (ao (dk d1 4))=ak (ao (dk d1 4))then(DJ N (aw (↑(aq (aj (dk d1 1))):Int)) (dk d1 2) (dk d1 4) (fun d2 m2=>(if ak (ao (dk d2 4))=ak (ao (dk d2 4))then(Hq N (cd (decide (aj (dk d2 0)<aj (dk d1 0)))) (aw (↑(aq (aj (dk d2 1))):Int)) (dk d2 2) (dk d2 4) (fun d3 m3=>(if ak (ao (dk d3 3))=ak (ao (dk d3 3))then(k1 [aw (↑(aq (aj (dk d3 0))):Int),dk d3 1,aw (↑(aq (aj (dk d1 3))):Int),dk d3 3] [])else none)))else none)))else none)))else none)else(bif decide (aj a1=7)then(if ak (ao b2)=ak (ao b2)then(DJ N (aw (↑(aq (aj b0)):Int)) b1 b2 (fun d1 m1=>(if ak (ao (dk d1 4))=ak (ao (dk d1 4))then(DJ N (aw (↑(aq (aj (dk d1 1))):Int)) (dk d1 2) (dk d1 4) (fun d2 m2=>(if ak (ao (dk d2 4))=ak (ao (dk d2 4))then(Hq N (cd (decide (aj (dk d2 0)=aj (dk d1 0)))) (aw (↑(aq (aj (dk d2 1))):Int)) (dk d2 2) (dk d2 4) (fun d3 m3=>(if ak (ao (dk d3 3))=ak (ao (dk d3 3))then(k1 [aw (↑(aq (aj (dk d3 0))):Int),dk d3 1,aw (↑(aq (aj (dk d1 3))):Int),dk d3 3] [])else none)))else none)))else none)))else none)else(bif decide (aj a1=8)then(if ak (ao b2)=ak (ao b2)then(DJ N (aw (↑(aq (aj b0)):Int)) b1 b2 (fun d1 m1=>(if ak (ao (dk d1 4))=ak (ao (dk d1 4))then(Hq N (cd (decide (aj (dk d1 0)=0))) (aw (↑(aq (aj (dk d1 1))):Int)) (dk d1 2) (dk d1 4) (fun d2 m2=>(if ak (ao (dk d2 3))=ak (ao (dk d2 3))then(k1 [aw (↑(aq (aj (dk d2 0))):Int),dk d2 1,aw (↑(aq (aj (dk d1 3))):Int),dk d2 3] [])else none)))else none)))else none)else(bif decide (aj a1=9)then(if ak (ao b2)=ak (ao b2)then(DJ N (aw (↑(aq (aj b0)):Int)) b1 b2 (fun d1 m1=>(if ak (ao (dk d1 4))=ak (ao (dk d1 4))then(DJ N (aw (↑(aq (aj (dk d1 1))):Int)) (dk d1 2) (dk d1 4) (fun d2 m2=>(jn (fun d3 m3=>(if ak (ao (dk d3 2))=ak (ao (dk d3 2))then(k1 [aw (↑(aq (aj (dk d3 0))):Int),dk d3 1,aw (↑(aq (aj (dk d3 3))):Int),dk d3 2] [])else none)) (fun k2=>(bif !decide (aj (dk d2 0)=0)then(if ak (ao (dk d2 4))=ak (ao (dk d2 4))then(Hq N (cd !decide (aj (dk d1 0)=0)) (aw (↑(aq (aj (dk d2 1))):Int)) (dk d2 2) (dk d2 4) (fun d3 m3=>(if ak (ao (dk d3 3))=ak (ao (dk d3 3))then(k2 [aw (↑(aq (aj (dk d3 0))):Int),dk d3 1,dk d3 3,aw (↑(aq (aj (dk d1 3))):Int),aw (↑(aq (aj (dk d1 3))):Int)] [])else none)))else none)else(if ak (ao (dk d2 4))=ak (ao (dk d2 4))then(Hq N (cd false) (aw (↑(aq (aj (dk d2 1))):Int)) (dk d2 2) (dk d2 4) (fun d3 m3=>(if ak (ao (dk d3 3))=ak (ao (dk d3 3))then(k2 [aw (↑(aq (aj (dk d3 0))):Int),dk d3 1,dk d3 3,aw (↑(aq (aj (dk d1 3))):Int),aw (↑(aq (aj (dk d1 3))):Int)] [])else none)))else none))))))else none)))else none)else(bif decide (aj a1=10)then(if ak (ao b2)=ak (ao b2)then(DJ N (aw (↑(aq (aj b0)):Int)) b1 b2 (fun d1 m1=>(if ak (ao (dk d1 4))=ak (ao (dk d1 4))then(DJ N (aw (↑(aq (aj (dk d1 1))):Int)) (dk d1 2) (dk d1 4) (fun d2 m2=>(jn (fun d3 m3=>(if ak (ao (dk d3 2))=ak (ao (dk d3 2))then(k1 [aw (↑(aq (aj (dk d3 0))):Int),dk d3 1,aw (↑(aq (aj (dk d3 3))):Int),dk d3 2] [])else none)) (fun k2=>(bif !decide (aj (dk d2 0)=0)then(if ak (ao (dk d2 4))=ak (ao (dk d2 4))then(Hq N (cd true) (aw (↑(aq (aj (dk d2 1))):Int)) (dk d2 2) (dk d2 4) (fun d3 m3=>(if ak (ao (dk d3 3))=ak (ao (dk d3 3))then(k2 [aw (↑(aq (aj (dk d3 0))):Int),dk d3 1,dk d3 3,aw (↑(aq (aj (dk d1 3))):Int),aw (↑(aq (aj (dk d1 3))):Int)] [])else none)))else none)else(if ak (ao (dk d2 4))=ak (ao (dk d2 4))then(Hq N (cd !decide (aj (dk d1 0)=0)) (aw (↑(aq (aj (dk d2 1))):Int)) (dk d2 2) (dk d2 4) (fun d3 m3=>(if ak (ao (dk d3 3))=ak (ao (dk d3 3))then(k2 [aw (↑(aq (aj (dk d3 0))):Int),dk d3 1,dk d3 3,aw (↑(aq (aj (dk d1 3))):Int),aw (↑(aq (aj (dk d1 3))):Int)] [])else none)))else none))))))else none)))else none)else(bif decide (aj a1=13)then(if ak (ao b2)=ak (ao b2)then(DJ N (aw (↑(aq (aj b0)):Int)) b1 b2 (fun d1 m1=>(if ak (ao (dk d1 4))=ak (ao (dk d1 4))then(GI N (bc [dk d1 0,dk d1 0]) (aw (↑(aq (aj (dk d1 1))):Int)) (dk d1 2) (dk d1 4) (fun d2 m2=>(if ak (ao (dk d2 3))=ak (ao (dk d2 3))then(k1 [aw (↑(aq (aj (dk d2 0))):Int),dk d2 1,aw (↑(aq (aj (dk d1 3))):Int),dk d2 3] [])else none)))else none)))else none)else(bif decide (aj a1=14)then(if ak (ao b2)=ak (ao b2)then(DJ N (aw (↑(aq (aj b0)):Int)) b1 b2 (fun d1 m1=>(if ak (ao (dk d1 4))=ak (ao (dk d1 4))then(DJ N (aw (↑(aq (aj (dk d1 1))):Int)) (dk d1 2) (dk d1 4) (fun d2 m2=>(if ak (ao (dk d2 4))=ak (ao (dk d2 4))then(GI N (bc [dk d1 0,dk d2 0]) (aw (↑(aq (aj (dk d2 1))):Int)) (dk d2 2) (dk d2 4) (fun d3 m3=>(if ak (ao (dk d3 3))=ak (ao (dk d3 3))then(k1 [aw (↑(aq (aj (dk d3 0))):Int),dk d3 1,aw (↑(aq (aj (dk d1 3))):Int),dk d3 3] [])else none)))else none)))else none)))else none)else(bif decide (aj a1=15)then(if ak (ao b2)=ak (ao b2)then(DJ N (aw (↑(aq (aj b0)):Int)) b1 b2 (fun d1 m1=>(if ak (ao (dk d1 4))=ak (ao (dk d1 4))then(k1 [aw (↑(aq (aj (dk d1 1))):Int),dk d1 2,aw (↑(aq (aj (dk d1 3))):Int),dk d1 4] [])else none)))else none)else(bif decide (aj a1=16)then(bif decide (al av (↑(ak (ao (ax a0 1))):Int)<=aj a2)then(if ak (ao b2)=ak (ao b2)then(Ig N (aw 1) (aw (↑(aq (aj b0)):Int)) b1 b2 (fun d1 m1=>(if ak (ao (dk d1 3))=ak (ao (dk d1 3))then(k1 [aw (↑(aq (aj (dk d1 0))):Int),dk d1 1,aw (↑(aq (aj (dk d1 2))):Int),dk d1 3] [])else none)))else none)else(if 0<=aj a2/\aj a2<(↑(ak (ao (ax a0 1))):Int)then(if ak (ao b2)=ak (ao b2)then(Hq N (bj (ao (ax a0 1)) (aq (aj a2)) du) (aw (↑(aq (aj b0)):Int)) b1 b2 (fun d1 m1=>(if ak (ao (dk d1 3))=ak (ao (dk d1 3))then(k1 [aw (↑(aq (aj (dk d1 0))):Int),dk d1 1,aw (↑(aq (aj (dk d1 2))):Int),dk d1 3] [])else none)))else none)else none))else(bif decide (aj a1=17)then(if ak (ao b2)=ak (ao b2)then(GI N (bc [ax a0 2]) (aw (↑(aq (aj b0)):Int)) b1 b2 (fun d1 m1=>(if ak (ao (dk d1 3))=ak (ao (dk d1 3))then(k1 [aw (↑(aq (aj (dk d1 0))):Int),dk d1 1,aw (↑(aq (aj (dk d1 2))):Int),dk d1 3] [])else none)))else none)else(if ak (ao b2)=ak (ao b2)then(k1 [aw (↑(aq (aj b0)):Int),b1,aw (↑(ak (ao b2)):Int),b2] [])else none)))))))))))))))
def MJ:=lid "" (@Dg R N)
def rH {R N a0 a1 a2 b0 b1 b2 k}:@MJ R N a0 a1 a2 b0 b1 b2 k=Dg N a0 a1 a2 b0 b1 b2 k:=by unfold MJ;rw[AW]
def q4w:OvG R:=Cf q4v q4y (fun ds ms=>MJ N (dk ds 0) (dk ds 1) (dk ds 2) (dk ds 3) (dk ds 4) (dk ds 5)) fun ds ms K d1 m1=>K (ou []) [(ga (di 1),
  xv
   (V.agg Gc
    [V.sr (di 1000000000074) [] 0 (aq (aj (dk d1 0))) none 8 (bn av),
     V.d (bn ar) (dk d1 1)])),
 (ga (di 2),O.dead (cq (aq (aj (dk d1 2))) (bn av))),
 (di 1000000000074,xv (V.d (cq (ak (ao (dk d1 3))) (bn av)) (dk d1 3)))]
def q4x:okX 95 (@q4w R N):=Cq (AH (Wt N) <| AH (fW N) <| AH (rL N) <| AH (Zz N) <| AH (rM N) <| AH (q9F N) <| AH (q4D N) <| AZ) N [(95,[(0,[(4,5)])])] [(95,[([1,2,1,3,1,3,1,3,1,3,1,3,1,3,1,3,1,3,1,4,1,1],⟨[1],[],[.g (.l 1),.g (.l 2)],[],[],[(.int .u64)]⟩),
  ([1,2,1,3,1,3,1,3,1,3,1,3,1,3,1,3,1,3,1,3,1,4,1,1],⟨[1],[],[.g (.l 1),.g (.l 2)],[],[],[(.int .u64)]⟩),
  ([9],⟨[],[],[.g (.l 1),.g (.l 2)],[],[],[(.int .u64)]⟩)]),(119,[([9],⟨[0],[],[],[],[],[(.int .u64)]⟩)])] (fun _ _ _=>rH)
def Zw (k1:KD R):KD R->KD R:=fun k2 d2 m2=>(if ak (ao (dk d2 0))<=256/\0<=aj (dk d2 3)/\aj (dk d2 3)<=100000 then(bif !decide (Ar (ao (dk d2 0)) (aq (aj (dk d2 3)))=0)then(k1 [aw 0,dk d2 4,aw (Ar (ao (dk d2 0)) (aq (aj (dk d2 3))))] [])else(if(0<=if Ar (ao (dk d2 0)) (aq (aj (dk d2 3)))=0 then bN (ao (dk d2 0)) (aq (aj (dk d2 3)))else 0)/\(if Ar (ao (dk d2 0)) (aq (aj (dk d2 3)))=0 then bN (ao (dk d2 0)) (aq (aj (dk d2 3)))else 0)<18 then(bif decide (al ar (aj (dk d2 1)-aj (dk d2 4))<aj (ax (ax (dh Ey) (aq (if Ar (ao (dk d2 0)) (aq (aj (dk d2 3)))=0 then bN (ao (dk d2 0)) (aq (aj (dk d2 3)))else 0))) 2))then(k1 [aw 0,dk d2 4,aw 24] [])else(if(0<=if Ar (ao (dk d2 0)) (aq (aj (dk d2 3)))=0 then bN (ao (dk d2 0)) (aq (aj (dk d2 3)))else 0)/\(if Ar (ao (dk d2 0)) (aq (aj (dk d2 3)))=0 then bN (ao (dk d2 0)) (aq (aj (dk d2 3)))else 0)<18 then(bif decide ((if Ar (ao (dk d2 0)) (aq (aj (dk d2 3)))=0 then bN (ao (dk d2 0)) (aq (aj (dk d2 3)))else 0)=0)then(if ak (ao (dk d2 7))=ak (ao (dk d2 7))then(DJ N (aw (↑(aq (aj (dk d2 5))):Int)) (dk d2 6) (dk d2 7) (fun d3 m3=>(k1 [dk d3 0,aw (al ar (aj (dk d2 4)+aj (ax (ax (dh Ey) (aq (if Ar (ao (dk d2 0)) (aq (aj (dk d2 3)))=0 then bN (ao (dk d2 0)) (aq (aj (dk d2 3)))else 0))) 2))),dk d3 2] [])))else none)else(jn (fun d3 m3=>(bif !decide (aj (dk d3 6)=0)then(k1 [aw 0,dk d3 3,dk d3 6] [])else(if ak (ao (dk d3 7))=ak (ao (dk d3 7))then(k2 [dk d3 0,dk d3 1,dk d3 2,dk d3 4,dk d3 3,aw (↑(aq (aj (dk d3 5))):Int),dk d3 6,dk d3 7] [])else none))) (fun k3=>(bif decide ((if Ar (ao (dk d2 0)) (aq (aj (dk d2 3)))=0 then bN (ao (dk d2 0)) (aq (aj (dk d2 3)))else 0)=11)then(if ak (ao (dk d2 7))=ak (ao (dk d2 7))then(k3 [dk d2 0,dk d2 1,dk d2 2,aw (al ar (aj (dk d2 4)+aj (ax (ax (dh Ey) (aq (if Ar (ao (dk d2 0)) (aq (aj (dk d2 3)))=0 then bN (ao (dk d2 0)) (aq (aj (dk d2 3)))else 0))) 2))),aw (al ar (if Ar (ao (dk d2 0)) (aq (aj (dk d2 3)))=0 then CC (ao (dk d2 0)) (aq (aj (dk d2 3))+1) (BA (bN (ao (dk d2 0)) (aq (aj (dk d2 3)))))else 0)),aw (↑(aq (aj (dk d2 5))):Int),dk d2 6,dk d2 7] [])else none)else(bif decide ((if Ar (ao (dk d2 0)) (aq (aj (dk d2 3)))=0 then bN (ao (dk d2 0)) (aq (aj (dk d2 3)))else 0)=12)then(if ak (ao (dk d2 7))=ak (ao (dk d2 7))then(DJ N (aw (↑(aq (aj (dk d2 5))):Int)) (dk d2 6) (dk d2 7) (fun d3 m3=>(bif !decide (aj (dk d3 0)=0)then(if ak (ao (dk d3 4))=ak (ao (dk d3 4))then(k3 [dk d2 0,dk d2 1,dk d2 2,aw (al ar (aj (dk d2 4)+aj (ax (ax (dh Ey) (aq (if Ar (ao (dk d2 0)) (aq (aj (dk d2 3)))=0 then bN (ao (dk d2 0)) (aq (aj (dk d2 3)))else 0))) 2))),aw (al ar (if Ar (ao (dk d2 0)) (aq (aj (dk d2 3)))=0 then CC (ao (dk d2 0)) (aq (aj (dk d2 3))+1) (BA (bN (ao (dk d2 0)) (aq (aj (dk d2 3)))))else 0)),aw (↑(aq (aj (dk d3 1))):Int),dk d3 2,dk d3 4] [])else none)else(if ak (ao (dk d3 4))=ak (ao (dk d3 4))then(k3 [dk d2 0,dk d2 1,dk d2 2,aw (al ar (aj (dk d2 4)+aj (ax (ax (dh Ey) (aq (if Ar (ao (dk d2 0)) (aq (aj (dk d2 3)))=0 then bN (ao (dk d2 0)) (aq (aj (dk d2 3)))else 0))) 2))),aw (if Ar (ao (dk d2 0)) (aq (aj (dk d2 3)))=0 then(↑(aq (aj (dk d2 3))+1+BA (bN (ao (dk d2 0)) (aq (aj (dk d2 3))))):Int)else 0),aw (↑(aq (aj (dk d3 1))):Int),dk d3 2,dk d3 4] [])else none))))else none)else(if ak (ao (dk d2 7))=ak (ao (dk d2 7))then(MJ N (dk d2 2) (aw (if Ar (ao (dk d2 0)) (aq (aj (dk d2 3)))=0 then bN (ao (dk d2 0)) (aq (aj (dk d2 3)))else 0)) (aw (if Ar (ao (dk d2 0)) (aq (aj (dk d2 3)))=0 then CC (ao (dk d2 0)) (aq (aj (dk d2 3))+1) (BA (bN (ao (dk d2 0)) (aq (aj (dk d2 3)))))else 0)) (aw (↑(aq (aj (dk d2 5))):Int)) (dk d2 6) (dk d2 7) (fun d3 m3=>(if ak (ao (dk d3 3))=ak (ao (dk d3 3))then(k3 [dk d2 0,dk d2 1,dk d2 2,aw (al ar (aj (dk d2 4)+aj (ax (ax (dh Ey) (aq (if Ar (ao (dk d2 0)) (aq (aj (dk d2 3)))=0 then bN (ao (dk d2 0)) (aq (aj (dk d2 3)))else 0))) 2))),aw (if Ar (ao (dk d2 0)) (aq (aj (dk d2 3)))=0 then(↑(aq (aj (dk d2 3))+1+BA (bN (ao (dk d2 0)) (aq (aj (dk d2 3))))):Int)else 0),aw (↑(aq (aj (dk d3 0))):Int),dk d3 1,dk d3 3] [])else none)))else none))))))else none))else none))else none)
def VX (a0 a1 a2:C) (k1:KD R):Option R:=jn (fun d1 m1=>(bif cz (dk d1 3)then(k1 [aw 0,aw 0,aw 1] [])else(Ae N (Zw N k1) [dk d1 0,dk d1 1,dk d1 2,aw 0,aw 0,aw 0,AJ (bn ar),dh []] []))) (fun k2=>(bif decide (256<(↑(ak (ao a0)):Int))then(k2 [a0,a2,a1,cd true] [])else(bif decide (aj a2<0)then(k2 [a0,a2,a1,cd true] [])else(k2 [a0,a2,a1,cd (decide (4096<aj a2))] []))))
def Nr:=lid "" (@VX R N)
def Zx {R N a0 a1 a2 k}:@Nr R N a0 a1 a2 k=VX N a0 a1 a2 k:=by unfold Nr;rw[AW]
def q4t:OvG R:=Af [.slice 1 (.int .u8),Yg,.int .i64] (Ds (Nr N)) fun a K d1 m1=>K (ou [V.d (bn av) (dk d1 0),V.d (bn ar) (dk d1 1),V.d (bn ar) (dk d1 2)]) []
def q4u:okX 67 (@q4t R N):=Ai (AH (q4A N) <| AH (rL N) <| AH (q4x N) <| AZ) N [(67,[(0,[(4,5)])])] [(67,[([1],⟨[0,2,4,9],[(10,.d (.int .i64)),(11,.d (.int .i64))],[],[],[],[(.int .u64)]⟩),
  ([0,0,6,1],⟨[0,2,4],[(27,.d .bool)],[],[],[],[(.int .u64)]⟩),
  ([1,3,1,4,1,0,1,1,1,1,1,7,1],⟨[0,2,4,9,11],[(10,.d (.int .i64))],[],[],[],[(.int .u64)]⟩),
  ([9],⟨[],[(6,.d (.int .u64)),(7,.d (.int .i64)),(8,.d (.int .i64))],[],[],[],[(.int .u64)]⟩)])] (fun _ _=>Zx)
section
variable {R:Type} {N:Nat}
structure St where
 s:List Int
 e:Int
def Dk (b:Bool):Int:=if b=true then 1 else 0
def St.fail (x:St) (c:Int):St:=⟨x.s,if x.e=0 then c else x.e⟩
def St.pop (x:St):Int × St:=match x.s with| []=>(0,x.fail 12)|a::r=>(a,⟨r,x.e⟩)
def St.push (x:St) (a:Int):St:=if 32<=x.s.length then x.fail 4 else⟨a::x.s,x.e⟩
def St.FY (x:St) (a b:Int):St:=if 32<=x.s.length then x.fail 4 else(x.push a).push b
structure OkA (x:St) (arr:C):Prop where
 le:x.s.length<=32
 is:arr.elems.take x.s.length=x.s.reverse.map aw
def St.HZ (x:St) (arr:C) (a:Int):C:=if 32<=x.s.length then arr else .agg (arr.elems.take x.s.length++[.int a])
def St.PX (x:St) (arr:C) (a b:Int):C:=if 32<=x.s.length then arr else(x.push a).HZ (x.HZ arr a) b
section
variable {x:St} {arr:C}
def OkA.fail (h:OkA x arr) (c:Int):OkA (x.fail c) arr:=⟨h.le,h.is⟩
def OkA.pop (h:OkA x arr):OkA x.pop.2 arr:=by
 obtain⟨s,e⟩:=x;cases s with
 |nil=>exact⟨h.le,h.is⟩|cons a r=>
  have h1:r.length+1<=32:=h.le;have h2:arr.elems.take (r.length+1)=(a::r).reverse.map aw:=h.is;refine⟨show r.length<=32 by omega,show arr.elems.take r.length=r.reverse.map aw from ?_⟩;have h3:=congrArg (cn r.length) h2;rw[List.take_take,Nat.min_eq_left (Nat.le_succ _),qf,kn,List.take_append_of_le_length (by rw[ep,List.length_reverse];exact Nat.le_refl _),dr (l:=db aw r.reverse) (by simp)]at h3;exact h3
def OkA.len (h:OkA x arr):x.s.length<=arr.elems.length:=by have:=congrArg ak h.is;simp at this;omega
def OkA.top {a:Int} {r:List Int} {e:Int} (h:OkA ⟨a::r,e⟩ arr):arr.get r.length= .int a:=by
 have h2:arr.elems.take (r.length+1)=(a::r).reverse.map aw:=h.is;have h3:=congrArg (fun l=>l[r.length]?) h2;simp only[List.getElem?_take,Nat.lt_succ_self,if_true,qf,kn]at h3;rw[List.getElem?_append_right (by simp)]at h3;have h4:arr.elems[r.length]? =some (.int a):=by simpa using h3
 cases arr <;> simp only[ao,List.getElem?_nil,reduceCtorEq]at h4 <;> simp[ax,h4]
def OkA.push (h:OkA x arr) (a:Int):OkA (x.push a) (x.HZ arr a):=by unfold St.push St.HZ;by_cases h1:32<=x.s.length;{simp only[h1,if_true];exact h.fail 4};{simp only[h1,if_false];refine⟨show x.s.length+1<=32 by omega,?_⟩;show cn (x.s.length+1) (arr.elems.take x.s.length++[aw a])=(a::x.s).reverse.map aw;rw[h.is,dr (by simp),qf,kn];rfl}
def OkA.FY (h:OkA x arr) (a b:Int):OkA (x.FY a b) (x.PX arr a b):=by unfold St.FY St.PX;by_cases h1:32<=x.s.length;{simp only[h1,if_true];exact h.fail 4};{simp only[h1,if_false];exact(h.push a).push b}
def Jt (c:Int) (k:KD R):Ig N (.int c) (.int x.s.length) (.int x.e) arr k=k [.int (x.fail c).s.length,.int (x.fail c).e,.int arr.elems.length,arr] []:=by rw[rK];unfold aA St.fail;simp only[go_sem,AB,Ag,bf,if_true];by_cases h:x.e=0 <;> simp[h]
def Dl (h:OkA x arr) (k:KD R):DJ N (.int x.s.length) (.int x.e) arr k=k [.int x.pop.1,.int x.pop.2.s.length,.int x.pop.2.e,.int arr.elems.length,arr] []:=by
 obtain⟨s,e⟩:=x;cases s with
 |nil=>
  rw[aB];unfold VY;have:=Jt (R:=R) (N:=N) (x:=⟨[],e⟩) (arr:=arr) 12;simp only[de]at this ⊢;simp only[go_sem,AB,Ag,bf,if_true];exact(this _).trans rfl
 |cons a r=>
  have hn:r.length+1<=32:=h.le;have hw:al .i64 (((r.length+1:Nat):Int)-1)=r.length:=by rw[df _ (by omega)];omega
  rw[aB];unfold VY;simp only[cg,go_sem,AB,Ag,bf,if_true,hw];have h0:¬(((r.length+1:Nat):Int)=0):=by omega
  have h1:(0:Int)<=(r.length:Int)/\(r.length:Int)<((r.length+1:Nat):Int):=⟨by omega,by omega⟩;have h2:(0:Int)<=0/\(0:Int)<=(r.length:Int)/\(r.length:Int)<=((r.length+1:Nat):Int):=⟨by decide,by omega,by omega⟩;simp only[h0,AE,if_pos h1,if_pos h2,cm,Int.sub_zero,bf,h.top];rfl
def Mo (h:OkA x arr) (a:Int) (hN:4<N) (k:KD R):GI N (.slice [.int a]) (.int x.s.length) (.int x.e) arr k=k [.int (x.push a).s.length,.int (x.push a).e,.int arr.elems.length,x.HZ arr a] []:=by
 obtain⟨M,rfl⟩:∃M,N=M+3:=⟨N-3,by omega⟩;rw[aE];unfold VZ;simp only[go_sem,Bq,aC,AB,Ag,AI,bf,if_true,cg,de,cm];have hl:=h.len;have h32:=h.le;have e1:IntKind.i64.wrap ((0:Int)+1)=1:=by decide
 have e2:((0:Int)<((1:Nat):Int))=True:=by simp
 have e3:(((1:Nat):Int)<((1:Nat):Int))=False:=by simp
 by_cases h1:32<=x.s.length
 ·have h1':(32:Int)<=(x.s.length:Int):=by omega
  simp only[h1',Jt,go_sem,AB,AE];simp[St.push,St.HZ,h1]
 ·have h1':¬(32:Int)<=(x.s.length:Int):=by omega
  have h2:x.s.length+1=(cn x.s.length arr.elems++[aw a]).length:=by simp;omega
  have h3:(x.s.length+1)*8<=140737488355328/\x.s.length+1<=9223372036854775807:=by omega
  simp only[h1',go_sem,AB,e1,qe,<-h2,h3];simp[St.push,St.HZ,h1]
def U3 (h:OkA x arr) (a b:Int) (hN:4<N) (k:KD R):GI N (.slice [.int a,.int b]) (.int x.s.length) (.int x.e) arr k=k [.int (x.FY a b).s.length,.int (x.FY a b).e,.int arr.elems.length,x.PX arr a b] []:=by
 obtain⟨M,rfl⟩:∃M,N=M+3:=⟨N-3,by omega⟩;rw[aE];unfold VZ;simp only[go_sem,Bq,aC,AB,Ag,AI,bf,if_true,cg,de,cm];have hl:=h.len;have h32:=h.le;have e1:IntKind.i64.wrap ((0:Int)+1)=1:=by decide
 have e2:IntKind.i64.wrap ((1:Int)+1)=2:=by decide
 by_cases h1:32<=x.s.length
 ·have h1':(32:Int)<=(x.s.length:Int):=by omega
  simp only[h1',Jt,go_sem,AB,AE];simp[St.FY,St.PX,h1]
 ·have h1':¬(32:Int)<=(x.s.length:Int):=by omega
  have h2:x.s.length+1=(cn x.s.length arr.elems++[aw a]).length:=by simp;omega
  have h3:(x.s.length+1)*8<=140737488355328/\x.s.length+1<=9223372036854775807:=by omega
  have hx:x.push a=⟨a::x.s,x.e⟩:=if_neg h1;have hA:x.HZ arr a= .agg (arr.elems.take x.s.length++[.int a]):=if_neg h1;simp only[h1',go_sem,AB,e1,e2,qe,List.getD_cons_succ,<-h2,h3];by_cases h4:32<=x.s.length+1
  ·have h4':(32:Int)<=((x.s.length+1:Nat):Int):=by omega
   have:=Jt (R:=R) (N:=M+3) (x:=x.push a) (arr:=x.HZ arr a) 4;rw[hx,hA]at this;simp only[cg]at this;simp only[h4',go_sem,AB,this];simp[St.FY,St.PX,h1,hx,hA,St.push,St.HZ,h4]
  ·have h4':¬(32:Int)<=((x.s.length+1:Nat):Int):=by omega
   have h5:(x.s.length+1+1)*8<=140737488355328/\x.s.length+1+1<=9223372036854775807:=by omega
   have h6:cn (x.s.length+1) (cn x.s.length arr.elems++[aw a])=cn x.s.length arr.elems++[aw a]:=dr (by omega);have h7:x.s.length+1+1=(cn x.s.length arr.elems++[aw a]++[aw b]).length:=by simp;omega
   simp only[h4',go_sem,AB,DV,h5,h6,<-h7];simp[St.FY,St.PX,h1,hx,hA,St.push,St.HZ,h4];rw[DV,h6,List.append_assoc];rfl
def MG (h:OkA x arr) (c:C) (hN:4<N) (k:KD R):Hq N c (.int x.s.length) (.int x.e) arr k=k [.int (x.push (Dk c.toBool)).s.length,.int (x.push (Dk c.toBool)).e,.int arr.elems.length,x.HZ arr (Dk c.toBool)] []:=by rw[rJ];unfold Zy;cases hc:c.toBool <;> simp only[go_sem,AB,bf,AE,Mo h _ hN] <;> first|done|rfl
end
def St.put (x:St) (r:Int × Int):St:=if r.2=0 then x.push r.1 else x.fail r.2
def hiM (a b:Int):Int:=
  (al av
   (al av
     (al av
       (fw (a) (2^min (aq 32) 64)*fw (b) (2^min (aq 32) 64))+
      fw
       (al av
        (al av
          (fw (a) (2^min (aq 32) 64)*
           Aj dq av (b) 4294967295)+
         fw
          (al av
           (Aj dq av (a) 4294967295*
            Aj dq av (b) 4294967295))
          (2^min (aq 32) 64)))
       (2^min (aq 32) 64))+
    fw
     (al av
      (Aj dq av
        (al av
         (al av
           (fw (a) (2^min (aq 32) 64)*
            Aj dq av (b) 4294967295)+
          fw
           (al av
            (Aj dq av (a) 4294967295*
             Aj dq av (b) 4294967295))
           (2^min (aq 32) 64)))
        4294967295+
       al av
        (Aj dq av (a) 4294967295*
         fw (b) (2^min (aq 32) 64))))
     (2^min (aq 32) 64)))
def mulR (a b:Int):Int × Int:=if hiM a b=0 then(IntKind.u64.wrap (a*b),0)else(0,11)
def St.Ir (x:St) (f:Int->Int->Int × Int):St:=if x.pop.2.pop.2.e=0 then x.pop.2.pop.2.put (f x.pop.2.pop.1 x.pop.1)else x.pop.2.pop.2
def CG (w:C) (op:Nat) (arg:Int) (x:St):St:=match op with|1=>x.push arg|2=>if arg<((w.get 0).elems.length:Int)then x.push ((w.get 0).elems.getD arg.toNat .nil).toInt else x.fail 1|3=>x.Ir Ap|4=>x.Ir BT|5=>x.Ir mulR|6=>x.pop.2.pop.2.push (Dk (decide (x.pop.2.pop.1<x.pop.1)))|7=>x.pop.2.pop.2.push (Dk (decide (x.pop.2.pop.1=x.pop.1)))|8=>x.pop.2.push (Dk (decide (x.pop.1=0)))|9=>x.pop.2.pop.2.push (Dk (!decide (x.pop.2.pop.1=0)&& !decide (x.pop.1=0)))|10=>x.pop.2.pop.2.push (Dk (!decide (x.pop.2.pop.1=0)|| !decide (x.pop.1=0)))|13=>x.pop.2.FY x.pop.1 x.pop.1|14=>x.pop.2.pop.2.FY x.pop.1 x.pop.2.pop.1|15=>x.pop.2|16=>if arg<((w.get 1).elems.length:Int)then x.push (Dk ((w.get 1).elems.getD arg.toNat .nil).toBool)else x.fail 1|17=>x.push (w.get 2).toInt|_=>x
structure WOk (w:C):Prop where
 f:∀c∈(w.get 0).elems,c= .int c.toInt
 l0:(w.get 0).elems.length<4611686018427387904
 l1:(w.get 1).elems.length<4611686018427387904
 h:w.get 2= .int (w.get 2).toInt
def mul_eq (a b:Int) (k:KD R):Sb N (.int a) (.int b) k=k [.int (mulR a b).1,.int (mulR a b).2] []:=by
 have h1:∀k:KD R,SM N (.int a) (.int b) k=k [.int (hiM a b),.int (IntKind.u64.wrap (a*b))] []:=fun k=>by rw[zZ];rfl
 rw[x6];unfold fV mulR;rw[h1];simp only[go_sem,AB];by_cases h:hiM a b=0 <;> simp[h]
def z08 {w} (hw:WOk w) {x:St} {arr:C} (h:OkA x arr) (hN:4<N) (op:Nat) (hop:op<=17) (arg:Int) (ha:0<=arg):∃yy,OkA (CG w op arg x) yy/\∀{R:Type} (k:KD R),
  MJ N w (.int op) (.int arg) (.int x.s.length) (.int x.e) arr k=k [.int (CG w op arg x).s.length,.int (CG w op arg x).e,.int arr.elems.length,yy] []:=by
 have c:op=0\/op=1\/op=2\/op=3\/op=4\/op=5\/op=6\/op=7\/op=8\/op=9\/op=10\/op=11\/op=12\/op=13\/op=14\/op=15\/op=16\/op=17:=by omega
 have hp:=h.pop;have hpp:=hp.pop;have red:∀b:Prop,[Decidable b]->(if b then true else false)=decide b:=fun b _=>by by_cases h:b <;> simp[h]
 have m1:IntKind.u64.min=0:=by decide
 have m2:IntKind.u64.max=18446744073709551615:=by decide
 have ofl:∀n:Nat,n<4611686018427387904->IntKind.u64.wrap (n:Int)=n:=fun n hn=>Lp (by omega) (by omega)
 have go:∀(x':St) (yy:C),OkA x' yy->(∀{R:Type} (k:KD R),Dg N w (.int op) (.int arg) (.int x.s.length) (.int x.e) arr k=k [.int x'.s.length,.int x'.e,.int arr.elems.length,yy] [])->x'=CG w op arg x->∃yy,OkA (CG w op arg x) yy/\∀{R:Type} (k:KD R),
  MJ N w (.int op) (.int arg) (.int x.s.length) (.int x.e) arr k=k [.int (CG w op arg x).s.length,.int (CG w op arg x).e,.int arr.elems.length,yy] []:=by
  rintro x' yy h1 h2 rfl;exact⟨yy,h1,fun k=>by rw[rH];exact h2 k⟩
 have Ir:∀(f:Int->Int->Int × Int),CG w op arg x=x.Ir f->(∀{R:Type} (k:KD R),Dg N w (.int op) (.int arg) (.int x.s.length) (.int x.e) arr k=
   if x.pop.2.pop.2.e=0 then(if(f x.pop.2.pop.1 x.pop.1).2=0 then k [.int (x.pop.2.pop.2.push (f x.pop.2.pop.1 x.pop.1).1).s.length,.int (x.pop.2.pop.2.push (f x.pop.2.pop.1 x.pop.1).1).e,.int arr.elems.length,x.pop.2.pop.2.HZ arr (f x.pop.2.pop.1 x.pop.1).1] []
    else k [.int (x.pop.2.pop.2.fail (f x.pop.2.pop.1 x.pop.1).2).s.length,.int (x.pop.2.pop.2.fail (f x.pop.2.pop.1 x.pop.1).2).e,.int arr.elems.length,arr] [])
   else k [.int x.pop.2.pop.2.s.length,.int x.pop.2.pop.2.e,.int arr.elems.length,arr] [])->∃yy,OkA (CG w op arg x) yy/\∀{R:Type} (k:KD R),
  MJ N w (.int op) (.int arg) (.int x.s.length) (.int x.e) arr k=k [.int (CG w op arg x).s.length,.int (CG w op arg x).e,.int arr.elems.length,yy] []:=by
  intro f hf hk;by_cases h1:x.pop.2.pop.2.e=0;{by_cases h2:(f x.pop.2.pop.1 x.pop.1).2=0;{refine go _ _ (hpp.push (f x.pop.2.pop.1 x.pop.1).1) (fun k=>?_) ?_;{rw[hk,if_pos h1,if_pos h2]};{rw[hf];simp[St.Ir,St.put,h1,h2]}};{refine go _ _ (hpp.fail (f x.pop.2.pop.1 x.pop.1).2) (fun k=>?_) ?_;{rw[hk,if_pos h1,if_neg h2]};{rw[hf];simp[St.Ir,St.put,h1,h2]}}};{refine go _ _ hpp (fun k=>?_) ?_;{rw[hk,if_neg h1]};{rw[hf];simp[St.Ir,h1]}}
 rcases c with rfl|rfl|rfl|rfl|rfl|rfl|rfl|rfl|rfl|rfl|rfl|rfl|rfl|rfl|rfl|rfl|rfl|rfl
 case inr.inl =>   -- push
  refine go _ _ (h.push arg) (fun k=>?_) rfl;unfold Dg;simp only[go_sem,AB,bf,if_true,Mo h _ hN,Int.reduceEq,reduceIte]
 case inr.inr.inl =>   -- load
  by_cases hlt:arg<((w.get 0).elems.length:Int)
  ·have zl:¬((w.get 0).elems.length:Int)<=arg:=by omega
   have z58:(w.get 0).elems.getD arg.toNat .nil= .int ((w.get 0).elems.getD arg.toNat .nil).toInt:=by refine hw.f _ ?_;rw[bh,bg (by omega)];exact List.getElem_mem _
   refine go _ _ (h.push ((w.get 0).elems.getD arg.toNat .nil).toInt) (fun k=>?_) (by simp only[CG,hlt,if_true]);unfold Dg;simp only[go_sem,AB,bf,if_true,ofl _ hw.l0,zl,hlt,ha,and_self,Int.reduceEq,reduceIte];rw[z58,Mo h _ hN];simp only[go_sem,AB,bf,if_true]
  ·have zl:((w.get 0).elems.length:Int)<=arg:=by omega
   refine go _ _ (h.fail 1) (fun k=>?_) (by simp only[CG,hlt,if_false]);unfold Dg;simp only[go_sem,AB,bf,if_true,ofl _ hw.l0,zl,Jt,Int.reduceEq,reduceIte]
 case inr.inr.inr.inl =>   -- add
  refine Ir Ap rfl fun k=>?_;unfold Dg;simp only[go_sem,AB,bf,if_true,Dl h,Dl hp,add_eq,Mo hpp _ hN,Jt,Int.reduceEq,reduceIte];by_cases h1:x.pop.2.pop.2.e=0 <;> by_cases h2:(Ap x.pop.2.pop.1 x.pop.1).2=0 <;> simp[h1,h2]
 case inr.inr.inr.inr.inl =>   -- sub
  refine Ir BT rfl fun k=>?_;unfold Dg;simp only[go_sem,AB,bf,if_true,Dl h,Dl hp,sub_eq,Mo hpp _ hN,Jt,Int.reduceEq,reduceIte];by_cases h1:x.pop.2.pop.2.e=0 <;> by_cases h2:(BT x.pop.2.pop.1 x.pop.1).2=0 <;> simp[h1,h2]
 case inr.inr.inr.inr.inr.inl =>   -- mul
  refine Ir mulR rfl fun k=>?_;unfold Dg;simp only[go_sem,AB,bf,if_true,Dl h,Dl hp,mul_eq,Mo hpp _ hN,Jt,Int.reduceEq,reduceIte];by_cases h1:x.pop.2.pop.2.e=0 <;> by_cases h2:(mulR x.pop.2.pop.1 x.pop.1).2=0 <;> simp[h1,h2]
 all_goals try (   -- those that can't fail of themselves
  first
  |(refine go _ _ (hpp.push _) (fun k=>?_) rfl
    unfold Dg;simp only[go_sem,AB,Ag,bf,if_true,Dl h,Dl hp,MG hpp _ hN,Int.reduceEq,reduceIte]
    first|done|rfl)
  |(refine go _ _ (hp.push _) (fun k=>?_) rfl
    unfold Dg;simp only[go_sem,AB,Ag,bf,if_true,Dl h,MG hp _ hN,Int.reduceEq,reduceIte]
    first|done|rfl)
  |(refine go _ _ (hp.FY _ _) (fun k=>?_) rfl
    unfold Dg;simp only[go_sem,AB,bf,if_true,Dl h,U3 hp _ _ hN,Int.reduceEq,reduceIte]
    first|done|rfl)
  |(refine go _ _ (hpp.FY _ _) (fun k=>?_) rfl
    unfold Dg;simp only[go_sem,AB,bf,if_true,Dl h,Dl hp,U3 hpp _ _ hN,Int.reduceEq,reduceIte]
    first|done|rfl)
  |(refine go _ _ hp (fun k=>?_) rfl
    unfold Dg;simp only[go_sem,AB,bf,if_true,Dl h,Int.reduceEq,reduceIte]
    first|done|rfl)
  |(refine go _ _ h (fun k=>?_) rfl
    unfold Dg;simp only[go_sem,AB,bf,if_true,Int.reduceEq,reduceIte]
    first|done|rfl))
 ·by_cases h1:x.pop.2.pop.1=0
  ·refine go _ _ (hpp.push (Dk false)) (fun k=>?_) (by simp[CG,h1]);unfold Dg;simp only[go_sem,AB,Ag,bf,AE,Dl h,Dl hp,h1,MG hpp _ hN,Int.reduceEq,reduceIte]
   first|done|rfl
  ·refine go _ _ (hpp.push (Dk (!decide (x.pop.1=0)))) (fun k=>?_) (by simp[CG,h1]);unfold Dg;simp only[go_sem,AB,Ag,bf,AE,Dl h,Dl hp,h1,MG hpp _ hN,Int.reduceEq,reduceIte]
   first|done|rfl
 ·by_cases h1:x.pop.2.pop.1=0
  ·refine go _ _ (hpp.push (Dk (!decide (x.pop.1=0)))) (fun k=>?_) (by simp[CG,h1]);unfold Dg;simp only[go_sem,AB,Ag,bf,AE,Dl h,Dl hp,h1,MG hpp _ hN,Int.reduceEq,reduceIte]
   first|done|rfl
  ·refine go _ _ (hpp.push (Dk true)) (fun k=>?_) (by simp[CG,h1]);unfold Dg;simp only[go_sem,AB,Ag,bf,AE,Dl h,Dl hp,h1,MG hpp _ hN,Int.reduceEq,reduceIte]
   first|done|rfl
 ·by_cases hlt:arg<((w.get 1).elems.length:Int)
  ·have zl:¬((w.get 1).elems.length:Int)<=arg:=by omega
   refine go _ _ (h.push (Dk ((w.get 1).elems.getD arg.toNat .nil).toBool)) (fun k=>?_) (by simp only[CG,hlt,if_true]);unfold Dg;simp only[go_sem,AB,bf,if_true,ofl _ hw.l1,zl,hlt,ha,and_self,MG h _ hN,Int.reduceEq,reduceIte]
   first|done|rfl
  ·have zl:((w.get 1).elems.length:Int)<=arg:=by omega
   refine go _ _ (h.fail 1) (fun k=>?_) (by simp only[CG,hlt,if_false]);unfold Dg;simp only[go_sem,AB,bf,if_true,ofl _ hw.l1,zl,Jt,Int.reduceEq,reduceIte]
 ·refine go _ _ (h.push (w.get 2).toInt) (fun k=>?_) rfl;unfold Dg;simp only[go_sem,AB,bf,if_true,Int.reduceEq,reduceIte];rw[hw.h,Mo h _ hN];simp only[go_sem,AB,bf,if_true]
end
section
variable {R:Type} {N:Nat}
def Bv (o:Int):Int:=if o=5 then 3 else if o=16 then 10 else 1
def Qs (o:Int):1<=Bv o/\Bv o<=10:=by unfold Bv;(repeat' split) <;> omega
def q6I:∀(o:Nat),o<18->(Ey.getD o .nil).get 2= .int (Bv o):=by
 intro o h;have c:o=0\/o=1\/o=2\/o=3\/o=4\/o=5\/o=6\/o=7\/o=8\/o=9\/o=10\/o=11\/o=12\/o=13\/o=14\/o=15\/o=16\/o=17:=by omega
 rcases c with rfl|rfl|rfl|rfl|rfl|rfl|rfl|rfl|rfl|rfl|rfl|rfl|rfl|rfl|rfl|rfl|rfl|rfl <;> rfl
def CP (p:List C) (i:Nat):Int:=CC p (i+1) (BA (bN p i))
def Lb (p:List C) (gas:Int) (w:C):Nat->Nat->Int->St->Int × Int × Int
 |0,_,_,_=>(0,0,0)|f+1,i,sp,x=>
  if Ar p i≠0 then(0,sp,Ar p i)
  else if gas-sp<Bv (bN p i)then(0,sp,24)
  else if bN p i=0 then(x.pop.1,sp+Bv (bN p i),x.pop.2.e)
  else if bN p i=11 then(if x.e≠0 then(0,sp+Bv (bN p i),x.e)else Lb p gas w f (CP p i).toNat (sp+Bv (bN p i)) x)
  else if bN p i=12 then(if x.pop.2.e≠0 then(0,sp+Bv (bN p i),x.pop.2.e)else Lb p gas w f (if x.pop.1=0 then i+1+BA (bN p i)else(CP p i).toNat) (sp+Bv (bN p i)) x.pop.2)
  else(if(CG w (bN p i).toNat (CP p i) x).e≠0 then(0,sp+Bv (bN p i),(CG w (bN p i).toNat (CP p i) x).e)
   else Lb p gas w f (i+1+BA (bN p i)) (sp+Bv (bN p i)) (CG w (bN p i).toNat (CP p i) x))
def QH {p} {gas:Int} {w}:∀(f g i:Nat) (sp:Int) (x:St),(gas-sp).toNat<f->(gas-sp).toNat<g->Lb p gas w f i sp x=Lb p gas w g i sp x
 |0,_,_,_,_,h,_=>by omega
 |_+1,0,_,_,_,_,h=>by omega
 |f+1,g+1,i,sp,x,h1,h2=>by have hc:=Qs (bN p i);simp only[Lb];split;{rfl};split;{rfl};split;{rfl};split;{split;{rfl};{exact QH f g _ _ _ (by omega) (by omega)}};split;{split;{rfl};{exact QH f g _ _ _ (by omega) (by omega)}};split;{rfl};{exact QH f g _ _ _ (by omega) (by omega)}
def EO (p:List C) (gas:Int) (w:C) (i:Nat) (sp:Int) (x:St):Int × Int × Int:=Lb p gas w ((gas-sp).toNat+1) i sp x
def q1r {p} {gas:Int} {w} {i:Nat} {sp:Int} {x:St}:EO p gas w i sp x=
  if Ar p i≠0 then(0,sp,Ar p i)
  else if gas-sp<Bv (bN p i)then(0,sp,24)
  else if bN p i=0 then(x.pop.1,sp+Bv (bN p i),x.pop.2.e)
  else if bN p i=11 then(if x.e≠0 then(0,sp+Bv (bN p i),x.e)else EO p gas w (CP p i).toNat (sp+Bv (bN p i)) x)
  else if bN p i=12 then(if x.pop.2.e≠0 then(0,sp+Bv (bN p i),x.pop.2.e)else EO p gas w (if x.pop.1=0 then i+1+BA (bN p i)else(CP p i).toNat) (sp+Bv (bN p i)) x.pop.2)
  else(if(CG w (bN p i).toNat (CP p i) x).e≠0 then(0,sp+Bv (bN p i),(CG w (bN p i).toNat (CP p i) x).e)
   else EO p gas w (i+1+BA (bN p i)) (sp+Bv (bN p i)) (CG w (bN p i).toNat (CP p i) x)):=by
 have hc:=Qs (bN p i);unfold EO;rw[Lb];split;{rfl};split;{rfl};split;{rfl};split;{split;{rfl};{exact QH _ _ _ _ _ (by omega) (by omega)}};split;{split;{rfl};{exact QH _ _ _ _ _ (by omega) (by omega)}};split;{rfl};{exact QH _ _ _ _ _ (by omega) (by omega)}
def VG {p:List C} (hp:C.wf (.slice 1 (.int .u8)) (.slice p)) {i:Nat} (h:i+1+BA (bN p i)<=p.length) (h2:bN p i=11\/bN p i=12):0<=CP p i/\CP p i<65536:=by
 have hm:BA (bN p i)=2:=by rcases h2 with h2|h2 <;> rw[h2] <;> rfl
 have h16:=ZQ hp (i:=i+1) (k:=BA (bN p i)) (by omega);unfold CP;rw[hm]at h16 ⊢;exact⟨h16.1,by have:=h16.2;omega⟩
structure q3l where
 i:Nat
 sp:Int
 x:St
 arr:C
def z3Z {p:List C} (hp:C.wf (.slice 1 (.int .u8)) (.slice p)) (hl:p.length<=256) {gas:Int} (hg:0<=gas/\gas<=4096) {w} (hw:WOk w) (hN:5000<N) (k:KD R):
  Nr N (.slice p) w (.int gas) k=k [.int (EO p gas w 0 0 ⟨[],0⟩).1,.int (EO p gas w 0 0 ⟨[],0⟩).2.1,.int (EO p gas w 0 0 ⟨[],0⟩).2.2] []:=by
 rw[Zx];unfold VX;have a1:¬(256:Int)<(p.length:Int):=by omega
 have a2:¬gas<0:=by omega
 have a3:¬(4096:Int)<gas:=by omega
 simp only[go_sem,AB,AI,Ag,a1,a2,a3,AE]
 refine Hy (F:=Zw N k) (fun i:q3l=>[.slice p,.int gas,w,.int i.i,.int i.sp,.int i.x.s.length,.int i.x.e,i.arr]) (fun _=>[]) (fun i=>(gas-i.sp).toNat)
  (fun i=>OkA i.x i.arr/\i.x.e=0/\0<=i.sp/\i.sp<=gas/\i.i<=100000) (fun i=>k [.int (EO p gas w i.i i.sp i.x).1,.int (EO p gas w i.i i.sp i.x).2.1,.int (EO p gas w i.i i.sp i.x).2.2] [])
  ?_ N ⟨0,0,⟨[],0⟩,.agg []⟩ ⟨⟨by simp,by simp[ao]⟩,rfl,by dsimp only;omega,by dsimp only;omega,by dsimp only;omega⟩ (by dsimp only;omega)
 rintro⟨i,sp,x,arr⟩ ⟨hA,he,h0,h1,hi⟩ rec zd;dsimp only at hA he h0 h1 hi zd ⊢;rw[q1r];unfold Zw;have b1:ak p<=256/\(0:Int)<=(i:Int)/\(i:Int)<=100000:=⟨hl,by omega,by omega⟩;simp only[go_sem,AB,AI,Ag,b1,if_true,and_self,bf];by_cases e1:Ar p i=0
 case neg=>simp[e1]
 have hb:i<p.length/\bN p i<18/\i+1+BA (bN p i)<=p.length:=by unfold Ar at e1;split at e1;{cases e1};split at e1;{cases e1};split at e1;{cases e1};omega
 have hbw:=Hm hp hb.1;have hop:0<=bN p i/\bN p i<18:=by omega
 simp only[e1,hop,AE,and_self,ne_eq,not_true];have hco:(Ey.getD (bN p i).toNat .nil).get 2= .int (Bv (bN p i)):=by
  have:=q6I (bN p i).toNat (by omega)
  rwa [gr hop.1]at this
 have hcp:=Qs (bN p i);have w1:IntKind.i64.wrap (gas-sp)=gas-sp:=df _ (by omega);have w2:IntKind.i64.wrap (sp+Bv (bN p i))=sp+Bv (bN p i):=df _ (by omega);have hmo:=KH (bN p i);obtain⟨g1,g2,g3⟩:=Lx hp (i:=i+1) (k:=BA (bN p i)) (by omega) hmo;have hpl:=z08 hw hA (N:=N) (by omega) (bN p i).toNat (by omega) (CC p (i+1) (BA (bN p i))) g1;rw[gr hop.1]at hpl;simp only[hco,go_sem,AB,w1,w2];generalize hc:Bv (bN p i)=c at*;by_cases e2:gas-sp<c;{simp[e2]};by_cases e3:bN p i=0;{simp[e2,e3,Dl hA,go_sem]};have hw3:0<=CP p i->CP p i<65536->IntKind.i64.wrap (CC p (i+1) (BA (bN p i)))=((CP p i).toNat:Int):=fun h1 h2=>by rw[gr h1];exact df _ (by unfold CP at*;omega)
 by_cases e4:bN p i=11;{obtain⟨q1,q2⟩:=VG hp hb.2.2 (.inl e4);have:=zd ⟨(CP p i).toNat,sp+c,x,arr⟩ ⟨hA,he,by dsimp only;omega,by dsimp only;omega,by dsimp only;omega⟩ (by dsimp only;omega);simp only[hw3 q1 q2];simp only[e2,e3,e4,he,AE,not_true,not_false_iff,Int.reduceEq];simpa only[he]using this};by_cases e5:bN p i=12;{obtain⟨q1,q2⟩:=VG hp hb.2.2 (.inr e5);simp only[hw3 q1 q2,Dl hA];simp only[e2,e3,e4,e5,go_sem,AB,AE,not_true,not_false_iff,Int.reduceEq,bf];by_cases e6:x.pop.2.e=0;{by_cases e7:x.pop.1=0;{have:=zd ⟨i+1+BA (bN p i),sp+c,x.pop.2,arr⟩ ⟨hA.pop,e6,by dsimp only;omega,by dsimp only;omega,by dsimp only;omega⟩ (by dsimp only;omega);simp only[e5]at this;simpa[e6,e7]using this};{have:=zd ⟨(CP p i).toNat,sp+c,x.pop.2,arr⟩ ⟨hA.pop,e6,by dsimp only;omega,by dsimp only;omega,by dsimp only;omega⟩ (by dsimp only;omega);simpa[e6,e7]using this}};{by_cases e7:x.pop.1=0 <;> simp[e6,e7]}};{obtain⟨yy,hA',hk⟩:=hpl;simp only[hk];simp only[e2,e3,e4,e5,go_sem,AB,AE,not_true,not_false_iff,Int.reduceEq,bf];have hq:CC p (i+1) (BA (bN p i))=CP p i:=rfl;rw[hq]at hA' ⊢;by_cases e6:(CG w (bN p i).toNat (CP p i) x).e=0;{have:=zd ⟨i+1+BA (bN p i),sp+c,CG w (bN p i).toNat (CP p i) x,yy⟩ ⟨hA',e6,by dsimp only;omega,by dsimp only;omega,by dsimp only;omega⟩ (by dsimp only;omega);simpa[e6]using this};{simp[e6]}}
end
def VN {R:Type} (N:Nat) (k1:KD R) (k2:KD R):KD R->KD R:=fun k3 d3 m3=>(bif decide (aj (dk d3 3)<2)then(if 0<=aj (dk d3 3)/\aj (dk d3 3)<2 then(jn (fun d4 m4=>(bif cz (dk d4 4)then(k1 [aw 12] [])else(k3 [dk d4 0,dk d4 1,dk d4 2,aw (al ar (aj (dk d4 3)+1))] []))) (fun k4=>(bif decide (aj (ax (ax (dk d3 0) 8) 1)<aj (ax (ax (dk d3 1) 0) 1))then(if 0<=aj (dk d3 3)/\aj (dk d3 3)<2 then(k4 [dk d3 0,dk d3 1,dk d3 2,dk d3 3,cd (decide (aj (ax (ax (ax (dk d3 1) 0) 3) (aq (aj (dk d3 3))))<aj (ax (dk d3 2) (aq (aj (dk d3 3))))))] [])else none)else(k4 [dk d3 0,dk d3 1,dk d3 2,dk d3 3,cd false] []))))else none)else(k2 [] []))
def Zh (a0 a1:C) (k1:KD R):Option R:=bif decide (aj (ax a0 6)=2)then(k1 [aw 31] [])else(JQ N (ax a0 2) a1 (ax a0 0) (fun d1 m1=>(bif !cz (dk d1 0)then(k1 [aw 20] [])else(PO N (ax a1 0) (ax a0 4) (fun d2 m2=>(bif !decide (aj (dk d2 0)=0)then(k1 [dk d2 0] [])else(jn (fun d3 m3=>(k1 [aw 0] [])) (fun k2=>(Ae N (VN N k1 k2) [a0,a1,ax a0 5,aw 0] [])))))))))
def MF:=lid "" (@Zh R N)
def qM {R N a0 a1 k}:@MF R N a0 a1 k=Zh N a0 a1 k:=by unfold MF;rw[AW]
def q36:OvG R:=Af [Az,EE] (Bl (MF N)) (BD (bn ar))
def Zg:okX 39 (@q36 R N):=Ai (AH (q5d N) <| AH (X8 N) <| AZ) N [(39,[(0,[(2,5),(3,5)])])] [(39,[([1,0,1,1,1],(Ah [])),
  ([4,1,0,1,1,1],(AY [2,3,29] [(30,.d (.int .i64))])),
  ([0,1,4,0,1,1,5,4,1,0,1,1,1],(AY [2,3,29,30] [(49,.d .bool)])),
  ([9],(Ah [(4,.d (.int .i64))]))])] (fun _ _=>qM)
def iJ {R:Type} (N:Nat) (a0:C) (k1:KD R):Option R:=bif bw (ak (ao (ax a0 4))) (ak (ao (ax a0 4)))then(k1 [dh [ax a0 0,ax a0 1,ax a0 2,ax a0 3,bc (ao (ax a0 4))]] [])else none
def PQ:=lid "" (@iJ R N)
def W3 {R N a0 k}:@PQ R N a0 k=iJ N a0 k:=by unfold PQ;rw[AW]
def z00:OvG R:=Af [Bk] (Bs (PQ N)) (BD Bk)
def W2:okX 63 (@z00 R N):=Ai (AH (rC N) <| AZ) N [] [(63,[([9],⟨[],[(2,.as (.ptr (.l 2) [] Bk))],[],[(.l 2,.box (.d Bk))],[],[]⟩)])] (fun _ _=>W3)
def Zd (a0:C) (k1:KD R):Option R:=PQ N (ax a0 8) (fun d1 m1=>(bif bw (ak (ao (ax a0 3))) (ak (ao (ax a0 3)))then(k1 [dh [ax a0 0,ax a0 1,ax a0 2,bc (ao (ax a0 3)),ax a0 4,ax a0 5,ax a0 6,ax a0 7,dk d1 0]] [])else none))
def MC:=lid "" (@Zd R N)
def qK {R N a0 k}:@MC R N a0 k=Zd N a0 k:=by unfold MC;rw[AW]
def q34:OvG R:=Af [Az] (Bs (MC N)) (BD Az)
def Zc:okX 36 (@q34 R N):=Ai (AH (Zt N) <| AH (W2 N) <| AZ) N [(36,[(1,[(8,7)])])] [(36,[([9],⟨[],[(2,.as (.ptr (.l 2) [] Az))],[],[(.l 2,.box (.d Az))],[],[]⟩)])] (fun _ _=>qK)
def BG:C:=dh [AJ (bn cf),AJ (cq 2 (bn ar)),dh [dh [dh (ay 32 (aw 0)),dh (ay 32 (aw 0))],aw 0],bc [],AJ (cq 2 (bn av)),AJ (cq 2 (bn av)),AJ (bn ar),AJ (bn av),dh [AJ (bn cf),AJ (bn av),AJ (cq 2 (bn av)),AJ (cq 2 (bn av)),bc []]]
def Zf (a0 a1:C) (k1:KD R):Option R:=MC N a0 (fun d1 m1=>(jn (fun d2 m2=>(k1 [dk d2 0] [])) (fun k2=>(bif decide (aj (ax (ax (dk d1 0) 8) 1)<aj (ax (ax a1 0) 1))then(PQ N (ax a1 0) (fun d2 m2=>(k2 [ct (dk d1 0) 8 (dk d2 0),BG] [])))else(k2 [dk d1 0,BG] [])))))
def MD:=lid "" (@Zf R N)
def qL {R N a0 a1 k}:@MD R N a0 a1 k=Zf N a0 a1 k:=by unfold MD;rw[AW]
def q35:OvG R:=Af [Az,EE] (Bl (MD N)) (BD Az)
def Ze:okX 40 (@q35 R N):=Ai (AH (Zc N) <| AH (W2 N) <| AZ) N [(40,[(0,[(3,5)])])] [(40,[([1,0,1,1],(AY [2,4] [])),
  ([9],⟨[],[(4,.as (.ptr (.l 4) [] Az))],[],[(.l 4,.box (.d Az))],[],[]⟩)])] (fun _ _=>qL)
def Zi (a0:C) (k1:KD R):Option R:=Nr N (ax a0 3) (dh [bc [ax (ax a0 4) (aq 0),ax (ax a0 4) (aq 1),ax (ax a0 8) 1],bc [],AJ (bn av)]) (aw 200) (fun d1 m1=>(bif !decide (aj (dk d1 2)=0)then(k1 [aw 5] [])else(k1 [aw (if 1<if 50<aj (dk d1 0)then 50 else aj (dk d1 0)then if 50<aj (dk d1 0)then 50 else aj (dk d1 0)else 1)] [])))
def Qj:=lid "" (@Zi R N)
def qN {R N a0 k}:@Qj R N a0 k=Zi N a0 k:=by unfold Qj;rw[AW]
def q37:OvG R:=Af [Az] (Bs (Qj N)) (BD (bn av))
def q38:okX 41 (@q37 R N):=Ai (AH (q4u N) <| AZ) N [(41,[(0,[(1,5)])])] [(41,[([9],(Ah [(2,.d (.int .u64))]))])] (fun _ _=>qN)
def ZY (a0 a1 a2:C) (k1:KD R):Option R:=bif decide (aj (ax a0 6)=1)then(k1 [aw 3,BG] [])else(MF N a0 a1 (fun d1 m1=>(bif !decide (aj (dk d1 0)=0)then(k1 [dk d1 0,BG] [])else(MD N a0 a1 (fun d2 m2=>(Qj N (dk d2 0) (fun d3 m3=>(Jc N a2 (dk d3 0) (fun d4 m4=>(bif !decide (aj (dk d4 1)=0)then(k1 [dk d4 1,BG] [])else(k1 [aw 0,ct (ct (dk d2 0) 6 (aw 1)) 7 (dk d4 0)] [])))))))))))
def Qg:=lid "" (@ZY R N)
def qG {R N a0 a1 a2 k}:@Qg R N a0 a1 a2 k=ZY N a0 a1 a2 k:=by unfold Qg;rw[AW]
def q3W:OvG R:=Af [Az,EE,.int .u64] (Ds (Qg N)) fun a K d1 m1=>K (ou [V.d Az (dk d1 1),V.d (bn ar) (dk d1 0)]) []
def q3X:okX 12 (@q3W R N):=Ai (AH (Wt N) <| AH (Zg N) <| AH (Ze N) <| AH (q38 N) <| AZ) N [(12,[(0,[(4,5)])])] [(12,[([9],⟨[],[(6,.as (.ptr (.l 6) [] Az)),(7,.d (.int .i64))],[],[(.l 6,.box (.d Az))],[],[]⟩)])] (fun _ _=>qG)
section
variable {R:Type} {N:Nat}
def SOk (s:C):Prop:=s= .agg [s.get 0,s.get 1,s.get 2,s.get 3,.slice (AU s)]
def mkB (id who rts:C) (yj:List C) (put yi ph un yh:C):C:=.agg [id,who,rts,.slice yj,put,yi,ph,un,yh]
def W1 {s} (h:SOk s) (k:KD R):PQ N s k=k [s] []:=by rw[W3];unfold iJ;simp only[br,cond_true];exact congrArg (fun x=>k [x] []) h.symm
section
variable {id who rts:C} {yj:List C} {put yi ph un yh:C}
def Zk (h:SOk yh) (k:KD R):MC N (mkB id who rts yj put yi ph un yh) k=k [mkB id who rts yj put yi ph un yh] []:=by rw[qK];unfold Zd mkB;simp only[go_sem,W1 h,AI,br,cond_true]
def KN (yh yi s:C) (_:Nat) (_:Unit) (side:Nat):Unit ⊕ Int:=if(yh.get 1).toInt<(s.get 1).toInt/\((s.get 3).get side).toInt<(yi.get side).toInt then .inr 12 else .inl ()
def EB (ph put yi yh d:C) (w:Bool):Int:=
 if ph.toInt=2 then 31 else if w=false then 20 else if ED (d.get 0) put≠0 then ED (d.get 0) put else okE (Ax (KN yh yi (d.get 0)) 0 () [0,1])
def look_eq {d} {w:Bool} (hW:∀k:KD R,JQ N rts d id k=k [.bool w] []) (hN:2199023255552<N) (k:KD R):
  MF N (mkB id who rts yj put yi ph un yh) d k=k [.int (EB ph put yi yh d w)] []:=by
 rw[qM];unfold Zh EB mkB;simp only[go_sem,AB,Ag,hW,q1X (d.get 0) put hN];by_cases h1:ph.toInt=2;{simp[h1]};cases w;{simp[h1]};by_cases h2:ED (d.get 0) put=0
 case neg=>simp[h1,h2]
 simp only[h1,h2,AE,ne_eq,not_true,Bool.true_eq_false];refine(Hz (F:=VN N k _) (fun i (_:Unit)=>[.agg [id,who,rts,.slice yj,put,yi,ph,un,yh],d,yi,.int i]) (fun _ _=>[]) ([0,1]:List Nat) (KN yh yi (d.get 0)) (fun _=>k [.int 0] []) (fun e=>k [.int e] []) (s0:=()) ?_ ?_ (show 2<N by omega)).trans ?_
 ·intro i _ c hx hi rec;have hi2:i<2:=hi;have h1:(i:Int)<2:=by omega
  have hc:c=i:=by
   have:i=0\/i=1:=by omega
   rcases this with rfl|rfl <;> simp at hx <;> exact hx.symm
  subst hc;unfold VN KN;simp only[go_sem,AB,Ag,h1,BK (show c<4611686018427387904 by omega),bq,and_self,if_true];by_cases h3:(yh.get 1).toInt<((d.get 0).get 1).toInt;{by_cases h4:(((d.get 0).get 3).get c).toInt<(yi.get c).toInt <;> simp[h3,h4]};{simp[h3]}
 ·intro _ rec;unfold VN;simp[go_sem,AB]
 ·unfold EI okE;cases Ax (KN yh yi (d.get 0)) 0 () [0,1] <;> rfl
def BL (yh d:C):C:=if(yh.get 1).toInt<((d.get 0).get 1).toInt then d.get 0 else yh
def ZV {d:C} (h:SOk yh) (hd:SOk (d.get 0)) (k:KD R):MD N (mkB id who rts yj put yi ph un yh) d k=k [mkB id who rts yj put yi ph un (BL yh d)] []:=by rw[qL];unfold Zf BL;rw[Zk h];unfold mkB;simp only[go_sem,AB,W1 hd];by_cases h3:(yh.get 1).toInt<((d.get 0).get 1).toInt <;> simp[h3]
def GZ (p:List C) (w:C) (gas:Int):Int × Int × Int:=if 256<p.length\/gas<0\/4096<gas then(0,0,1)else EO p gas w 0 0 ⟨[],0⟩
def run_eq {p} (hp:C.wf (.slice 1 (.int .u8)) (.slice p)) {gas:Int} {w} (hw:WOk w) (hN:5000<N) (k:KD R):
  Nr N (.slice p) w (.int gas) k=k [.int (GZ p w gas).1,.int (GZ p w gas).2.1,.int (GZ p w gas).2.2] []:=by
 unfold GZ;by_cases h:256<p.length\/gas<0\/4096<gas
 ·rw[if_pos h,Zx];unfold VX;simp only[go_sem,AB,AI,Ag];by_cases a1:(256:Int)<(p.length:Int);{simp[a1]};by_cases a2:gas<0;{simp[a1,a2]};have a3:(4096:Int)<gas:=by omega
  simp[a1,a2,a3]
 ·rw[if_neg h];exact z3Z hp (by omega) (by omega) hw hN k
def Gd (put yh:C):C:=.agg [.slice [put.get 0,put.get 1,yh.get 1],.slice [],.int 0]
def Gw (yj:List C) (put yh:C):Int:=
 if(GZ yj (Gd put yh) 200).2.2≠0 then 5 else
  if 1<(if 50<(GZ yj (Gd put yh) 200).1 then 50 else(GZ yj (Gd put yh) 200).1)then(if 50<(GZ yj (Gd put yh) 200).1 then 50 else(GZ yj (Gd put yh) 200).1)else 1
def z47 (yj:List C) (put yh:C):1<=Gw yj put yh/\Gw yj put yh<=50:=by unfold Gw;split;{omega};{split <;> split <;> omega}
structure QS (put yh:C):Prop where
 p0:put.get 0= .int (put.get 0).toInt
 p1:put.get 1= .int (put.get 1).toInt
 r:yh.get 1= .int (yh.get 1).toInt
def q22 (h:QS put yh):WOk (Gd put yh):=by refine⟨?_,by simp[Gd,ax,ao],by simp[Gd,ax,ao],rfl⟩;intro c hc;have hc:c∈[put.get 0,put.get 1,yh.get 1]:=hc;simp only[List.mem_cons,List.not_mem_nil,or_false]at hc;rcases hc with rfl|rfl|rfl;{exact h.p0};{exact h.p1};{exact h.r}
def z48 (hr:C.wf (.slice 1 (.int .u8)) (.slice yj)) (h:QS put yh) (hN:5000<N) (k:KD R):Qj N (mkB id who rts yj put yi ph un yh) k=k [.int (Gw yj put yh)] []:=by rw[qN];unfold Zi mkB Gw;have hw:dh [bc [put.get (aq 0),put.get (aq 1),yh.get 1],bc [],AJ (bn av)]=Gd put yh:=rfl;simp only[cV,Oa,WH,hw,run_eq hr (q22 h) hN];simp only[go_sem,AB];by_cases h1:(GZ yj (Gd put yh) 200).2.2=0;{simp[h1];rfl};{simp[h1]}
def zB:C:=.agg [.int 0,zz,.agg [.agg [.agg (ay 32 (.int 0)),.agg (ay 32 (.int 0))],.int 0],.slice [],zz,zz,.int 0,.int 0,.agg [.int 0,.int 0,zz,zz,.slice []]]
def GC:BG=zB:=rfl
def HG (id who rts:C) (yj:List C) (put yi ph un yh d:C) (w:Bool) (yk:Int):Int × C:=
 if ph.toInt=1 then(3,zB)else if EB ph put yi yh d w≠0 then(EB ph put yi yh d w,zB)else
  if(Ap yk (Gw yj put (BL yh d))).2≠0 then((Ap yk (Gw yj put (BL yh d))).2,zB)else
   (0,mkB id who rts yj put yi (.int 1) (.int (Ap yk (Gw yj put (BL yh d))).1) (BL yh d))
def q6z {d:C} {w:Bool} (hW:∀k:KD R,JQ N rts d id k=k [.bool w] []) (hr:C.wf (.slice 1 (.int .u8)) (.slice yj)) (h:SOk yh) (hd:SOk (d.get 0)) (hi:QS put yh) (hi2:(d.get 0).get 1= .int ((d.get 0).get 1).toInt) (hN:2199023255552<N) (yk:C) (k:KD R):
  Qg N (mkB id who rts yj put yi ph un yh) d yk k=k [.int (HG id who rts yj put yi ph un yh d w yk.toInt).1,(HG id who rts yj put yi ph un yh d w yk.toInt).2] []:=by
 have hi3:QS put (BL yh d):=⟨hi.p0,hi.p1,by unfold BL;split;exact hi2;exact hi.r⟩;rw[qG];unfold ZY HG;rw[GC];have h6:(mkB id who rts yj put yi ph un yh).get 6=ph:=rfl;have d0:∀(c:C) (l:List C),dk (c::l) 0=c:=fun _ _=>rfl;simp only[h6,look_eq hW hN,ZV h hd,d0,z48 hr hi3 (show 5000<N by omega),add_eq];by_cases h1:ph.toInt=1;{simp[h1]};by_cases h2:EB ph put yi yh d w=0
 case neg=>simp[h1,h2,go_sem,AB]
 by_cases h3:(Ap yk.toInt (Gw yj put (BL yh d))).2=0 <;> simp[h1,h2,h3,go_sem,AB,mkB]
end
end
def z0c:List Sh:=[.as (.ptr (.g (.l 1)) [] Ff),.d (.arr 32 (.int .u8))]
def z0f:List (Key × OSh):=[(.l 1,.box (.agg Ff [.as (.mp (.g (.l 2)))])),(.l 2,.map (.arr 32 (.int .u8)) AX)]
def gJ {R:Type} (N:Nat) (a0 a1 b0:C) (m0:Es) (k1:KD R):Option R:=bif DT AX (dE AX m0)then(bif Il (dE AX m0) a0 then(k1 [ax (Ks (dE AX m0) a0) 1,cd true] [])else(k1 [aw 0,cd false] []))else none
def Sl:=lid "" (@gJ R N)
def r9 {R N a0 a1 b0 m0 k}:@Sl R N a0 a1 b0 m0 k=gJ N a0 a1 b0 m0 k:=by unfold Sl;rw[AW]
def z0d:OvG R:=Cf z0c z0f (fun ds ms=>Sl N (dk ds 0) (dk ds 1) (dk ds 2) (dm ms 0)) fun ds ms K d1 m1=>K (ou [V.d (bn av) (dk d1 0),V.d Ty.bool (cd (cz (dk d1 1)))]) []
def z0e:okX 134 (@z0d R N):=Cq AZ N [(134,[(0,[(3,5)])])] [(134,[([9],⟨[],[(4,.d (.int .u64)),(5,.d .bool)],[],[],[.g (.l 1),.g (.l 2)],[]⟩)])] (fun _ _ _=>r9)
def q90:List Sh:=[.as (.ptr (.g (.l 1)) [] Ff),.d (.arr 32 (.int .u8)),.d (.int .u64)]
def q93:List (Key × OSh):=[(.l 1,.box (.agg Ff [.as (.mp (.g (.l 2)))])),(.l 2,.map (.arr 32 (.int .u8)) AX)]
def Aw (g:Key->Key):C × V->C × V:=fun c=>(Prod.fst c,V.ren g id (Prod.snd c))
@[go_sem] theorem YD (g:Key->Key) (τ:Ty) (m:Es):db (Aw g) (dE τ m)=dE τ m:=z3c g τ m
def gG (a0 a1 a2 b0:C) (m0:Es) (k1:KD R):Option R:=if BO AX (db (Aw (swU (di 2) (CL (if di 1=CL [] (ga (di 1))then[]else[]++[(di 1,CL [] (ga (di 1)))]) (ga (di 2))))) (db (Aw (swU (di 1) (CL [] (ga (di 1))))) (db (Aw ga) (dE AX m0))))=true then(Sl N a0 du du (unE (db (Aw (swU (di 2) (CL (if di 1=CL [] (ga (di 1))then[]else[]++[(di 1,CL [] (ga (di 1)))]) (ga (di 2))))) (db (Aw (swU (di 1) (CL [] (ga (di 1))))) (db (Aw ga) (dE AX m0))))) (fun d1 m1=>(jn (fun d2 m2=>(k1 [cd (cz (dk d2 0))] [])) (fun k2=>(bif cz (dk d1 1)then(k2 [cd (decide (aj (dk d1 0)<=aj a1))] [])else(k2 [cd false] []))))))else none
def Si:=lid "" (@gG R N)
def s8 {R N a0 a1 a2 b0 m0 k}:@Si R N a0 a1 a2 b0 m0 k=gG N a0 a1 a2 b0 m0 k:=by unfold Si;rw[AW]
def q91:OvG R:=Cf q90 q93 (fun ds ms=>Si N (dk ds 0) (dk ds 1) (dk ds 2) (dk ds 3) (dm ms 0)) fun ds ms K d1 m1=>K (V.d Ty.bool (cd (cz (dk d1 0)))) []
def q92:okX 107 (@q91 R N):=Cq (AH (z0e N) <| AZ) N [(107,[(0,[(4,5)])])] [(107,[([0,1,1],⟨[0],[(6,.d .bool)],[],[],[.g (.l 1),.g (.l 2)],[]⟩),
  ([9],⟨[],[(6,.d .bool)],[],[],[.g (.l 1),.g (.l 2)],[]⟩)])] (fun _ _ _=>s8)
def q94:List Sh:=[.as (.ptr (.g (.l 1)) [] Ff),.d DQ,.d (.int .u64)]
def q97:List (Key × OSh):=[(.l 1,.box (.agg Ff [.as (.mp (.g (.l 2)))])),(.l 2,.map (.arr 32 (.int .u8)) AX)]
def gH (a0 a1 b0:C) (m0:Es) (k1:KD R):Option R:=if BO AX (db (Aw (swU (di 2) (CL (if di 1=CL [] (ga (di 1))then[]else[]++[(di 1,CL [] (ga (di 1)))]) (ga (di 2))))) (db (Aw (swU (di 1) (CL [] (ga (di 1))))) (db (Aw ga) (dE AX m0))))=true then(Si N (ax a0 3) (ax a0 4) du du (unE (db (Aw (swU (di 2) (CL (if di 1=CL [] (ga (di 1))then[]else[]++[(di 1,CL [] (ga (di 1)))]) (ga (di 2))))) (db (Aw (swU (di 1) (CL [] (ga (di 1))))) (db (Aw ga) (dE AX m0))))) (fun d1 m1=>(bif cz (dk d1 0)then(k1 [aw 1] [])else(bif decide (aj (ax a0 4)<aj a1)then(k1 [aw 2] [])else(k1 [aw 0] [])))))else none
def Sj:=lid "" (@gH R N)
def s9 {R N a0 a1 b0 m0 k}:@Sj R N a0 a1 b0 m0 k=gH N a0 a1 b0 m0 k:=by unfold Sj;rw[AW]
def q95:OvG R:=Cf q94 q97 (fun ds ms=>Sj N (dk ds 0) (dk ds 1) (dk ds 2) (dm ms 0)) fun ds ms K d1 m1=>K (V.d (bn ar) (dk d1 0)) []
def q96:okX 83 (@q95 R N):=Cq (AH (q92 N) <| AZ) N [(83,[(0,[(4,5)])])] [(83,[([9],⟨[],[(6,.d (.int .i64))],[],[],[.g (.l 1),.g (.l 2)],[]⟩)])] (fun _ _ _=>s9)
def q9W:List Sh:=[.as (.ptr (.g (.l 1)) [] Ff),.d (.int .u64),.d (.slice 64 DQ)]
def q9Z:List (Key × OSh):=[(.l 1,.box (.agg Ff [.as (.mp (.g (.l 2)))])),(.l 2,.map (.arr 32 (.int .u8)) AX)]
def XB (m0:Es) (k2:KD R):KD R->KD R:=fun k3 d1 m1=>(bif decide (aj (dk d1 4)<aj (dk d1 2))then(if 0<=aj (dk d1 4)/\aj (dk d1 4)<(↑(ak (ao (dk d1 1))):Int)then(if BO AX (db (Aw (swU (di 2) (CL (if di 1=CL [] (ga (di 1))then[]else[]++[(di 1,CL [] (ga (di 1)))]) (ga (di 2))))) (db (Aw (swU (di 1) (CL [] (ga (di 1))))) (db (Aw ga) (dE AX m0))))=true then(Sj N (bj (ao (dk d1 1)) (aq (aj (dk d1 4))) du) (dk d1 0) du (unE (db (Aw (swU (di 2) (CL (if di 1=CL [] (ga (di 1))then[]else[]++[(di 1,CL [] (ga (di 1)))]) (ga (di 2))))) (db (Aw (swU (di 1) (CL [] (ga (di 1))))) (db (Aw ga) (dE AX m0))))) (fun d2 m2=>(bif bw (ak (ao (dk d1 3))) (ak (ao (dk d1 3)))then(if(ak (ao (dk d1 3))+1)*8<=140737488355328/\ak (ao (dk d1 3))+1<=9223372036854775807 then(bif bw (ak (ao (dk d1 3))+1) (ak (ao (dk d1 3)++[dk d2 0]))then(k3 [dk d1 0,dk d1 1,dk d1 2,bc (ao (dk d1 3)++[dk d2 0]),aw (al ar (aj (dk d1 4)+1))] [])else none)else none)else none)))else none)else none)else(bif bw (ak (ao (dk d1 3))) (ak (ao (dk d1 3)))then(k2 [bc (ao (dk d1 3))] [])else none))
def gF (a0 a1 b0:C) (m0:Es) (k1:KD R):Option R:=jn (fun d1 m1=>(bif bw (ak (ao (dk d1 0))) (ak (ao (dk d1 0)))then(k1 [bc (ao (dk d1 0))] [])else none)) (fun k2=>(Ae N (XB N m0 k2) [a0,a1,aw (↑(ak (ao a1)):Int),bc [],aw 0] []))
def Sg:=lid "" (@gF R N)
def u9 {R N a0 a1 b0 m0 k}:@Sg R N a0 a1 b0 m0 k=gF N a0 a1 b0 m0 k:=by unfold Sg;rw[AW]
def q9X:OvG R:=Cf q9W q9Z (fun ds ms=>Sg N (dk ds 0) (dk ds 1) (dk ds 2) (dm ms 0)) fun ds ms K d1 m1=>K (V.ts 8 (bn ar) (ao (dk d1 0))) []
def q9Y:okX 57 (@q9X R N):=Cq (AH (q96 N) <| AZ) N [] [(57,[([1,0,1,1],⟨[0],[(7,.sl 8 (.int .i64) 5007)],[],[],[.g (.l 1),.g (.l 2)],[]⟩),
  ([4,1,0,1,1],⟨[0,1,10,11],[(7,.sl 8 (.int .i64) 5007),(12,.d (.int .i64))],[],[],[.g (.l 1),.g (.l 2)],[]⟩),
  ([9],⟨[],[(6,.sl 8 (.int .i64) 5006)],[],[],[.g (.l 1),.g (.l 2)],[]⟩)])] (fun _ _ _=>u9) fun ds ms K=>(show _=jn (fun d1 m1=>(bif bw (ak (ao (dk d1 0))) (ak (ao (dk d1 0)))then
  (K (V.ts 8 (bn ar) (ao (dk d1 0))) [])
 else
  none)) _ by kernel_rfl).trans (congrArg (fun k=>jn k _) (funext fun _=>funext fun _=>by simp only[br,cond_true]))
def q3S:List Sh:=[.d Az,.as (.ptr (.g (.l 1)) [] Ff),.d (.int .u64)]
def q3V:List (Key × OSh):=[(.l 1,.box (.agg Ff [.as (.mp (.g (.l 2)))])),(.l 2,.map (.arr 32 (.int .u8)) AX)]
def VM {R:Type} (N:Nat) (k1:KD R) (k2:KD R):KD R->KD R:=fun k3 d2 m2=>(bif decide (aj (dk d2 3)<aj (dk d2 1))then(if 0<=aj (dk d2 3)/\aj (dk d2 3)<(↑(ak (ao (dk d2 0))):Int)then(bif decide (aj (bj (ao (dk d2 0)) (aq (aj (dk d2 3))) du)=0)then(k1 [aw 30,BG,AJ (cq 2 (bn av))] [])else(bif bw (ak (ao (dk d2 2))) (ak (ao (dk d2 2)))then(if(ak (ao (dk d2 2))+1)*1<=140737488355328/\ak (ao (dk d2 2))+1<=9223372036854775807 then(bif bw (ak (ao (dk d2 2))+1) (ak (ao (dk d2 2)++[cd (decide (aj (bj (ao (dk d2 0)) (aq (aj (dk d2 3))) du)=1))]))then(k3 [dk d2 0,dk d2 1,bc (ao (dk d2 2)++[cd (decide (aj (bj (ao (dk d2 0)) (aq (aj (dk d2 3))) du)=1))]),aw (al ar (aj (dk d2 3)+1)),dk d2 4,dk d2 5,dk d2 6] [])else none)else none)else none))else none)else(bif bw (ak (ao (dk d2 2))) (ak (ao (dk d2 2)))then(k2 [bc (ao (dk d2 2)),dk d2 4,dk d2 5,dk d2 6] [])else none))
def ZX (a0 a1 b0:C) (m0:Es) (k1:KD R):Option R:=bif decide (aj (ax a0 6)=0)then(k1 [aw 3,BG,AJ (cq 2 (bn av))] [])else(bif decide (aj (ax a0 6)=2)then(k1 [aw 31,BG,AJ (cq 2 (bn av))] [])else(bif decide (aj a1<aj (ax a0 7))then(k1 [aw 30,BG,AJ (cq 2 (bn av))] [])else(if BO AX (db (Aw (swU (di 2) (CL (if di 1=CL [] (ga (di 1))then[]else[]++[(di 1,CL [] (ga (di 1)))]) (ga (di 2))))) (db (Aw (swU (di 1) (CL [] (ga (di 1))))) (db (Aw ga) (dE AX m0))))=true then(Sg N a1 (ax (ax a0 8) 4) du (unE (db (Aw (swU (di 2) (CL (if di 1=CL [] (ga (di 1))then[]else[]++[(di 1,CL [] (ga (di 1)))]) (ga (di 2))))) (db (Aw (swU (di 1) (CL [] (ga (di 1))))) (db (Aw ga) (dE AX m0))))) (fun d1 m1=>(jn (fun d2 m2=>(TA N (ax (dk d2 1) 8) (ax (dk d2 1) 4) (ax (dk d2 1) 5) (bc (ao (dk d2 0))) (fun d3 m3=>(bif !decide (aj (dk d3 0)=0)then(k1 [dk d3 0,BG,AJ (cq 2 (bn av))] [])else(MC N (dk d2 1) (fun d4 m4=>(k1 [aw 0,ct (dk d4 0) 6 (aw 2),dk d3 1] []))))))) (fun k2=>(Ae N (VM N k1 k2) [bc (ao (dk d1 0)),aw (↑(ak (ao (dk d1 0))):Int),bc [],aw 0,a0,BG,AJ (cq 2 (bn av))] [])))))else none)))
def Qf:=lid "" (@ZX R N)
def qF {R N a0 a1 b0 m0 k}:@Qf R N a0 a1 b0 m0 k=ZX N a0 a1 b0 m0 k:=by unfold Qf;rw[AW]
def q3T:OvG R:=Cf q3S q3V (fun ds ms=>Qf N (dk ds 0) (dk ds 1) (dk ds 2) (dm ms 0)) fun ds ms K d1 m1=>K (ou [V.d Az (dk d1 1),V.d (cq 2 (bn av)) (dk d1 2),V.d (bn ar) (dk d1 0)]) []
def q3U:okX 29 (@q3T R N):=Cq (AH (Zc N) <| AH (q9Y N) <| AH (z0Z N) <| AZ) N [(29,[(20,[(12,6),(3,6)])])] [(29,[([1,0,1,1,1],⟨[1,3,6,7],[(9,.sl 1 .bool 5009)],[],[],[.g (.l 1),.g (.l 2)],[]⟩),
  ([4,1,0,1,1,1],⟨[1,3,6,7,38,39],[(9,.sl 1 .bool 5009),(40,.d (.int .i64))],[],[],[.g (.l 1),.g (.l 2)],[]⟩),
  ([9],⟨[],[(6,.as (.ptr (.l 6) [] Az)),(7,.as (.ptr (.l 7) [] (.arr 2 (.int .u64)))),(8,.d (.int .i64))],[],[(.l 6,.box (.d Az)),(.l 7,.box (.d (.arr 2 (.int .u64))))],[.g (.l 1),.g (.l 2)],[]⟩)])] (fun _ _ _=>qF)
def Za (a0 a1 a2:C) (k1:KD R):Option R:=jn (fun d1 m1=>(bif cz (dk d1 2)then(k1 [aw 1,BG] [])else(bif decide (aj (ax (dk d1 3) 6)=2)then(k1 [aw 31,BG] [])else(MC N (dk d1 3) (fun d2 m2=>(if 0<=aj (dk d1 0)/\aj (dk d1 0)<2 then(Jc N (ax (ax (dk d2 0) 4) (aq (aj (dk d1 0)))) (dk d1 1) (fun d3 m3=>(if 0<=aj (dk d1 0)/\aj (dk d1 0)<2 then(bif !decide (aj (dk d3 1)=0)then(k1 [dk d3 1,BG] [])else(Jc N (aw 0) (ax (ax (ct (dk d2 0) 4 (ct (ax (dk d2 0) 4) (aq (aj (dk d1 0))) (dk d3 0))) 4) 0) (fun d4 m4=>(bif !decide (aj (dk d4 1)=0)then(bif !decide (aj (dk d4 1)=0)then(k1 [dk d4 1,BG] [])else(k1 [aw 0,ct (dk d2 0) 4 (ct (ax (dk d2 0) 4) (aq (aj (dk d1 0))) (dk d3 0))] []))else(Jc N (dk d4 0) (ax (ax (ct (dk d2 0) 4 (ct (ax (dk d2 0) 4) (aq (aj (dk d1 0))) (dk d3 0))) 4) 1) (fun d5 m5=>(bif !decide (aj (dk d5 1)=0)then(bif !decide (aj (dk d5 1)=0)then(k1 [dk d5 1,BG] [])else(k1 [aw 0,ct (dk d2 0) 4 (ct (ax (dk d2 0) 4) (aq (aj (dk d1 0))) (dk d3 0))] []))else(k1 [aw 0,ct (dk d2 0) 4 (ct (ax (dk d2 0) 4) (aq (aj (dk d1 0))) (dk d3 0))] []))))))))else none)))else none)))))) (fun k2=>(bif !decide (aj a1=0)then(bif !decide (aj a1=1)then(k2 [a1,a2,cd true,a0,BG] [])else(k2 [a1,a2,cd (decide (aj a2=0)),a0,BG] []))else(k2 [a1,a2,cd (decide (aj a2=0)),a0,BG] [])))
def Qh:=lid "" (@Za R N)
def qI {R N a0 a1 a2 k}:@Qh R N a0 a1 a2 k=Za N a0 a1 a2 k:=by unfold Qh;rw[AW]
def q30:OvG R:=Af [Az,.int .i64,.int .u64] (Ds (Qh N)) fun a K d1 m1=>K (ou [V.d Az (dk d1 1),V.d (bn ar) (dk d1 0)]) []
def q31:okX 11 (@q30 R N):=Ai (AH (Zc N) <| AH (Wt N) <| AZ) N [] [(11,[([0,4,0,1],(AY [1,2,3,6] [(9,.d .bool)])),
  ([9],⟨[],[(6,.as (.ptr (.l 6) [] Az)),(7,.d (.int .i64))],[],[(.l 6,.box (.d Az))],[],[]⟩)])] (fun _ _=>qI)
def ZZ {R:Type} (N:Nat) (a0:C) (k1:KD R):Option R:=bif decide (aj (ax a0 6)=2)then(k1 [aw 0] [])else(k1 [aw (al av (al av (al av (aj (ax (ax a0 4) (aq 0))-aj (ax (ax a0 5) (aq 0)))+aj (ax (ax a0 4) (aq 1)))-aj (ax (ax a0 5) (aq 1))))] [])
def Nl:=lid "" (@ZZ R N)
def qH {R N a0 k}:@Nl R N a0 k=ZZ N a0 k:=by unfold Nl;rw[AW]
def q3Y:OvG R:=Af [Az] (Bs (Nl N)) (BD (bn av))
def q3Z:okX 22 (@q3Y R N):=Ai AZ N [(22,[(0,[(1,5)])])] [(22,[([9],(Ah [(2,.d (.int .u64))]))])] (fun _ _=>qH)
section
variable {R:Type} {N:Nat}
def ofP (m:Es) (c:C) (yk:Int):Int:=
 if FG m (c.get 3)=true/\((getM m (c.get 3)).get 1).toInt<=(c.get 4).toInt then 1 else if(c.get 4).toInt<yk then 2 else 0
def z5e (h:C) (a1 b0:C) (m:Es) (k:KD R):Sl N h a1 b0 m k=k [if FG m h=true then(getM m h).get 1 else .int 0,.bool (FG m h)] []:=by rw[r9];unfold gJ;simp only[go_sem];cases FG m h <;> rfl
def q7j (h x:C) (a1 b0:C) (m:Es) (k:KD R):Si N h x a1 b0 m k=k [.bool (FG m h&&decide (((getM m h).get 1).toInt<=x.toInt))] []:=by rw[s8];unfold gG;simp only[go_sem,z5e,Ag];cases FG m h <;> simp
def of_eq (c yk:C) (b0:C) (m:Es) (k:KD R):Sj N c yk b0 m k=k [.int (ofP m c yk.toInt)] []:=by rw[s9];unfold gH ofP;simp only[go_sem,q7j,Ag];cases h:FG m (c.get 3);{by_cases h2:(c.get 4).toInt<yk.toInt <;> simp[h2]};{by_cases h1:((getM m (c.get 3)).get 1).toInt<=(c.get 4).toInt;{simp[h1]};{by_cases h2:(c.get 4).toInt<yk.toInt <;> simp[h1,h2]}}
def all_eq (yk:C) (l:C) (b0:C) (m:Es) (hl:l.elems.length<1099511627776) (hN:2199023255552<N) (k:KD R):Sg N yk l b0 m k=k [.slice (l.elems.map fun c=>.int (ofP m c yk.toInt))] []:=by
 rw[u9];unfold gF;rw[AP];refine DX (F:=XB N m _) (fun i=>[yk,l,.int l.elems.length,.slice ((l.elems.take i).map fun c=>.int (ofP m c yk.toInt)),.int i]) (fun _=>[]) l.elems.length _ ?_ ?_ (by omega)
 ·intro i hi rec;have hc:l.elems[i]? =some l.elems[i]:=bg hi;have h1:(i:Int)<(l.elems.length:Int):=by omega
  have hlen:(l.elems.take i).length=i:=by rw[List.length_take];omega
  have h3:(i+1)*8<=140737488355328/\i+1<=9223372036854775807:=by omega
  have h4:cn (i+1) l.elems=cn i l.elems++[l.elems[i]]:=by rw[List.take_add_one,hc];rfl
  unfold XB;simp only[go_sem,AB,AI,h1,HK hc,BK (show i<4611686018427387904 by omega),bq,and_self,AE,h3,br,of_eq,ep,bt,cg,de,hlen,h4,kn,List.map_cons,List.map_nil]
 ·intro rec;unfold XB;simp only[go_sem,AB,AI,fa,AE,br,List.take_length]
section
variable {id who rts:C} {yj:List C} {put yi ph un yh:C}
def KB (m:Es) (yk:Int) (l:List C):Bool:=l.any fun c=>decide (ofP m c yk=0)
def Hr (m:Es) (yk:Int) (l:List C):List C:=l.map fun c=>.bool (decide (ofP m c yk=1))
def Kl (m:Es) (yk:Int) (_:Nat) (acc:List C) (c:C):List C ⊕ Unit:=if ofP m c yk=0 then .inr ()else .inl (acc++[.bool (decide (ofP m c yk=1))])
def bD (m:Es) (yk:Int):∀(l:List C) (i:Nat) (acc:List C),Ax (Kl m yk) i acc l=if KB m yk l=true then .inr ()else .inl (acc++Hr m yk l)
 | [],_,acc=>by simp[Ax,KB,Hr]
 |c::l,i,acc=>by
  simp only[Ax,Kl];by_cases h:ofP m c yk=0;{simp[h,KB]}
  ·have ih:=bD m yk l (i+1) (acc++[.bool (decide (ofP m c yk=1))]);simp only[h,if_false,ih];have e:KB m yk (c::l)=KB m yk l:=by simp[KB,h]
   rw[e];simp[Hr]
def Ep (m:Es) (id who rts:C) (yj:List C) (put yi ph un yh:C) (yk:Int):Int × C × C:=
 if ph.toInt=0 then(3,zB,zz)else if ph.toInt=2 then(31,zB,zz)else if yk<un.toInt then(30,zB,zz)else
  if KB m yk (AU yh)=true then(30,zB,zz)else
   if(Ci yh put yi (Hr m yk (AU yh))).1≠0 then((Ci yh put yi (Hr m yk (AU yh))).1,zB,zz)else
    (0,mkB id who rts yj put yi (.int 2) un yh,(Ci yh put yi (Hr m yk (AU yh))).2)
def q6r (h:SOk yh) (hl:(AU yh).length<1099511627776) (m:Es) (yk b0:C) (hN:2199023255552<N) (k:KD R):
  Qf N (mkB id who rts yj put yi ph un yh) yk b0 m k=
   k [.int (Ep m id who rts yj put yi ph un yh yk.toInt).1,(Ep m id who rts yj put yi ph un yh yk.toInt).2.1,(Ep m id who rts yj put yi ph un yh yk.toInt).2.2] []:=by
 have hz:AJ (cq 2 (bn av))=zz:=rfl;have h6:(mkB id who rts yj put yi ph un yh).get 6=ph:=rfl;have h7:(mkB id who rts yj put yi ph un yh).get 7=un:=rfl;have h8:(mkB id who rts yj put yi ph un yh).get 8=yh:=rfl;have h4:(mkB id who rts yj put yi ph un yh).get 4=put:=rfl;have h5:(mkB id who rts yj put yi ph un yh).get 5=yi:=rfl;rw[qF];unfold ZX Ep;rw[GC,hz];simp only[h6,h7,h8];by_cases a1:ph.toInt=0;{simp[a1]};by_cases a2:ph.toInt=2;{simp[a1,a2]};by_cases a3:yk.toInt<un.toInt;{simp[a1,a2,a3]};have hbl:(yh.get 4).elems.length=(AU yh).length:=rfl;simp only[a1,a2,a3,AE,YD,Cu,Dn,all_eq yk (yh.get 4) du m hl hN,AP,AF,AI,ep,hbl]
 refine(Ot (N:=N) (F:=VM N k _) (fun i (acc:List C)=>[.slice ((AU yh).map fun c=>.int (ofP m c yk.toInt)),.int (AU yh).length,.slice acc,.int i,mkB id who rts yj put yi ph un yh,zB,zz]) (fun _ _=>[])
  (AU yh) (Kl m yk.toInt) (fun acc=>if(Ci yh put yi acc).1≠0 then k [.int (Ci yh put yi acc).1,zB,zz] []else k [.int 0,mkB id who rts yj put yi (.int 2) un yh,(Ci yh put yi acc).2] [])
  (fun _=>k [.int 30,zB,zz] []) (fun i acc=>acc.length=i) (s0:=[]) rfl ?_ ?_ (by omega)).trans ?_
 ·intro i acc c hx hP;have hi:i<(AU yh).length:=(List.getElem?_eq_some_iff.1 hx).1;refine⟨fun rec=>?_,fun z8t h'=>?_⟩
  ·have h1:(i:Int)<((AU yh).length:Int):=by omega
   have hg:(db (fun c=>aw (ofP m c yk.toInt)) (AU yh)).getD i .nil= .int (ofP m c yk.toInt):=by rw[bh,List.getElem?_map,hx];rfl
   have h3:(acc.length+1)*1<=140737488355328/\acc.length+1<=9223372036854775807:=by omega
   unfold VM Kl;rw[GC,hz];simp only[AF,AK,AO,AV,Ac,Av,BW,AB,AI,h1,hg,ep,bt,cg,de,cm,bf,BK (show i<4611686018427387904 by omega),bq,and_self,AE,h3,br];by_cases h:ofP m c yk.toInt=0 <;> simp[h]
  ·unfold Kl at h';split at h';{cases h'};{cases h';simp[hP]}
 ·intro acc hP rec;unfold VM;rw[GC,hz];simp only[AF,AK,AO,AV,Ac,Av,BW,AB,AI,fa,AE,br,h8,h4,h5,z4w yh put yi (.slice acc) rfl hN,Zk h];by_cases h:(Ci yh put yi acc).1=0;{simp[h,mkB];rfl};{simp[h,mkB]}
 ·rw[bD];by_cases h:KB m yk.toInt (AU yh)=true;{simp[h,EI]};{simp only[h,if_false,List.nil_append,EI];by_cases h9:(Ci yh put yi (Hr m yk.toInt (AU yh))).1=0 <;> simp[h9]}
def HW (id who rts:C) (yj:List C) (put yi ph un yh:C) (side yo:Int):Int × C:=
 if(side≠0/\side≠1)\/yo=0 then(1,zB)else if ph.toInt=2 then(31,zB)else
  if(Ap (put.get side.toNat).toInt yo).2≠0 then((Ap (put.get side.toNat).toInt yo).2,zB)else
   if(CM [(put.set side.toNat (.int (Ap (put.get side.toNat).toInt yo).1)).get 0,(put.set side.toNat (.int (Ap (put.get side.toNat).toInt yo).1)).get 1]).2≠0 then((CM [(put.set side.toNat (.int (Ap (put.get side.toNat).toInt yo).1)).get 0,(put.set side.toNat (.int (Ap (put.get side.toNat).toInt yo).1)).get 1]).2,zB)else
    (0,mkB id who rts yj (put.set side.toNat (.int (Ap (put.get side.toNat).toInt yo).1)) yi ph un yh)
def q9J (h:SOk yh) (side yo:C) (k:KD R):
  Qh N (mkB id who rts yj put yi ph un yh) side yo k=k [.int (HW id who rts yj put yi ph un yh side.toInt yo.toInt).1,(HW id who rts yj put yi ph un yh side.toInt yo.toInt).2] []:=by
 have h6:(mkB id who rts yj put yi ph un yh).get 6=ph:=rfl;rw[qI];unfold Za HW;rw[GC]
 have e:∀K:KD R,jn K (fun K=>(bif !decide (side.toInt=0)then(bif !decide (side.toInt=1)then K [side,yo,.bool true,mkB id who rts yj put yi ph un yh,zB] []else K [side,yo,.bool (decide (yo.toInt=0)),mkB id who rts yj put yi ph un yh,zB] [])else K [side,yo,.bool (decide (yo.toInt=0)),mkB id who rts yj put yi ph un yh,zB] []))=
   K [side,yo,.bool (decide ((side.toInt≠0/\side.toInt≠1)\/yo.toInt=0)),mkB id who rts yj put yi ph un yh,zB] []:=fun K=>by
  rw[AP];by_cases h0:side.toInt=0;{simp[h0]};{by_cases h1:side.toInt=1 <;> simp[h0,h1]}
 rw[e];by_cases a1:(side.toInt≠0/\side.toInt≠1)\/yo.toInt=0;{simp only[AF,AK,AO,AV,Ag,a1,AE]};have hs:0<=side.toInt/\side.toInt<2:=by omega
 by_cases a2:ph.toInt=2;{simp only[AF,AK,AO,AV,Ag,a1,a2,h6,AE]};simp only[AF,AK,AO,AV,Ag,AB,a1,a2,h6,AE,Zk h,hs,and_self,add_eq];unfold mkB;simp only[Oa,mP,Int.toNat_zero];by_cases b1:(Ap (put.get side.toInt.toNat).toInt yo.toInt).2=0
 case neg=>simp only[b1,AE,ne_eq,not_false_iff]
 have e2:∀x y:C,(CM [x,y]).2=if(Ap 0 x.toInt).2=0 then(Ap (Ap 0 x.toInt).1 y.toInt).2 else(Ap 0 x.toInt).2:=fun x y=>by by_cases g1:(Ap 0 x.toInt).2=0;{by_cases g2:(Ap (Ap 0 x.toInt).1 y.toInt).2=0 <;> simp[CM,Ax,Gh,Jk,g1,g2]};{simp[CM,Ax,Gh,Jk,g1]}
 simp only[b1,e2,AE,ne_eq,not_true];by_cases b2:(Ap 0 ((put.set side.toInt.toNat (aw (Ap (put.get side.toInt.toNat).toInt yo.toInt).1)).get 0).toInt).2=0;{simp only[b2,AE];by_cases b3:(Ap (Ap 0 ((put.set side.toInt.toNat (aw (Ap (put.get side.toInt.toNat).toInt yo.toInt).1)).get 0).toInt).1 ((put.set side.toInt.toNat (aw (Ap (put.get side.toInt.toNat).toInt yo.toInt).1)).get 1).toInt).2=0;{simp only[b3,AE,not_true]};{simp only[b3,AE,not_false_iff]}};{simp only[b2,AE,not_false_iff]}
end
end
end Go.Proofs.YtgdonkaoajbclaaGreatDoor
