/-
 What the functions on the way compute, part 2.
 Conditions: none.
-/
import Derived.Test.YteealakhniofoaaGreatDoorKa
set_option linter.all false
noncomputable section
set_option maxRecDepth 100000
set_option maxHeartbeats 4000000
open BitVec renaming ofInt->dx,toNat_shiftLeft->ta,toNat_ushiftRight->mh
open Go.BinOp renaming and->fi,or->ui,xor->dz
open Go.E.C renaming agg->dc,bool->de,elems->ax,get->bj,int->bc,nil->dj,set->cn,slice->bw,toBool->dg,toInt->aq
open Go.E.Key renaming g->dp,l->ch
open Go.E.O renaming box->dy,dead->fk
open Go.E.Ty renaming arr->ca,int->bm
open Go.IntKind renaming bits->ny,i64->ba,signed->lr,u32->ct,u64->ay,u8->cq,wrap->ar
open Int renaming fdiv->jv,lt_irrefl->eg,natCast_nonneg->bz,ofNat->jc,tdiv->fc,tmod->bn,toNat->av,toNat_natCast->bb
open List renaming drop->iy,getD->bt,length->au,mem_singleton->fj,replicate->bp,take->eu
open Nat renaming beq_refl->bh,le_refl->bx,pow_add->vm,shiftLeft_eq->wm,shiftRight_eq_div_pow->mr,two_pow_pos->xf,zero_add->bf
namespace Go.Proofs.YteealakhniofoaaGreatDoor
open Go Go.E
variable {R:Type} (N:Nat)
def SH (a0 a1 a2 a3 a4:C) (k1:KD R):Option R:=Lc N a0 (bc (ar ba (0-aq a3))) (fun J m1=>(jn (fun I m2=>(Lc N (U I 0) (bc (ar ba (0-aq (U I 1)))) (fun d3 m3=>(Lc N (U I 0) (bc (ar ba (0-aq (U I 2)))) (fun d4 m4=>(k1 [bc (BV dz ct (BV dz ct (aq (U d3 0)) (aq (U d4 0))) (aq (U I 3)))] [])))))) (fun k2=>(bif dg a4 then(if 0<=aq a3 then(k2 [a0,a1,a2,bc (jv (aq a0) (2^min (av (aq a3)) 32))] [])else none)else(k2 [a0,a1,a2,U J 0] [])))))
def Hu:=lid "" (@SH R N)
theorem Vl {R N a0 a1 a2 a3 a4 k}:@Hu R N a0 a1 a2 a3 a4 k=SH N a0 a1 a2 a3 a4 k:=by unfold Hu;rw[BQ]
def q4R:OvG R:=Bq [.int .u32,.int .i64,.int .i64,.int .i64,.bool] (fun a=>Hu N (a 0) (a 1) (a 2) (a 3) (a 4)) (DM (bm ct))
theorem q4S:okX 180 (@q4R R N):=CV (BJ (q4k N) <| BT) N [] [(180,[([1,0,1,1],(Cz [0,1,2] [(11,.d (.int .u32))])),
  ([9],(Ct [(10,.d (.int .u32))]))])] (fun _ _=>Vl)
def q4F:List Sh:=[.as (.ptr (.g (.l 1)) [] DS)]
def q4I:List (Key × OSh):=[(.l 1,.box (.d DS))]
def Le {R:Type} (N:Nat) (k2:KD R):KD R->KD R:=fun k3 d4 m4=>(bif decide (aq (U d4 0)<8)then(if 0<=aq (U d4 0)/\aq (U d4 0)<8 then(if 0<=aq (U d4 0)/\aq (U d4 0)<8 then(if 0<=aq (U d4 0)/\aq (U d4 0)<8 then(k3 [bc (ar ba (aq (U d4 0)+1)),cn (U d4 1) 0 (cn (bj (U d4 1) 0) (av (aq (U d4 0))) (bc (ar ct (aq (bj (bj (U d4 1) 0) (av (aq (U d4 0))))+aq (bj (U d4 2) (av (aq (U d4 0)))))))),U d4 2] [])else none)else none)else none)else(k2 [U d4 1] []))
def Ji (k2:KD R):KD R->KD R:=fun k3 d3 m3=>(bif decide (aq (U d3 1)<64)then(if 0<=aq (U d3 1)/\aq (U d3 1)<64 then(jn (fun d4 m4=>(Hu N (bj (U d4 6) (av 4)) (bc 6) (bc 11) (bc 25) (de false) (fun d5 m5=>(if 0<=aq (U d4 1)/\aq (U d4 1)<16 then(Hu N (bj (U d4 6) (av 0)) (bc 2) (bc 13) (bc 22) (de false) (fun d6 m6=>(k3 [U d4 2,bc (ar ba (aq (U d4 3)+1)),U d4 4,U d4 5,cn (cn (cn (cn (cn (cn (cn (cn (AI (ca 8 (bm ct))) 0 (bc (ar ct (ar ct (ar ct (ar ct (ar ct (ar ct (aq (bj (U d4 6) (av 7))+aq (U d5 0))+BV dz ct (aq (bj (U d4 6) (av 6))) (BV fi ct (aq (bj (U d4 6) (av 4))) (BV dz ct (aq (bj (U d4 6) (av 5))) (aq (bj (U d4 6) (av 6))))))+aq (U d4 0))+aq (bj (U d4 5) (av (aq (U d4 1)))))+aq (U d6 0))+BV ui ct (BV fi ct (aq (bj (U d4 6) (av 0))) (aq (bj (U d4 6) (av 1)))) (BV fi ct (aq (bj (U d4 6) (av 2))) (BV ui ct (aq (bj (U d4 6) (av 0))) (aq (bj (U d4 6) (av 1))))))))) 1 (bj (U d4 6) (av 0))) 2 (bj (U d4 6) (av 1))) 3 (bj (U d4 6) (av 2))) 4 (bc (ar ct (aq (bj (U d4 6) (av 3))+ar ct (ar ct (ar ct (ar ct (aq (bj (U d4 6) (av 7))+aq (U d5 0))+BV dz ct (aq (bj (U d4 6) (av 6))) (BV fi ct (aq (bj (U d4 6) (av 4))) (BV dz ct (aq (bj (U d4 6) (av 5))) (aq (bj (U d4 6) (av 6))))))+aq (U d4 0))+aq (bj (U d4 5) (av (aq (U d4 1))))))))) 5 (bj (U d4 6) (av 4))) 6 (bj (U d4 6) (av 5))) 7 (bj (U d4 6) (av 6))] [])))else none)))) (fun k4=>(bif decide (16<=aq (U d3 1))then(if 0<=bn (aq (U d3 1)) 16/\bn (aq (U d3 1)) 16<16 then(if 0<=bn (ar ba (aq (U d3 1)+1)) 16/\bn (ar ba (aq (U d3 1)+1)) 16<16 then(Hu N (bj (U d3 3) (av (bn (ar ba (aq (U d3 1)+1)) 16))) (bc 7) (bc 18) (bc 3) (de true) (fun d4 m4=>(if 0<=bn (ar ba (aq (U d3 1)+9)) 16/\bn (ar ba (aq (U d3 1)+9)) 16<16 then(if 0<=bn (ar ba (aq (U d3 1)+14)) 16/\bn (ar ba (aq (U d3 1)+14)) 16<16 then(Hu N (bj (U d3 3) (av (bn (ar ba (aq (U d3 1)+14)) 16))) (bc 17) (bc 19) (bc 10) (de true) (fun d5 m5=>(if 0<=bn (aq (U d3 1)) 16/\bn (aq (U d3 1)) 16<16 then(k4 [bj (U d3 0) (av (aq (U d3 1))),bc (bn (aq (U d3 1)) 16),U d3 0,U d3 1,U d3 2,cn (U d3 3) (av (bn (aq (U d3 1)) 16)) (bc (ar ct (aq (bj (U d3 3) (av (bn (aq (U d3 1)) 16)))+ar ct (ar ct (aq (U d4 0)+aq (bj (U d3 3) (av (bn (ar ba (aq (U d3 1)+9)) 16))))+aq (U d5 0))))),U d3 4] [])else none)))else none)else none)))else none)else none)else(k4 [bj (U d3 0) (av (aq (U d3 1))),bc (bn (aq (U d3 1)) 16),U d3 0,U d3 1,U d3 2,U d3 3,U d3 4] []))))else none)else(k2 [U d3 2,U d3 4] []))
def Lf (k2:KD R):KD R->KD R:=fun k3 J m1=>(bif decide (aq (U J 0)<16)then(if 0<=ar ba (4*aq (U J 0))/\ar ba (4*aq (U J 0))<=64/\jc 64<=64 then(NM N (bw (eu (av (64-ar ba (4*aq (U J 0)))) (iy (av (ar ba (4*aq (U J 0)))) (ax (bj (U J 1) 1))))) (fun I m2=>(if 0<=aq (U J 0)/\aq (U J 0)<16 then(k3 [bc (ar ba (aq (U J 0)+1)),U J 1,cn (U J 2) (av (aq (U J 0))) (U I 0)] [])else none)))else none)else(k2 [U J 1,U J 2] []))
def Vg (b0:C) (k1:KD R):Option R:=jn (fun J m1=>(Pb N (fun I m2=>(jn (fun d3 m3=>(jn (fun d4 m4=>(k1 [U d4 0] [])) (fun k2=>(BR N (Le N k2) [bc 0,U d3 0,U d3 1] [])))) (fun k2=>(BR N (Ji N k2) [U I 0,bc 0,U J 0,U J 1,bj (U J 0) 0] [])))))) (fun k2=>(BR N (Lf N k2) [bc 0,b0,AI (ca 16 (bm ct))] []))
def PY:=lid "" (@Vg R N)
theorem aW {R N b0 k}:@PY R N b0 k=Vg N b0 k:=by unfold PY;rw[BQ]
def q4G:OvG R:=Cu q4F q4I (fun ds ms=>PY N (U ds 0)) fun ds ms K J m1=>K (V.tup []) [(dp (ch 1),dy (V.d DS (U J 0)))]
theorem q4H:okX 163 (@q4G R N):=Cv (BJ (q4U N) <| BJ (q4Q N) <| BJ (q4S N) <| BT) N [(163,[(12,[(46,7),(58,7)]),(15,[(91,7)]),(16,[(104,7)]),(4,[(22,8)])])] [(163,[([1,0,1],⟨[0,2],[],[.g (.l 1)],[],[],[]⟩),
  ([4,1,0,1],⟨[0,2],[(12,.d (.int .i64))],[.g (.l 1)],[],[],[]⟩),
  ([1,0,1,1,1],⟨[0,4],[],[.g (.l 1)],[],[],[]⟩),
  ([4,1,0,1,1,1],⟨[0,2,4,29],[(30,.d (.int .i64))],[.g (.l 1)],[],[],[]⟩),
  ([1,0,1,1,4,0,1,1,5,4,1,0,1,1,1],⟨[0,2,4,6,7,29,30],[],[.g (.l 1)],[],[],[]⟩),
  ([1,1,1,1,1],⟨[0],[],[.g (.l 1)],[],[],[]⟩),
  ([4,1,1,1,1,1],⟨[0,4],[(126,.d (.int .i64))],[.g (.l 1)],[],[],[]⟩),
  ([9],⟨[],[],[.g (.l 1)],[],[],[]⟩)])] (fun _ _ _=>aW)
def q4J:List Sh:=[.as (.ptr (.g (.l 1)) [] DS),.d (.slice 1 (.int .u8))]
def q4L:List (Key × OSh):=[(.l 1,.box (.d DS))]
def KM (k2:KD R):KD R->KD R:=fun k3 J m1=>(bif decide (0<(↑(au (ax (U J 0))):Int))then(if 0<=bn (aq (bj (U J 1) 2)) 64/\bn (aq (bj (U J 1) 2)) 64<=64/\jc 64<=64 then(if 0<av (64-bn (aq (bj (U J 1) 2)) 64)then(if 0<=(↑(min (au (ax (U J 0))) (av (64-bn (aq (bj (U J 1) 2)) 64))):Int)/\(↑(min (au (ax (U J 0))) (av (64-bn (aq (bj (U J 1) 2)) 64))):Int)<=(↑(au (ax (U J 0))):Int)/\(↑(au (ax (U J 0))):Int)<=(↑(au (ax (U J 0))):Int)then(jn (fun I m2=>(k3 [U I 0,U I 1] [])) (fun k4=>(bif decide (bn (aq (bj (cn (cn (U J 1) 1 (dc (Dk (ax (bj (U J 1) 1)) (av (bn (aq (bj (U J 1) 2)) 64)) (av (64-bn (aq (bj (U J 1) 2)) 64)) (ax (U J 0))))) 2 (bc (ar ay (aq (bj (cn (U J 1) 1 (dc (Dk (ax (bj (U J 1) 1)) (av (bn (aq (bj (U J 1) 2)) 64)) (av (64-bn (aq (bj (U J 1) 2)) 64)) (ax (U J 0))))) 2)+ar ay (↑(min (au (ax (U J 0))) (av (64-bn (aq (bj (U J 1) 2)) 64))):Int))))) 2)) 64=0)then(PY N (cn (cn (U J 1) 1 (dc (Dk (ax (bj (U J 1) 1)) (av (bn (aq (bj (U J 1) 2)) 64)) (av (64-bn (aq (bj (U J 1) 2)) 64)) (ax (U J 0))))) 2 (bc (ar ay (aq (bj (cn (U J 1) 1 (dc (Dk (ax (bj (U J 1) 1)) (av (bn (aq (bj (U J 1) 2)) 64)) (av (64-bn (aq (bj (U J 1) 2)) 64)) (ax (U J 0))))) 2)+ar ay (↑(min (au (ax (U J 0))) (av (64-bn (aq (bj (U J 1) 2)) 64))):Int))))) (fun I m2=>(k4 [bw (cut (ax (U J 0)) (↑(min (au (ax (U J 0))) (av (64-bn (aq (bj (U J 1) 2)) 64))):Int) (↑(au (ax (U J 0))):Int)),U I 0] [])))else(k4 [bw (cut (ax (U J 0)) (↑(min (au (ax (U J 0))) (av (64-bn (aq (bj (U J 1) 2)) 64))):Int) (↑(au (ax (U J 0))):Int)),cn (cn (U J 1) 1 (dc (Dk (ax (bj (U J 1) 1)) (av (bn (aq (bj (U J 1) 2)) 64)) (av (64-bn (aq (bj (U J 1) 2)) 64)) (ax (U J 0))))) 2 (bc (ar ay (aq (bj (cn (U J 1) 1 (dc (Dk (ax (bj (U J 1) 1)) (av (bn (aq (bj (U J 1) 2)) 64)) (av (64-bn (aq (bj (U J 1) 2)) 64)) (ax (U J 0))))) 2)+ar ay (↑(min (au (ax (U J 0))) (av (64-bn (aq (bj (U J 1) 2)) 64))):Int))))] []))))else none)else none)else none)else(k2 [U J 1] []))
def Vh (a0 b0:C) (k1:KD R):Option R:=jn (fun J m1=>(k1 [U J 0] [])) (fun k2=>(BR N (KM N k2) [a0,b0] []))
def Lg:=lid "" (@Vh R N)
theorem aX {R N a0 b0 k}:@Lg R N a0 b0 k=Vh N a0 b0 k:=by unfold Lg;rw[BQ]
def q4K:OvG R:=Cu q4J q4L (fun ds ms=>Lg N (U ds 0) (U ds 1)) fun ds ms K J m1=>K (V.tup []) [(dp (ch 1),dy (V.d DS (U J 0)))]
theorem sC:okX 150 (@q4K R N):=Cv (BJ (q4H N) <| BT) N [] [(150,[([],⟨[0],[],[.g (.l 1)],[],[],[]⟩),
  ([4],⟨[0],[(1,.d (.slice 1 (.int .u8)))],[.g (.l 1)],[],[],[]⟩),
  ([1,1,1,1,4,1,5,4],⟨[0,1],[],[.g (.l 1)],[],[],[]⟩),
  ([9],⟨[],[],[.g (.l 1)],[],[],[]⟩)])] (fun _ _ _=>aX)
def q4B:List Sh:=[.as (.ptr (.g (.l 1)) [] DS),.d (.slice 24 (.slice 1 (.int .u8)))]
def q4E:List (Key × OSh):=[(.l 1,.box (.d DS))]
def NJ (k2:KD R):KD R->KD R:=fun k3 J m1=>(bif decide (aq (U J 2)<aq (U J 1))then(if 0<=aq (U J 2)/\aq (U J 2)<(↑(au (ax (U J 0))):Int)then(Lg N (bt (ax (U J 0)) (av (aq (U J 2))) dj) (U J 3) (fun I m2=>(k3 [U J 0,U J 1,bc (ar ba (aq (U J 2)+1)),U I 0] [])))else none)else(k2 [U J 3] []))
def Vf (a0 b0:C) (k1:KD R):Option R:=jn (fun J m1=>(k1 [U J 0] [])) (fun k2=>(BR N (NJ N k2) [a0,bc (↑(au (ax a0)):Int),bc 0,b0] []))
def NK:=lid "" (@Vf R N)
theorem aV {R N a0 b0 k}:@NK R N a0 b0 k=Vf N a0 b0 k:=by unfold NK;rw[BQ]
def q4C:OvG R:=Cu q4B q4E (fun ds ms=>NK N (U ds 0) (U ds 1)) fun ds ms K J m1=>K (V.tup []) [(dp (ch 1),dy (V.d DS (U J 0)))]
theorem q4D:okX 134 (@q4C R N):=Cv (BJ (sC N) <| BT) N [] [(134,[([1,1],⟨[0],[],[.g (.l 1)],[],[],[]⟩),
  ([4,1,1],⟨[0,8,9],[(10,.d (.int .i64))],[.g (.l 1)],[],[],[]⟩),
  ([9],⟨[],[],[.g (.l 1)],[],[],[]⟩)])] (fun _ _ _=>aV)
def Vj {R:Type} (N:Nat) (a0:C) (k1:KD R):Option R:=k1 [bw [bc (ar cq (jv (aq a0) (2^min (av 24) 32))),bc (ar cq (jv (aq a0) (2^min (av 16) 32))),bc (ar cq (jv (aq a0) (2^min (av 8) 32))),bc (ar cq (aq a0))]] []
def KN:=lid "" (@Vj R N)
theorem aZ {R N a0 k}:@KN R N a0 k=Vj N a0 k:=by unfold KN;rw[BQ]
def q4O:OvG R:=Bq [.int .u32] (EK (KN N)) fun a K J m1=>K (V.ts 1 (bm cq) (ax (U J 0))) []
theorem sE:okX 135 (@q4O R N):=CV BT N [(135,[(1,[(14,4)])])] [(135,[([9],(Ct [(2,.sl 1 (.int .u8) 5002)]))])] (fun _ _=>aZ) fun a K=>(show _=jn (fun J m1=>(bif Nat.beq (au (ax (U J 0))) (au (ax (U J 0)))then
  (K (V.ts 1 (bm cq) (ax (U J 0))) [])
 else
  none)) _ by kernel_rfl).trans (congrArg (fun k=>jn k _) (funext fun _=>funext fun _=>by simp only[bh,cond_true]))
def q4x:List Sh:=[.as (.ptr (.g (.l 1)) [] DS)]
def q4A:List (Key × OSh):=[(.l 1,.box (.d DS))]
def Ld (k2:KD R):KD R->KD R:=fun k3 d5 m5=>(bif decide (aq (U d5 1)<8)then(if 0<=aq (U d5 1)/\aq (U d5 1)<8 then(if 0<=ar ba (4*aq (U d5 1))/\ar ba (4*aq (U d5 1))<=32/\jc 32<=32 then(KN N (bj (U d5 0) (av (aq (U d5 1)))) (fun d6 m6=>(if 0<av (32-ar ba (4*aq (U d5 1)))then(k3 [U d5 0,bc (ar ba (aq (U d5 1)+1)),U d5 2,U d5 3,dc (Dk (ax (U d5 4)) (av (ar ba (4*aq (U d5 1)))) (av (32-ar ba (4*aq (U d5 1)))) (ax (U d6 0)))] [])else none)))else none)else none)else(k2 [U d5 2,U d5 3,U d5 4] []))
def Ve (b0:C) (k1:KD R):Option R:=if 0<=ar ay (64-bn (ar ay (aq (bj b0 2)+8)) 64)/\ar ay (64-bn (ar ay (aq (bj b0 2)+8)) 64)<=ar ay (64-bn (ar ay (aq (bj b0 2)+8)) 64)/\ar ay (64-bn (ar ay (aq (bj b0 2)+8)) 64)<=9223372036854775807/\av (ar ay (64-bn (ar ay (aq (bj b0 2)+8)) 64))*1<=140737488355328 then(if jc 0<=0/\0<(↑(av (ar ay (64-bn (ar ay (aq (bj b0 2)+8)) 64))):Int)then(Lg N (bw (eu (av (ar ay (64-bn (ar ay (aq (bj b0 2)+8)) 64))) (iy 0 (List.set (bp (av (ar ay (64-bn (ar ay (aq (bj b0 2)+8)) 64))) (AI (bm cq))) 0 (bc 128))))) b0 (fun J m1=>(KN N (bc (ar ct (jv (ar ay (aq (bj b0 2)*8)) (2^min (av 32) 64)))) (fun I m2=>(KN N (bc (ar ct (ar ay (aq (bj b0 2)*8)))) (fun d3 m3=>(bif Nat.beq (au (ax (U I 0))) (au (ax (U I 0)))then(if(au (ax (U I 0))+au (ax (U d3 0)))*1<=140737488355328/\au (ax (U I 0))+au (ax (U d3 0))<=9223372036854775807 then(Lg N (bw (ax (U I 0)++ax (U d3 0))) (U J 0) (fun d4 m4=>(jn (fun d5 m5=>(k1 [U d5 2,U d5 0] [])) (fun k2=>(BR N (Ld N k2) [bj (U d4 0) 0,bc 0,b0,AI (ca 32 (bm cq)),AI (ca 32 (bm cq))] [])))))else none)else none)))))))else none)else none
def PX:=lid "" (@Ve R N)
theorem aU {R N b0 k}:@PX R N b0 k=Ve N b0 k:=by unfold PX;rw[BQ]
def q4y:OvG R:=Cu q4x q4A (fun ds ms=>PX N (U ds 0)) fun ds ms K J m1=>K (V.d (ca 32 (bm cq)) (U J 0)) [(dp (ch 1),dy (V.d DS (U J 1)))]
theorem q4z:okX 136 (@q4y R N):=Cv (BJ (sE N) <| BJ (sC N) <| BT) N [(136,[(7,[(27,100),(3,16)]),(8,[(3,16)])])] [(136,[([1,0,1,1,1,1,1,1,1,1,1],⟨[0,2,6],[],[.g (.l 1)],[],[],[]⟩),
  ([4,1,0,1,1,1,1,1,1,1,1,1],⟨[0,2,6,38],[(39,.d (.int .i64))],[.g (.l 1)],[],[],[]⟩),
  ([9],⟨[],[(2,.as (.ptr (.l 2) [] (.arr 32 (.int .u8))))],[.g (.l 1)],[(.l 2,.box (.d (.arr 32 (.int .u8))))],[],[]⟩)])] (fun _ _ _=>aU)
def NI (k2:KD R):KD R->KD R:=fun k3 d3 m3=>(bif decide (aq (U d3 2)<aq (U d3 1))then(if 0<=aq (U d3 2)/\aq (U d3 2)<(↑(au (ax (U d3 0))):Int)then(KN N (bc (ar ct (↑(au (ax (bt (ax (U d3 0)) (av (aq (U d3 2))) dj))):Int))) (fun d4 m4=>(NK N (bw [bw (ax (U d4 0)),bt (ax (U d3 0)) (av (aq (U d3 2))) dj]) (U d3 4) (fun d5 m5=>(k3 [U d3 0,U d3 1,bc (ar ba (aq (U d3 2)+1)),U d3 3,U d5 0] [])))))else none)else(k2 [U d3 3,U d3 4] []))
def Vc (a0 a1:C) (k1:KD R):Option R:=PZ N (fun J m1=>(NK N (bw [bw [a0,bc (ar cq (↑(au (ax a1)):Int))]]) (U J 0) (fun I m2=>(jn (fun d3 m3=>(PX N (U d3 1) (fun d4 m4=>(k1 [U d4 0] [])))) (fun k2=>(BR N (NI N k2) [a1,bc (↑(au (ax a1)):Int),bc 0,AI (ca 32 (bm cq)),U I 0] []))))))
def PV:=lid "" (@Vc R N)
theorem aQ {R N a0 a1 k}:@PV R N a0 a1 k=Vc N a0 a1 k:=by unfold PV;rw[BQ]
def q4t:OvG R:=Bq [.int .u8,.slice 24 (.slice 1 (.int .u8))] (FH (PV N)) (DM (ca 32 (bm cq)))
theorem q4u:okX 119 (@q4t R N):=CV (BJ (q4N N) <| BJ (q4D N) <| BJ (sE N) <| BJ (q4z N) <| BT) N [(119,[(2,[(5,16)]),(6,[(5,16)]),(8,[(5,16)])])] [(119,[([1,0,1,1,1],(Cz [4,5] [])),
  ([4,1,0,1,1,1],(Cz [4,5,17,18] [(19,.d (.int .i64))])),
  ([9],⟨[],[(4,.as (.ptr (.l 4) [] (.arr 32 (.int .u8))))],[],[(.l 4,.box (.d (.arr 32 (.int .u8))))],[],[]⟩)])] (fun _ _=>aQ)
section
variable {R:Type} {N:Nat}
theorem Lb {F:KD R->KD R->List C->List Es->Option R} (inv:Nat->List C->Prop) (P:List C->Prop)
  (step:∀n st,inv n st->(∃st' n',n'<n/\inv n' st'/\∀k rec:KD R,F k rec st []=rec st' [])\/(∃d,P d/\∀k rec:KD R,F k rec st []=k d [])):
  ∀(m n:Nat) (st:List C) (N:Nat),n<=m->inv n st->n<N->∃d,P d/\∀k:KD R,BR N (F k) st []=k d []
 |m,n,st,N,hm,hi,hN=>by
  obtain⟨N,rfl⟩:∃a,N=a+1:=⟨N-1,by omega⟩;rcases step n st hi with⟨st',n',h1,h2,h3⟩|⟨d,h1,h2⟩
  ·match m with
   |0=>omega|m+1=>
    obtain⟨d,h4,h5⟩:=Lb inv P step m n' st' N (by omega) h2 (by omega);exact⟨d,h4,fun k=>by rw[Dl,h3,h5]⟩
  ·exact⟨d,h1,fun k=>by rw[Dl,h2]⟩
theorem Ga {F:KD R->KD R->List C->List Es->Option R} (n:Nat) (inv:Nat->List C->Prop) (P:List C->Prop)
  (step:∀i st,i<n->inv i st->∃st',inv (i+1) st'/\∀k rec:KD R,F k rec st []=rec st' [])
  (stop:∀st,inv n st->∃d,P d/\∀k rec:KD R,F k rec st []=k d [])
  {N:Nat} (hN:n<N) {st:List C} (h0:inv 0 st):∃d,P d/\∀k:KD R,BR N (F k) st []=k d []:=by
 refine Lb (fun m st=>∃i,i+m=n/\inv i st) P (fun m st hi=>?_) n n st N (bx n) ⟨0,by omega,h0⟩ hN;obtain⟨i,h1,h2⟩:=hi;by_cases e:i=n;{subst e;exact .inr (stop st h2)};{obtain⟨st',h3,h4⟩:=step i st (by omega) h2;exact .inl ⟨st',m-1,by omega,⟨i+1,by omega,h3⟩,h4⟩}
theorem gR (x:Int):0<=IntKind.u64.wrap x/\IntKind.u64.wrap x<18446744073709551616:=by
 have:IntKind.u64.wrap x=x%18446744073709551616:=by simp[ar,ny,lr]
 omega
theorem eC (x:C) (k:Int):∃n:Int,∀k':KD R,Lc N x (.int k) k'=k' [.int n] []:=
 ⟨_,fun k'=>by
  rw[aO];unfold Va;rw[if_pos (gR _).1]⟩
theorem XG (x:C) (a b c:Int) (f:Bool) (hc:0<=c):∃n:Int,∀k:KD R,Hu N x (.int a) (.int b) (.int c) (.bool f) k=k [.int n] []:=by
 obtain⟨n1,h1⟩:=eC (R:=R) (N:=N) x (ar ba (0-c));obtain⟨n2,h2⟩:=eC (R:=R) (N:=N) x (ar ba (0-a));obtain⟨n3,h3⟩:=eC (R:=R) (N:=N) x (ar ba (0-b));cases f
 ·refine⟨?v1,fun k=>?eq1⟩
  case eq1=>
   rw[Vl];unfold SH;simp only[AR,AF,AH,AJ,AL,AG,AX,h1,h2,h3,cond_false,AB];rfl
 ·refine⟨?v2,fun k=>?eq2⟩
  case eq2=>
   rw[Vl];unfold SH;simp only[AR,AF,AH,AJ,AL,AG,AX,h1,h2,h3,cond_true,if_pos hc,AB];rfl
theorem z0x (l:List C) (hl:4<=l.length) (hN:10<N):∃n:Int,∀k:KD R,NM N (.slice l) k=k [.int n] []:=by
 have hc:(cut l 0 4).length=4:=by simp[cut];omega
 have key:=Ga (R:=R) (F:=fun k2=>NL N k2) 4 (fun i st=>∃x:Int,st=[.slice (cut l 0 4),.int 4,.int x,.int i]) (fun d=>∃n:Int,d=[.int n]) ?_ ?_ (N:=N) (by omega) (st:=[.slice (cut l 0 4),.int 4,.int 0,.int (0:Nat)]) ⟨0,rfl⟩
 ·obtain⟨d,⟨n,rfl⟩,h⟩:=key;refine⟨n,fun k=>?_⟩;rw[bB];unfold Vm;have h4:(4:Int)<=(l.length:Int):=by omega
  simp only[AO,hc,h4,AR,AB];rw[if_pos ⟨by decide,by decide,trivial⟩];exact h _
 ·rintro i st hi ⟨x,rfl⟩;refine⟨_,⟨?x3,rfl⟩,fun k rec=>?eq3⟩
  case eq3=>
   have h1:(i:Int)<4:=by omega
   have h2:(i:Int)<((4:Nat):Int):=by omega
   unfold NL;simp only[AF,AH,AJ,AL,AG,AO,hc,h1,h2,AE,bz,and_self,Bp (show i<4611686018427387904 by omega),AB];rfl
 ·rintro st ⟨x,rfl⟩;refine⟨_,⟨x,rfl⟩,fun k rec=>?_⟩;unfold NL;have h:¬((4:Nat):Int)<4:=by decide
  simp only[AF,AH,AJ,AL,AG,h,AE,AB]
theorem JJ (x m:Int) (hx:0<=x) (hm:0<m):0<=bn x m/\bn x m<m:=⟨Int.tmod_nonneg _ hx,Int.tmod_lt_of_pos _ hm⟩
theorem q2t (s n:C) (w:List C) (hw:w.length=64) (hN:100<N):∃s',∀k:KD R,PY N (.agg [s,.agg w,n]) k=k [.agg [s',.agg w,n]] []:=by
 obtain⟨J,⟨x1,rfl⟩,h1⟩:=Ga (R:=R) (F:=fun k2=>Lf N k2) 16 (fun i st=>∃x:C,st=[.int i,.agg [s,.agg w,n],x]) (fun d=>∃x:C,d=[.agg [s,.agg w,n],x])
  (fun i st hi hst=>by
   obtain⟨x,rfl⟩:=hst;have e1:(i:Int)<16:=by omega
   have e2:IntKind.i64.wrap (4*(i:Int))=4*i:=wrap_i64 (by omega) (by omega);have c1:0<=4*(i:Int)/\4*(i:Int)<=64/\jc 64<=64:=⟨by omega,by omega,by decide⟩;obtain⟨v,hv⟩:=z0x (R:=R) (N:=N) (eu (64-4*(i:Int)).toNat (iy (4*(i:Int)).toNat w)) (by simp;omega) (by omega);refine⟨_,⟨?x4,rfl⟩,fun k rec=>?eq4⟩
   case eq4=>
    unfold Lf;simp only[AF,AH,AJ,AG,e1,e2,AE,bz,and_self,LP,Ab,hv,c1,Bp (show i<4611686018427387904 by omega),AB];rfl)
  (fun st hst=>by
   obtain⟨x,rfl⟩:=hst;refine⟨_,⟨x,rfl⟩,fun k rec=>?_⟩;unfold Lf;have h:¬((16:Nat):Int)<16:=by decide
   simp only[AF,AH,AJ,AG,h,AE,AB])
  (N:=N) (by omega) (st:=[.int (0:Nat),.agg [s,.agg w,n],AI (.arr 16 (.int .u32))]) ⟨_,rfl⟩
 obtain⟨st0,y0J⟩:∃x:C,∀k:KD R,Pb N k=k [x] []:=⟨_,fun k=>by rw[bA];unfold Vk;rfl⟩
 obtain⟨I,⟨x2,rfl⟩,h2⟩:=Ga (R:=R) (F:=fun k2=>Ji N k2) 64 (fun i st=>∃x y:C,st=[st0,.int i,.agg [s,.agg w,n],x,y]) (fun d=>∃y:C,d=[.agg [s,.agg w,n],y])
  (fun i st hi hst=>by
   obtain⟨x,y,rfl⟩:=hst;have e1:(i:Int)<64:=by omega
   have r0:=JJ (i:Int) 16 (by omega) (by omega);have q1:IntKind.i64.wrap ((i:Int)+1)=i+1:=wrap_i64 (by omega) (by omega);have q9:IntKind.i64.wrap ((i:Int)+9)=i+9:=wrap_i64 (by omega) (by omega);have q14:IntKind.i64.wrap ((i:Int)+14)=i+14:=wrap_i64 (by omega) (by omega);have r1:=JJ ((i:Int)+1) 16 (by omega) (by omega);have r9:=JJ ((i:Int)+9) 16 (by omega) (by omega);have r14:=JJ ((i:Int)+14) 16 (by omega) (by omega);obtain⟨a1,ha1⟩:=XG (R:=R) (N:=N) (bj y (av 4)) 6 11 25 false (by omega);obtain⟨a2,ha2⟩:=XG (R:=R) (N:=N) (bj y (av 0)) 2 13 22 false (by omega);obtain⟨a3,ha3⟩:=XG (R:=R) (N:=N) (bj x (av (bn ((i:Int)+1) 16))) 7 18 3 true (by omega);obtain⟨a4,ha4⟩:=XG (R:=R) (N:=N) (bj x (av (bn ((i:Int)+14) 16))) 17 19 10 true (by omega);have e5:((i+1:Nat):Int)=(i:Int)+1:=by omega
   by_cases e2:16<=(i:Int)
   ·refine⟨_,⟨?x5,?y5,rfl⟩,fun k rec=>?eq5⟩
    case eq5=>
     unfold Ji;simp only[AR,AF,AH,AJ,AL,AQ,Aa,Ac,AG,e1,e2,q1,q9,q14,r0,r1,r9,r14,AE,bz,and_self,ha1,ha2,ha3,ha4,e5,AB];rfl
   ·refine⟨_,⟨?x6,?y6,rfl⟩,fun k rec=>?eq6⟩
    case eq6=>
     unfold Ji;simp only[AR,AF,AH,AJ,AL,AQ,Aa,Ac,AG,e1,e2,q1,r0,AE,bz,and_self,ha1,ha2,e5,AB];rfl)
  (fun st hst=>by
   obtain⟨x,y,rfl⟩:=hst;refine⟨_,⟨y,rfl⟩,fun k rec=>?_⟩;unfold Ji;have h:¬((64:Nat):Int)<64:=by decide
   simp only[AF,AH,AJ,AL,AQ,AG,h,AE,AB])
  (N:=N) (by omega) (st:=[st0,.int (0:Nat),.agg [s,.agg w,n],x1,s]) ⟨_,_,rfl⟩
 obtain⟨d3,⟨x3,rfl⟩,h3⟩:=Ga (R:=R) (F:=fun k2=>Le N k2) 8 (fun i st=>∃x:C,st=[.int i,.agg [x,.agg w,n],x2]) (fun d=>∃x:C,d=[.agg [x,.agg w,n]])
  (fun i st hi hst=>by
   obtain⟨x,rfl⟩:=hst;have e1:(i:Int)<8:=by omega
   refine⟨_,⟨?x7,rfl⟩,fun k rec=>?eq7⟩
   case eq7=>
    unfold Le;simp only[AF,AH,AJ,AG,e1,AE,bz,and_self,IZ,Bp (show i<4611686018427387904 by omega),AB];rfl)
  (fun st hst=>by
   obtain⟨x,rfl⟩:=hst;refine⟨_,⟨x,rfl⟩,fun k rec=>?_⟩;unfold Le;have h:¬((8:Nat):Int)<8:=by decide
   simp only[AF,AH,AJ,AG,h,AE,AB])
  (N:=N) (by omega) (st:=[.int (0:Nat),.agg [s,.agg w,n],x2]) ⟨_,rfl⟩
 refine⟨x3,fun k=>?_⟩;rw[aW];unfold Vg;simp only[AR,AB];refine(h1 _).trans ?_;simp only[y0J,AF,AH,Iu];refine(h2 _).trans ?_;simp only[AF,AH];exact(h3 _).trans rfl
def IA (m:C):Prop:=∃(s:C) (w:List C) (n:Int),m= .agg [s,.agg w,.int n]/\w.length=64/\W64 n
theorem cK (l:List C) (m:C) (hm:IA m) (hN:l.length+100<N):∃m',IA m'/\∀k:KD R,Lg N (.slice l) m k=k [m'] []:=by
 obtain⟨d,⟨m',h1,rfl⟩,h⟩:=Lb (R:=R) (F:=fun k2=>KM N k2) (fun n st=>∃(l:List C) (m:C),st=[.slice l,m]/\IA m/\l.length<=n) (fun d=>∃m',IA m'/\d=[m'])
  (fun n st hst=>by
   obtain⟨l,m,rfl,⟨s,w,a,rfl,hw,ha⟩,hl⟩:=hst;by_cases e:0<(l.length:Int)
   ·left;have r:=JJ a 64 ha.1 (by omega);generalize hq:bn a 64=q at*;have cw:(Dk w q.toNat (64-q).toNat l).length=64:=by rw[UM (by omega)];exact hw
    have c1:0<(64-q).toNat:=by omega
    generalize hp:min l.length (64-q).toNat=p at*;have c2:0<=(p:Int)/\(p:Int)<=(l.length:Int)/\(l.length:Int)<=(l.length:Int):=by omega
    have c3:0<=q/\q<=64/\jc 64<=64:=⟨r.1,by omega,by decide⟩;obtain⟨s',hs'⟩:=q2t (R:=R) (N:=N) s (.int (IntKind.u64.wrap (a+IntKind.u64.wrap (p:Int)))) _ cw (by omega);have wn:=gR (a+IntKind.u64.wrap (p:Int));have cl:(cut l (p:Int) (l.length:Int)).length<l.length:=by simp[cut];omega
    by_cases z:bn (IntKind.u64.wrap (a+IntKind.u64.wrap (p:Int))) 64=0
    ·refine⟨_,(cut l (p:Int) (l.length:Int)).length,by omega,⟨cut l (p:Int) (l.length:Int),_,rfl,⟨?s8,_,_,rfl,cw,wn⟩,bx _⟩,fun k rec=>?eq8⟩
     case eq8=>
      unfold KM;simp only[AR,AF,AH,AG,AO,Ab,Iu,LP,Mn,IZ,Kf,Kg,e,hq,hp,c1,c2,c3,z,AE,and_self,hs',AB];rfl
    ·refine⟨_,(cut l (p:Int) (l.length:Int)).length,by omega,⟨cut l (p:Int) (l.length:Int),_,rfl,⟨?s9,_,_,rfl,cw,wn⟩,bx _⟩,fun k rec=>?eq9⟩
     case eq9=>
      unfold KM;simp only[AR,AF,AH,AG,AO,Ab,Iu,LP,Mn,IZ,Kf,Kg,e,hq,hp,c1,c2,c3,z,AE,and_self,AB];rfl
   ·right;refine⟨_,⟨_,⟨s,w,a,rfl,hw,ha⟩,rfl⟩,fun k rec=>?_⟩;unfold KM;simp only[AF,AH,AO,e,AE])
  l.length l.length [.slice l,m] N (bx _) ⟨l,m,rfl,hm,bx _⟩ (by omega)
 refine⟨m',h1,fun k=>?_⟩;rw[aX];unfold Vh;simp only[AR,AB];exact(h _).trans rfl
theorem v5 (l:List C) (m:C) (hm:IA m) (B:Nat) (hb:∀x∈l,∃y:List C,x= .slice y/\y.length<=B) (hl:l.length<N) (hN:B+100<N) (hN2:N<4611686018427387904):∃m',IA m'/\∀k:KD R,NK N (.slice l) m k=k [m'] []:=by
 obtain⟨d,⟨m',h1,rfl⟩,h⟩:=Ga (R:=R) (F:=fun k2=>NJ N k2) l.length (fun i st=>∃m:C,IA m/\st=[.slice l,.int l.length,.int i,m]) (fun d=>∃m',IA m'/\d=[m'])
  (fun i st hi hst=>by
   obtain⟨m,hm,rfl⟩:=hst;have e1:(i:Int)<(l.length:Int):=by omega
   obtain⟨y,hy,hyl⟩:=hb _ (Eb hi);obtain⟨m2,h2,h3⟩:=cK (R:=R) (N:=N) y m hm (by omega);refine⟨_,⟨m2,h2,rfl⟩,fun k rec=>?_⟩;unfold NJ;simp only[AF,AH,AJ,AL,AG,AO,e1,AE,bz,and_self,bb,hy,h3,Bp (show i<4611686018427387904 by omega),AB])
  (fun st hst=>by
   obtain⟨m,hm,rfl⟩:=hst;refine⟨_,⟨m,hm,rfl⟩,fun k rec=>?_⟩;unfold NJ;simp only[AF,AH,AJ,AL,AG,eg,AE,AB])
  (N:=N) (by omega) (st:=[.slice l,.int l.length,.int (0:Nat),m]) ⟨m,hm,rfl⟩
 refine⟨m',h1,fun k=>?_⟩;rw[aV];unfold Vf;simp only[AR,AO,AB];exact(h _).trans rfl
def Dig (c:C):Prop:=∃l:List C,c= .agg l/\l.length=32
theorem Uu (n:C):∃x:List C,x.length=4/\∀k:KD R,KN N n k=k [.slice x] []:=
 ⟨[bc (ar cq (jv (aq n) (2^min (av 24) 32))),bc (ar cq (jv (aq n) (2^min (av 16) 32))),bc (ar cq (jv (aq n) (2^min (av 8) 32))),bc (ar cq (aq n))],rfl,fun k=>by rw[aZ];unfold Vj;rfl⟩
theorem q9o (m:C) (hm:IA m) (hN:1000<N):∃c,Dig c/\∀k:KD R,PX N m k=k [c,m] []:=by
 obtain⟨s,w,a,rfl,hw,ha⟩:=hm;have r:=JJ (IntKind.u64.wrap (a+8)) 64 (gR _).1 (by omega);generalize hq:bn (IntKind.u64.wrap (a+8)) 64=q at r;have e1:IntKind.u64.wrap (64-q)=64-q:=wrap_u64 (by omega) (by omega);obtain⟨m1,hm1,h1⟩:=cK (R:=R) (N:=N) (eu (64-q).toNat (iy 0 (List.set (bp (64-q).toNat (AI (bm cq))) 0 (bc 128)))) (.agg [s,.agg w,.int a]) ⟨s,w,a,rfl,hw,ha⟩ (by simp;omega);obtain⟨f1,hf1,g1⟩:=Uu (R:=R) (N:=N) (bc (ar ct (jv (ar ay (a*8)) (2^min (av 32) 64))));obtain⟨f2,hf2,g2⟩:=Uu (R:=R) (N:=N) (bc (ar ct (ar ay (a*8))));obtain⟨m2,hm2,h2⟩:=cK (R:=R) (N:=N) (f1++f2) m1 hm1 (by simp;omega)
 obtain⟨d,⟨z,hz,rfl⟩,h3⟩:=Ga (R:=R) (F:=fun k2=>Ld N k2) 8 (fun i st=>∃z:C,Dig z/\st=[m2.get 0,.int i,.agg [s,.agg w,.int a],AI (.arr 32 (.int .u8)),z]) (fun d=>∃z,Dig z/\d=[.agg [s,.agg w,.int a],AI (.arr 32 (.int .u8)),z])
  (fun i st hi hst=>by
   obtain⟨z,⟨zl,rfl,hzl⟩,rfl⟩:=hst;have e1:(i:Int)<8:=by omega
   have e2:IntKind.i64.wrap (4*(i:Int))=4*i:=wrap_i64 (by omega) (by omega);obtain⟨f,hf,g⟩:=Uu (R:=R) (N:=N) (bj (m2.get 0) i);have c1:0<(32-4*(i:Int)).toNat:=by omega
   refine⟨_,⟨_,⟨_,rfl,by rw[UM (cs:=zl) (lo:=(4*(i:Int)).toNat) (n:=(32-4*(i:Int)).toNat) (ys:=f) (by omega)];exact hzl⟩,rfl⟩,fun k rec=>?_⟩;unfold Ld;have c2:0<=4*(i:Int)/\4*(i:Int)<=32/\jc 32<=32:=⟨by omega,by omega,by decide⟩;simp only[AF,AH,AJ,AL,AQ,AG,AO,Ab,e1,e2,c1,c2,AE,bz,and_self,bb,g,Bp (show i<4611686018427387904 by omega),AB])
  (fun st hst=>by
   obtain⟨z,hz,rfl⟩:=hst;refine⟨_,⟨z,hz,rfl⟩,fun k rec=>?_⟩;unfold Ld;have h:¬((8:Nat):Int)<8:=by decide
   simp only[AF,AH,AJ,AL,AQ,AG,h,AE,AB])
  (N:=N) (by omega) (st:=[m2.get 0,.int (0:Nat),.agg [s,.agg w,.int a],AI (.arr 32 (.int .u8)),AI (.arr 32 (.int .u8))]) ⟨_,⟨_,rfl,by decide⟩,rfl⟩
 refine⟨z,hz,fun k=>?_⟩;rw[aU];unfold Ve;simp only[Mn,AG,hq,e1,AB];rw[if_pos (by omega),if_pos (by constructor <;> simp <;> omega),h1];simp only[AF,g1,g2,AO,bh,cond_true,hf1,hf2];rw[if_pos (by omega),h2];simp only[AR,AF,AB];exact(h3 _).trans rfl
theorem o5 (a0:C) (l:List C) (B:Nat) (hb:∀x∈l,∃y:List C,x= .slice y/\y.length<=B) (hl:l.length+1000<N) (hN:B+1000<N) (hN2:N<4611686018427387904):∃c,Dig c/\∀k:KD R,PV N a0 (.slice l) k=k [c] []:=by
 obtain⟨m0,hm0,h0⟩:∃m,IA m/\∀k:KD R,PZ N k=k [m] []:=⟨_,⟨_,bp 64 (.int 0),0,by rfl,by simp,by unfold W64;omega⟩,fun k=>by rw[aY];unfold Vi;rfl⟩;obtain⟨m1,hm1,h1⟩:=v5 (R:=R) (N:=N) [bw [a0,bc (ar cq (l.length:Int))]] m0 hm0 10 (fun x hx=>⟨_,fj.1 hx,by simp⟩) (by simp;omega) (by omega) hN2
 obtain⟨d,⟨m2,hm2,rfl⟩,h2⟩:=Ga (R:=R) (F:=fun k2=>NI N k2) l.length (fun i st=>∃m:C,IA m/\st=[.slice l,.int l.length,.int i,AI (.arr 32 (.int .u8)),m]) (fun d=>∃m',IA m'/\d=[AI (.arr 32 (.int .u8)),m'])
  (fun i st hi hst=>by
   obtain⟨m,hm,rfl⟩:=hst;have e1:(i:Int)<(l.length:Int):=by omega
   obtain⟨y,hy,hyl⟩:=hb _ (Eb hi);obtain⟨f,hf,g⟩:=Uu (R:=R) (N:=N) (bc (ar ct (y.length:Int)))
   obtain⟨m2,h2,h3⟩:=v5 (R:=R) (N:=N) [bw f,bw y] m hm (B+4) (fun x hx=>by
    simp only[List.mem_cons,List.not_mem_nil,or_false]at hx;rcases hx with rfl|rfl;{exact⟨_,rfl,by omega⟩}
    ·exact⟨_,rfl,by omega⟩) (by simp;omega) (by omega) hN2
   refine⟨_,⟨m2,h2,rfl⟩,fun k rec=>?_⟩;unfold NI;simp only[AF,AH,AJ,AL,AQ,AG,AO,e1,AE,bz,and_self,bb,hy,g,h3,Bp (show i<4611686018427387904 by omega),AB])
  (fun st hst=>by
   obtain⟨m,hm,rfl⟩:=hst;refine⟨_,⟨m,hm,rfl⟩,fun k rec=>?_⟩;unfold NI;simp only[AF,AH,AJ,AL,AQ,AG,eg,AE,AB])
  (N:=N) (by omega) (st:=[.slice l,.int l.length,.int (0:Nat),AI (.arr 32 (.int .u8)),m1]) ⟨m1,hm1,rfl⟩
 obtain⟨c,hc,h3⟩:=q9o (R:=R) (N:=N) m2 hm2 (by omega);refine⟨c,hc,fun k=>?_⟩;rw[aQ];unfold Vc;simp only[h0,AF,AO,h1,AR,AB];refine(h2 _).trans ?_;simp only[AH,h3,AF]
end
def uJ {R:Type} (N:Nat) (a0:C) (k1:KD R):Option R:=k1 [dc [a0,AI (bm ay),AI (ca 2 (bm ay)),AI (ca 2 (bm ay)),bw []]] []
def SX:=lid "" (@uJ R N)
theorem uK {R N a0 k}:@SX R N a0 k=uJ N a0 k:=by unfold SX;rw[BQ]
def q50:OvG R:=Bq [.int .u32] (EK (SX N)) (DM Bo)
theorem q51:okX 121 (@q50 R N):=CV BT N [] [(121,[([9],⟨[],[(2,.as (.ptr (.l 2) [] Bo))],[],[(.l 2,.box (.d Bo))],[],[]⟩)])] (fun _ _=>uK)
def Xt (a0 a1 a2 a3:C) (k1:KD R):Option R:=jn (fun J m1=>(bif dg (U J 4)then(k1 [bc 1,Dy] [])else(bif !decide (Dj (ax (U J 1))=0)then(k1 [bc (Dj (ax (U J 1))),Dy] [])else(SX N (U J 0) (fun I m2=>(bif Nat.beq (au (ax (U J 1))) (au (ax (U J 1)))&&true then(k1 [bc 0,dc [U J 0,U J 2,U J 3,bw (ax (U J 1)),AI (ca 2 (bm ay)),AI (ca 2 (bm ay)),AI (bm ba),AI (bm ay),U I 0]] [])else none)))))) (fun k2=>(bif decide (aq (bj a1 (av 0))=aq (bj a1 (av 1)))then(k2 [a0,a3,a1,a2,de true,Dy] [])else(bif decide (aq (bj a2 1)<0)then(k2 [a0,a3,a1,a2,de true,Dy] [])else(k2 [a0,a3,a1,a2,de (decide (8<aq (bj a2 1))),Dy] []))))
def OQ:=lid "" (@Xt R N)
theorem jG {R N a0 a1 a2 a3 k}:@OQ R N a0 a1 a2 a3 k=Xt N a0 a1 a2 a3 k:=by unfold OQ;rw[BQ]
def Y2:OvG R:=Bq [.int .u32,.arr 2 (.int .i64),Di,.slice 1 (.int .u8)] (fun a=>OQ N (a 0) (a 1) (a 2) (a 3)) fun a K J m1=>K (V.tup [V.d AV (U J 1),V.d (bm ba) (U J 0)]) []
theorem Y3:okX 105 (@Y2 R N):=CV (BJ (YD N) <| BJ (H8 N) <| BJ (q51 N) <| BT) N [(105,[(0,[(5,5),(6,5)]),(6,[(39,7)])])] [(105,[([0,0,1],(Cz [0,3,5,6,8] [(25,.d .bool)])),
  ([9],⟨[],[(8,.as (.ptr (.l 8) [] AV)),(9,.d (.int .i64))],[],[(.l 8,.box (.d AV))],[],[]⟩)])] (fun _ _=>jG)
def Vd (a0:C) (k1:KD R):Option R:=PV N (bc 6) (bw [bw (cut (ax a0) 0 32)]) (fun J m1=>(k1 [U J 0] []))
def PW:=lid "" (@Vd R N)
theorem aR {R N a0 k}:@PW R N a0 k=Vd N a0 k:=by unfold PW;rw[BQ]
def q4v:OvG R:=Bq [.arr 32 (.int .u8)] (EK (PW N)) (DM (ca 32 (bm cq)))
theorem q4w:okX 104 (@q4v R N):=CV (BJ (q4u N) <| BT) N [(104,[(0,[(1,5)])])] [(104,[([9],⟨[],[(2,.as (.ptr (.l 2) [] (.arr 32 (.int .u8))))],[],[(.l 2,.box (.d (.arr 32 (.int .u8))))],[],[]⟩)])] (fun _ _=>aR)
def Wz {R:Type} (N:Nat) (k1:KD R) (k2:KD R):KD R->KD R:=fun k3 J m1=>(bif decide (aq (U J 3)<aq (U J 2))then(if 0<=aq (U J 3)/\aq (U J 3)<(↑(au (ax (U J 0))):Int)then(bif decide (aq (U J 1)=aq (bt (ax (U J 0)) (av (aq (U J 3))) dj))then(k1 [U J 3] [])else(k3 [U J 0,U J 1,U J 2,bc (ar ba (aq (U J 3)+1))] []))else none)else(k2 [] []))
def fA (a0 a1:C) (k1:KD R):Option R:=jn (fun J m1=>(k1 [bc (-1)] [])) (fun k2=>(BR N (Wz N k1 k2) [a0,a1,bc (↑(au (ax a0)):Int),bc 0] []))
def TP:=lid "" (@fA R N)
theorem yN {R N a0 a1 k}:@TP R N a0 a1 k=fA N a0 a1 k:=by unfold TP;rw[BQ]
def q83:OvG R:=Bq [.slice 8 (.int .i64),.int .i64] (FH (TP N)) (DM (bm ba))
theorem q84:okX 68 (@q83 R N):=CV BT N [] [(68,[([1,0,1],(Ct [])),
  ([4,1,0,1],(Cz [0,1,7] [(8,.d (.int .i64))])),
  ([9],(Ct [(4,.d (.int .i64))]))])] (fun _ _=>yN)
def q5w:List Sh:=[.as (.ptr (.g (.l 1)) [] Bz),.d (.arr 32 (.int .u8)),.d (.int .u64)]
def q5z:List (Key × OSh):=[(.l 1,.box (.agg Bz [.as (.mp (.g (.l 2)))])),(.l 2,.map (.arr 32 (.int .u8)) AP)]
def SQ (a0 a1 a2 b0:C) (m0:Es) (k1:KD R):Option R:=PW N a0 (fun J m1=>(bif EJ AP (dE AP m0)then(bif Iv (dE AP m0) (U J 0)then(gM AP m0 (k1 [bc 7] [unE (dE AP m0)]))else(if HL AP (Ge (dE AP (dm [m0] 0)) (U J 0) (V.d AP (cn (cn (dc [dc (bp 32 (bc 0)),bc 0]) 0 a0) 1 a1)))=true then(k1 [bc 0] [unE (Ge (dE AP (dm [m0] 0)) (U J 0) (V.d AP (cn (cn (dc [dc (bp 32 (bc 0)),bc 0]) 0 a0) 1 a1)))])else none))else none))
def NR:=lid "" (@SQ R N)
theorem Vu {R N a0 a1 a2 b0 m0 k}:@NR R N a0 a1 a2 b0 m0 k=SQ N a0 a1 a2 b0 m0 k:=by unfold NR;rw[BQ]
def q5x:OvG R:=Cu q5w q5z (fun ds ms=>NR N (U ds 0) (U ds 1) (U ds 2) (U ds 3) (dm ms 0)) fun ds ms K J m1=>K (V.d (bm ba) (U J 0)) [(dp (ch 1),dy (V.agg Bz [V.mp (dp (ch 2))])),
 (dp (ch 2),O.map (ca 32 (bm cq)) AP (dE AP (dm m1 0)))]
theorem q5y:okX 87 (@q5x R N):=Cv (BJ (q4w N) <| BT) N [(87,[(0,[(4,5)]),(4,[(7,6)]),(7,[(7,6)])])] [(87,[([9],⟨[],[(6,.d (.int .i64))],[.g (.l 1),.g (.l 2)],[],[],[]⟩)])] (fun _ _ _=>Vu)
section
variable {R:Type} {N:Nat}
structure StE (s:C):Prop where
 eta:SOk s
structure StG (s:C):Prop where
 e:StE s
def Tj (_:C):Prop:=True
def Nx (d:C):Prop:=∃s x y:C,d= .agg [s,.agg [x,y]]/\StG s
def stZ (id:Int):C:=.agg [.int id,.int 0,zz,zz,.slice []]
theorem q9c (id:Int):SOk (stZ id):=rfl
theorem q5Z (a:Int) (k:KD R):SX N (.int a) k=k [stZ a] []:=by rw[uK];rfl
theorem q5h (id:Int) (hid:W64 id) (who rts:C) (yk:List C) (hr:C.wf (.slice 1 (.int .u8)) (.slice yk)):
  ∃(e:Int) (b:C),(∀k:KD R,OQ N (.int id) who rts (.slice yk) k=k [.int e,b] [])/\(e=0->b=mkB (.int id) who rts yk zz zz (.int 0) (.int 0) (stZ id)/\Tj b/\(rts.get 1).toInt<=8)/\
   ((who.get 0).toInt≠(who.get 1).toInt->0<=(rts.get 1).toInt->(rts.get 1).toInt<=8->Dj yk=0->e=0):=by
 have main:∀k:KD R,OQ N (.int id) who rts (.slice yk) k=if(who.get 0).toInt=(who.get 1).toInt then k [.int 1,zB] []else if(rts.get 1).toInt<0 then k [.int 1,zB] []else if 8<(rts.get 1).toInt then k [.int 1,zB] []else
   if Dj yk=0 then k [.int 0,mkB (.int id) who rts yk zz zz (.int 0) (.int 0) (stZ id)] []else k [.int (Dj yk),zB] []:=fun k=>by
  have t0:av 0=0:=rfl;have t1:av 1=1:=rfl;rw[jG];unfold Xt;rw[XX];simp only[AR,t0,t1,AB];by_cases h1:(who.get 0).toInt=(who.get 1).toInt;{simp only[h1,AE,AQ,AX,AB]};by_cases h2:(rts.get 1).toInt<0;{simp only[h1,h2,AE,AQ,AX,AB]};by_cases h3:8<(rts.get 1).toInt;{simp only[h1,h2,h3,AE,AQ,AX,AB]};by_cases h4:Dj yk=0;{simp only[h1,h2,h3,h4,AE,AF,AH,AJ,AL,AQ,AX,AO,q5Z,bh,Bool.true_and,AB];rfl};{simp only[h1,h2,h3,h4,AE,AF,AH,AJ,AL,AQ,AX,AO,AB]}
 by_cases h1:(who.get 0).toInt=(who.get 1).toInt;{exact⟨1,zB,fun k=>by rw[main,if_pos h1],fun h=>by omega,fun h _ _ _=>absurd h1 h⟩};by_cases h2:(rts.get 1).toInt<0;{exact⟨1,zB,fun k=>by rw[main,if_neg h1,if_pos h2],fun h=>by omega,fun _ h _ _=>by omega⟩};by_cases h3:8<(rts.get 1).toInt;{exact⟨1,zB,fun k=>by rw[main,if_neg h1,if_neg h2,if_pos h3],fun h=>by omega,fun _ _ h _=>by omega⟩};by_cases h4:Dj yk=0;{exact⟨0,_,fun k=>by rw[main,if_neg h1,if_neg h2,if_neg h3,if_pos h4],fun _=>⟨rfl,trivial,by omega⟩,fun _ _ _ _=>rfl⟩};{exact⟨_,zB,fun k=>by rw[main,if_neg h1,if_neg h2,if_neg h3,if_neg h4],fun h=>absurd h h4,fun _ _ _ h=>h⟩}
def Mr (v:C) (i:Nat) (_:Unit) (c:C):Unit ⊕ Nat:=if v.toInt=c.toInt then .inr i else .inl ()
def VE (l:List C) (v:C):Int:=match Dg (Mr v) 0 () l with| .inl _=>-1| .inr i=>(i:Int)
def Fu (l:List C) (v:C):Bool:=l.any fun c=>decide (v.toInt=c.toInt)
theorem oY (v:C):∀(l:List C) (i:Nat),(Fu l v=true->∃j,Dg (Mr v) i () l= .inr j/\j<i+l.length)/\(Fu l v=false->Dg (Mr v) i () l= .inl ())
 | [],i=>⟨fun h=>by simp[Fu]at h,fun _=>rfl⟩|c::l,i=>by have ih:=oY v l (i+1);simp only[Dg,Mr,Fu,List.any_cons,List.length_cons]at ih ⊢;by_cases h:v.toInt=c.toInt;{simp only[h,AE,Bool.true_or,AB];exact⟨fun _=>⟨i,rfl,by omega⟩,fun h=>by simp at h⟩};{simp only[h,AE,Bool.false_or];refine⟨fun h1=>?_,ih.2⟩;obtain⟨j,h2,h3⟩:=ih.1 h1;exact⟨j,h2,by omega⟩}
theorem q2F (l:List C) (v:C):decide (0<=VE l v)=Fu l v:=by have:=oY v l 0;unfold VE;cases h:Fu l v;{rw[this.2 h];rfl};{obtain⟨j,h1,_⟩:=this.1 h;rw[h1];exact decide_eq_true (by dsimp only;omega)}
theorem q2H (l:List C) (v:C) (hl:l.length<4611686018427387904) (hN:l.length<N) (k:KD R):TP N (.slice l) v k=k [.int (VE l v)] []:=by
 rw[yN];unfold fA;rw[AR];refine(SC (F:=Wz N k fun _ _=>k [.int (-1)] []) (fun i (_:Unit)=>[.slice l,v,.int l.length,.int i]) (fun _ _=>[]) l (Mr v) (fun _=>k [.int (-1)] []) (fun i=>k [.int (i:Nat)] []) (s0:=()) ?_ ?_ hN).trans ?_
 ·intro i _ c hx hi rec;have h1:(i:Int)<(l.length:Int):=by omega
  unfold Wz Mr;simp only[AF,AH,AJ,AL,AG,AO,h1,FJ hx,bz,and_self,AE,bb,Bp (show i<4611686018427387904 by omega),AB];by_cases h2:v.toInt=c.toInt;{simp only[h2,AE,AB]};{simp only[h2,AE]}
 ·intro _ rec;unfold Wz;simp only[AF,AH,AJ,AL,AG,eg,AE,AB]
 ·unfold VE LI;cases Dg (Mr v) 0 () l <;> rfl
def WL:Es->C->C->Es
 | [],c,v=>[(c,v)]|(k,u)::l,c,v=>if C.beq c k=true then(k,v)::l else(k,u)::WL l c v
theorem vE (τ:Ty) (c v:C):∀m:Es,Ge (dE τ m) c (V.d τ v)=dE τ (WL m c v)
 | []=>rfl|(k,u)::m=>by have ih:=vE τ c v m;simp only[dE,List.map_cons,Ge,WL]at ih ⊢;by_cases h:C.beq c k=true;{simp[h]};{simp[h,ih]}
theorem q38 (s:C) (hN:5000<N) (hN2:N<4611686018427387904):∃c:C,∀k:KD R,PW N s k=k [c] []:=by obtain⟨c,_,h⟩:=o5 (R:=R) (N:=N) (.int 6) [bw (cut (ax s) 0 32)] 100 (fun x hx=>⟨_,fj.1 hx,by simp[cut];omega⟩) (by simp;omega) (by omega) hN2;refine⟨c,fun k=>?_⟩;rw[aR];unfold Vd;simp only[h,AF]
theorem q9A (s h x y:C) (m:Es) (hN:5000<N) (hN2:N<4611686018427387904):∃(e:Int) (m':Es),(∀k:KD R,NR N s h x y m k=k [.int e] [m'])/\(e≠0->m'=m):=by
 obtain⟨c,hc⟩:=q38 (R:=R) (N:=N) s hN hN2;cases hm:Ff m c with
 |true=>
  refine⟨7,m,fun k=>?_,fun _=>rfl⟩;rw[Vu];unfold SQ;simp only[hc,AF,BM,PJ,Ae,Af,hm,AE,AB]
 |false=>
  refine⟨0,WL m c (cn (cn (dc [dc (bp 32 (bc 0)),bc 0]) 0 s) 1 h),fun k=>?_,fun h=>absurd rfl h⟩;rw[Vu];unfold SQ;have e:dm [m] 0=m:=rfl;simp only[hc,AF,e,BM,PJ,vE,Ae,Af,hm,AE,AB]
end
def q9Z:List Sh:=[.as (.ptr (.g (.l 1)) [] BN),.d (.int .i64)]
def q91:List (Key × OSh):=[(.l 1,.box (.agg BN [.vec (.g (.l 2)) 8 (.int .u64),.vec (.g (.l 3)) 8 (.int .u64),.d (.int .u64)])),(.l 2,.box (.arr (.int .u64))),(.l 3,.box (.arr (.int .u64)))]
def fT {R:Type} (N:Nat) (a0 b0 b1 b2 b3 b4:C) (k1:KD R):Option R:=jn (fun J m1=>(bif dg (U J 0)then(k1 [bc 1] [])else(k1 [bc 0] []))) (fun k2=>(bif decide (aq a0<0)then(k2 [de true] [])else(k2 [de (decide ((↑(av (aq b0)):Int)<=aq a0))] [])))
def Jp:=lid "" (@fT R N)
theorem zL {R N a0 b0 b1 b2 b3 b4 k}:@Jp R N a0 b0 b1 b2 b3 b4 k=fT N a0 b0 b1 b2 b3 b4 k:=by unfold Jp;rw[BQ]
def q90:OvG R:=Cu q9Z q91 (fun ds ms=>Jp N (U ds 0) (U ds 1) (U ds 2) (U ds 3) (U ds 4) (U ds 5)) fun ds ms K J m1=>K (V.d (bm ba) (U J 0)) []
theorem Ta:okX 101 (@q90 R N):=Cv BT N [] [(101,[([0,3,1,4,0,1],⟨[0],[(8,.d .bool)],[],[],[.g (.l 1),.g (.l 2),.g (.l 3)],[(.int .u64)]⟩),
  ([9],⟨[],[(4,.d (.int .i64))],[],[],[.g (.l 1),.g (.l 2),.g (.l 3)],[(.int .u64)]⟩)])] (fun _ _ _=>zL)
def q9M:List Sh:=[.as (.ptr (.g (.l 1)) [] BN),.d (.int .i64),.d (.int .u64)]
def q9O:List (Key × OSh):=[(.l 1,.box (.agg BN [.vec (.g (.l 2)) 8 (.int .u64),.vec (.g (.l 3)) 8 (.int .u64),.d (.int .u64)])),(.l 2,.box (.arr (.int .u64))),(.l 3,.box (.arr (.int .u64)))]
def fO (a0 a1 b0 b1 b2 b3 b4:C) (k1:KD R):Option R:=if au (ax b3)=au (ax b3)then(gA b4 (Jp N a0 (nI b0) (nI b1) b2 b3 b4 (fun J m1=>(bif !decide (aq (U J 0)=0)then(gA b3 (gA b4 (k1 [U J 0,nI b0,nI b1,b2,bc (↑(au (ax b3)):Int),b3,bc (↑(au (ax b4)):Int),b4] [])))else(if 0<=aq a0/\aq a0<(↑(av (aq b0)):Int)then(Pd N (bj b3 (0+av (aq a0))) a1 (fun I m2=>(bif !decide (aq (U I 1)=0)then(gA b3 (gA b4 (k1 [U I 1,nI b0,nI b1,b2,bc (↑(au (ax b3)):Int),b3,bc (↑(au (ax b4)):Int),b4] [])))else(if 0<=aq a0/\aq a0<(↑(av (aq b0)):Int)then(if au (ax b3)=au (ax (cn b3 (0+av (aq a0)) (U I 0)))then(gA b4 (k1 [bc 0,nI b0,nI b1,bc (ar ay (aq b2+aq a1)),bc (↑(au (ax b3)):Int),cn b3 (0+av (aq a0)) (U I 0),bc (↑(au (ax b4)):Int),b4] []))else none)else none))))else none)))))else none
def QW:=lid "" (@fO R N)
theorem zG {R N a0 a1 b0 b1 b2 b3 b4 k}:@QW R N a0 a1 b0 b1 b2 b3 b4 k=fO N a0 a1 b0 b1 b2 b3 b4 k:=by unfold QW;rw[BQ]
def q9N:OvG R:=Cu q9M q9O (fun ds ms=>QW N (U ds 0) (U ds 1) (U ds 2) (U ds 3) (U ds 4) (U ds 5) (U ds 6)) fun ds ms K J m1=>K (V.d (bm ba) (U J 0)) [(dp (ch 1),
  dy
   (V.agg BN
    [V.sr (ch 1000000000074) [] 0 (av (aq (U J 1))) none 8 (bm ay),
     V.sr (ch 1000000000106) [] 0 (av (aq (U J 2))) none 8 (bm ay),
     V.d (bm ay) (U J 3)])),
 (dp (ch 2),fk (ca (av (aq (U J 4))) (bm ay))),
 (ch 1000000000074,dy (V.d (ca (au (ax (U J 5))) (bm ay)) (U J 5))),
 (dp (ch 3),fk (ca (av (aq (U J 6))) (bm ay))),
 (ch 1000000000106,dy (V.d (ca (au (ax (U J 7))) (bm ay)) (U J 7)))]
theorem zF:okX 102 (@q9N R N):=Cv (BJ (Ta N) <| BJ (sH N) <| BT) N [] [(102,[([9],⟨[],[(6,.d (.int .i64))],[.g (.l 1),.g (.l 2),.g (.l 3)],[],[],[(.int .u64)]⟩)])] (fun _ _ _=>zG)
def q9E:List Sh:=[.as (.ptr (.g (.l 1)) [] BN),.d (.int .i64),.d (.int .u64)]
def q9H:List (Key × OSh):=[(.l 1,.box (.agg BN [.vec (.g (.l 2)) 8 (.int .u64),.vec (.g (.l 3)) 8 (.int .u64),.d (.int .u64)])),(.l 2,.box (.arr (.int .u64))),(.l 3,.box (.arr (.int .u64)))]
def fL (a0 a1 b0 b1 b2 b3 b4:C) (k1:KD R):Option R:=if au (ax b3)=au (ax b3)then(gA b4 (Jp N a0 (nI b0) (nI b1) b2 b3 b4 (fun J m1=>(bif !decide (aq (U J 0)=0)then(gA b3 (gA b4 (k1 [U J 0,nI b0,nI b1,b2,bc (↑(au (ax b3)):Int),b3,bc (↑(au (ax b4)):Int),b4] [])))else(Pd N b2 a1 (fun I m2=>(bif !decide (aq (U I 1)=0)then(gA b3 (gA b4 (k1 [U I 1,nI b0,nI b1,b2,bc (↑(au (ax b3)):Int),b3,bc (↑(au (ax b4)):Int),b4] [])))else(if 0<=aq a0/\aq a0<(↑(av (aq b0)):Int)then(if 0<=aq a0/\aq a0<(↑(av (aq b0)):Int)then(if au (ax b3)=au (ax (cn b3 (0+av (aq a0)) (bc (ar ay (aq (bj b3 (0+av (aq a0)))+aq a1)))))then(gA b4 (k1 [bc 0,nI b0,nI b1,U I 0,bc (↑(au (ax b3)):Int),cn b3 (0+av (aq a0)) (bc (ar ay (aq (bj b3 (0+av (aq a0)))+aq a1))),bc (↑(au (ax b4)):Int),b4] []))else none)else none)else none))))))))else none
def TX:=lid "" (@fL R N)
theorem zC {R N a0 a1 b0 b1 b2 b3 b4 k}:@TX R N a0 a1 b0 b1 b2 b3 b4 k=fL N a0 a1 b0 b1 b2 b3 b4 k:=by unfold TX;rw[BQ]
def q9F:OvG R:=Cu q9E q9H (fun ds ms=>TX N (U ds 0) (U ds 1) (U ds 2) (U ds 3) (U ds 4) (U ds 5) (U ds 6)) fun ds ms K J m1=>K (V.d (bm ba) (U J 0)) [(dp (ch 1),
  dy
   (V.agg BN
    [V.sr (ch 1000000000074) [] 0 (av (aq (U J 1))) none 8 (bm ay),
     V.sr (ch 1000000000106) [] 0 (av (aq (U J 2))) none 8 (bm ay),
     V.d (bm ay) (U J 3)])),
 (dp (ch 2),fk (ca (av (aq (U J 4))) (bm ay))),
 (ch 1000000000074,dy (V.d (ca (au (ax (U J 5))) (bm ay)) (U J 5))),
 (dp (ch 3),fk (ca (av (aq (U J 6))) (bm ay))),
 (ch 1000000000106,dy (V.d (ca (au (ax (U J 7))) (bm ay)) (U J 7)))]
theorem q9G:okX 103 (@q9F R N):=Cv (BJ (Ta N) <| BJ (sH N) <| BT) N [] [(103,[([9],⟨[],[(6,.d (.int .i64))],[.g (.l 1),.g (.l 2),.g (.l 3)],[],[],[(.int .u64)]⟩)])] (fun _ _ _=>zC)
def q9S:List Sh:=[.as (.ptr (.g (.l 1)) [] BN),.d (.int .i64),.d (.int .i64),.d (.int .u64)]
def q9U:List (Key × OSh):=[(.l 1,.box (.agg BN [.vec (.g (.l 2)) 8 (.int .u64),.vec (.g (.l 3)) 8 (.int .u64),.d (.int .u64)])),(.l 2,.box (.arr (.int .u64))),(.l 3,.box (.arr (.int .u64)))]
def fR (a0 a1 a2 b0 b1 b2 b3 b4:C) (k1:KD R):Option R:=if au (ax b3)=au (ax b3)then(gA b4 (Jp N a0 (nI b0) (nI b1) b2 b3 b4 (fun J m1=>(bif !decide (aq (U J 0)=0)then(gA b3 (gA b4 (k1 [U J 0,nI b0,nI b1,b2,bc (↑(au (ax b3)):Int),b3,bc (↑(au (ax b4)):Int),b4] [])))else(gA b3 (gA b4 (Jp N a1 (nI b0) (nI b1) b2 b3 b4 (fun I m2=>(bif !decide (aq (U I 0)=0)then(gA b3 (gA b4 (k1 [U I 0,nI b0,nI b1,b2,bc (↑(au (ax b3)):Int),b3,bc (↑(au (ax b4)):Int),b4] [])))else(gA b3 (gA b4 (QW N a0 a2 (nI b0) (nI b1) b2 b3 b4 (fun d3 m3=>(bif !decide (aq (U d3 0)=0)then(gA (U d3 5) (gA (U d3 7) (k1 [U d3 0,nI (U d3 1),nI (U d3 2),U d3 3,nI (U d3 4),U d3 5,nI (U d3 6),U d3 7] [])))else(gA (U d3 5) (gA (U d3 7) (TX N a1 a2 (nI (U d3 1)) (nI (U d3 2)) (U d3 3) (U d3 5) (U d3 7) (fun d4 m4=>(gA (U d4 5) (gA (U d4 7) (k1 [U d4 0,nI (U d4 1),nI (U d4 2),U d4 3,nI (U d3 4),U d4 5,nI (U d3 6),U d4 7] [])))))))))))))))))))))else none
def QX:=lid "" (@fR R N)
theorem zJ {R N a0 a1 a2 b0 b1 b2 b3 b4 k}:@QX R N a0 a1 a2 b0 b1 b2 b3 b4 k=fR N a0 a1 a2 b0 b1 b2 b3 b4 k:=by unfold QX;rw[BQ]
def q9T:OvG R:=Cu q9S q9U (fun ds ms=>QX N (U ds 0) (U ds 1) (U ds 2) (U ds 3) (U ds 4) (U ds 5) (U ds 6) (U ds 7)) fun ds ms K J m1=>K (V.d (bm ba) (U J 0)) [(dp (ch 1),
  dy
   (V.agg BN
    [V.sr (ch 1000000000074) [] 0 (av (aq (U J 1))) none 8 (bm ay),
     V.sr (ch 1000000000106) [] 0 (av (aq (U J 2))) none 8 (bm ay),
     V.d (bm ay) (U J 3)])),
 (dp (ch 2),fk (ca (av (aq (U J 4))) (bm ay))),
 (ch 1000000000074,dy (V.d (ca (au (ax (U J 5))) (bm ay)) (U J 5))),
 (dp (ch 3),fk (ca (av (aq (U J 6))) (bm ay))),
 (ch 1000000000106,dy (V.d (ca (au (ax (U J 7))) (bm ay)) (U J 7)))]
theorem zI:okX 86 (@q9T R N):=Cv (BJ (Ta N) <| BJ (zF N) <| BJ (q9G N) <| BT) N [] [(86,[([9],⟨[],[(8,.d (.int .i64))],[.g (.l 1),.g (.l 2),.g (.l 3)],[],[],[(.int .u64)]⟩)])] (fun _ _ _=>zJ)
def q9V:List Sh:=[.as (.ptr (.g (.l 1)) [] BN),.d (.int .i64),.d (.int .u64)]
def q9Y:List (Key × OSh):=[(.l 1,.box (.agg BN [.vec (.g (.l 2)) 8 (.int .u64),.vec (.g (.l 3)) 8 (.int .u64),.d (.int .u64)])),(.l 2,.box (.arr (.int .u64))),(.l 3,.box (.arr (.int .u64)))]
def fS (a0 a1 b0 b1 b2 b3 b4:C) (k1:KD R):Option R:=if au (ax b3)=au (ax b3)then(gA b4 (Jp N a0 (nI b0) (nI b1) b2 b3 b4 (fun J m1=>(bif !decide (aq (U J 0)=0)then(gA b3 (gA b4 (k1 [U J 0,nI b0,nI b1,b2,bc (↑(au (ax b3)):Int),b3,bc (↑(au (ax b4)):Int),b4] [])))else(if 0<=aq a0/\aq a0<(↑(av (aq b1)):Int)then(bif !decide (aq a1=aq (bj b4 (0+av (aq a0))))then(gA b3 (gA b4 (k1 [bc 22,nI b0,nI b1,b2,bc (↑(au (ax b3)):Int),b3,bc (↑(au (ax b4)):Int),b4] [])))else(if 0<=aq a0/\aq a0<(↑(av (aq b1)):Int)then(if 0<=aq a0/\aq a0<(↑(av (aq b1)):Int)then(gA b3 (if au (ax b4)=au (ax (cn b4 (0+av (aq a0)) (bc (ar ay (aq (bj b4 (0+av (aq a0)))+1)))))then(k1 [bc 0,nI b0,nI b1,b2,bc (↑(au (ax b3)):Int),b3,bc (↑(au (ax b4)):Int),cn b4 (0+av (aq a0)) (bc (ar ay (aq (bj b4 (0+av (aq a0)))+1)))] [])else none))else none)else none))else none)))))else none
def TZ:=lid "" (@fS R N)
theorem zK {R N a0 a1 b0 b1 b2 b3 b4 k}:@TZ R N a0 a1 b0 b1 b2 b3 b4 k=fS N a0 a1 b0 b1 b2 b3 b4 k:=by unfold TZ;rw[BQ]
def q9W:OvG R:=Cu q9V q9Y (fun ds ms=>TZ N (U ds 0) (U ds 1) (U ds 2) (U ds 3) (U ds 4) (U ds 5) (U ds 6)) fun ds ms K J m1=>K (V.d (bm ba) (U J 0)) [(dp (ch 1),
  dy
   (V.agg BN
    [V.sr (ch 1000000000074) [] 0 (av (aq (U J 1))) none 8 (bm ay),
     V.sr (ch 1000000000106) [] 0 (av (aq (U J 2))) none 8 (bm ay),
     V.d (bm ay) (U J 3)])),
 (dp (ch 2),fk (ca (av (aq (U J 4))) (bm ay))),
 (ch 1000000000074,dy (V.d (ca (au (ax (U J 5))) (bm ay)) (U J 5))),
 (dp (ch 3),fk (ca (av (aq (U J 6))) (bm ay))),
 (ch 1000000000106,dy (V.d (ca (au (ax (U J 7))) (bm ay)) (U J 7)))]
theorem q9X:okX 85 (@q9W R N):=Cv (BJ (Ta N) <| BT) N [] [(85,[([9],⟨[],[(6,.d (.int .i64))],[.g (.l 1),.g (.l 2),.g (.l 3)],[],[],[(.int .u64)]⟩)])] (fun _ _ _=>zK)
def q9I:List Sh:=[.as (.ptr (.g (.l 1)) [] BN),.d (.int .i64)]
def q9L:List (Key × OSh):=[(.l 1,.box (.agg BN [.vec (.g (.l 2)) 8 (.int .u64),.vec (.g (.l 3)) 8 (.int .u64),.d (.int .u64)])),(.l 2,.box (.arr (.int .u64))),(.l 3,.box (.arr (.int .u64)))]
def fM (a0 b0 b1 b2 b3 b4:C) (k1:KD R):Option R:=if au (ax b3)=au (ax b3)then(gA b4 (Jp N a0 (nI b0) (nI b1) b2 b3 b4 (fun J m1=>(bif !decide (aq (U J 0)=0)then(k1 [bc 0] [])else(if 0<=aq a0/\aq a0<(↑(av (aq b0)):Int)then(k1 [bj b3 (0+av (aq a0))] [])else none)))))else none
def TY:=lid "" (@fM R N)
theorem zD {R N a0 b0 b1 b2 b3 b4 k}:@TY R N a0 b0 b1 b2 b3 b4 k=fM N a0 b0 b1 b2 b3 b4 k:=by unfold TY;rw[BQ]
def q9J:OvG R:=Cu q9I q9L (fun ds ms=>TY N (U ds 0) (U ds 1) (U ds 2) (U ds 3) (U ds 4) (U ds 5)) fun ds ms K J m1=>K (V.d (bm ay) (U J 0)) []
theorem q9K:okX 84 (@q9J R N):=Cv (BJ (Ta N) <| BT) N [] [(84,[([9],⟨[],[(4,.d (.int .u64))],[],[],[.g (.l 1),.g (.l 2),.g (.l 3)],[(.int .u64)]⟩)])] (fun _ _ _=>zD)
def q9P:List Sh:=[.as (.ptr (.g (.l 1)) [] BN)]
def q9R:List (Key × OSh):=[(.l 1,.box (.agg BN [.vec (.g (.l 2)) 8 (.int .u64),.vec (.g (.l 3)) 8 (.int .u64),.d (.int .u64)])),(.l 2,.box (.arr (.int .u64))),(.l 3,.box (.arr (.int .u64)))]
def fQ {R:Type} (N:Nat) (b0 b1 b2 b3 b4:C) (k1:KD R):Option R:=k1 [nI b0] []
def Nl:=lid "" (@fQ R N)
theorem zH {R N b0 b1 b2 b3 b4 k}:@Nl R N b0 b1 b2 b3 b4 k=fQ N b0 b1 b2 b3 b4 k:=by unfold Nl;rw[BQ]
def q9Q:OvG R:=Cu q9P q9R (fun ds ms=>Nl N (U ds 0) (U ds 1) (U ds 2) (U ds 3) (U ds 4)) fun ds ms K J m1=>K (V.d (bm ba) (U J 0)) []
theorem fP:okX 42 (@q9Q R N):=Cv BT N [] [(42,[([9],⟨[],[(2,.d (.int .i64))],[],[],[.g (.l 1),.g (.l 2),.g (.l 3)],[(.int .u64)]⟩)])] (fun _ _ _=>zH)
section
variable {R:Type} {N:Nat}
theorem Ay {m:Es} {l:List Es}:dm (m::l) 0=m:=rfl
theorem Gg (c v:C) (i:Nat):(cn c i v).elems.length=c.elems.length:=by cases c <;> simp[cn,ax]
def inR (n:Nat) (a:C):Prop:=0<=a.toInt/\a.toInt<(n:Int)
instance (n:Nat) (a:C):Decidable (inR n a):=inferInstanceAs (Decidable (_/\_))
def inE (n:Nat) (a:C):Int:=if inR n a then 0 else 1
theorem II {n:Nat} {a:C} (h:inR n a):inE n a=0:=if_pos h
theorem PK {n:Nat} {a:C} (h:¬inR n a):inE n a=1:=if_neg h
section
variable (n:Nat) (a x b1 b2 b3 b4:C) (k:KD R)
theorem Tb:Jp N a (.int n) b1 b2 b3 b4 k=k [.int (inE n a)] []:=by
 rw[zL];unfold fT inE inR;simp only[AR,AG,bb,AB];by_cases h1:a.toInt<0
 ·have:¬(0<=a.toInt/\a.toInt<(n:Int)):=by omega
  simp only[h1,AE,AF,AX,this]
 by_cases h2:(n:Int)<=a.toInt
 ·have:¬(0<=a.toInt/\a.toInt<(n:Int)):=by omega
  simp only[h1,h2,AE,AF,AX,this]
 ·have:0<=a.toInt/\a.toInt<(n:Int):=by omega
  simp only[h1,h2,AE,AF,AX,this,and_self,AB]
theorem Jh:Nl N (.int n) b1 b2 b3 b4 k=k [.int n] []:=by rw[zH];unfold fQ;simp only[AG,bb,AB]
def PH:C:=if inR n a then b3.get a.toInt.toNat else .int 0
theorem has_eq:TY N a (.int n) b1 b2 b3 b4 k=k [PH n a b3] []:=by rw[zD];unfold fM PH;simp only[AG,bb,Tb,AF,eq_self,if_true,bf,AB];by_cases h:inR n a;{have h2:0<=a.toInt/\a.toInt<(n:Int):=h;simp only[II h,h,h2,and_self,AE,AB]};{simp only[PK h,h,show ¬(1:Int)=0 by decide,AE]}
def Ew:Int × C:=if inR n a then if x.toInt=(b4.get a.toInt.toNat).toInt then(0,b4.set a.toInt.toNat (.int (IntKind.u64.wrap ((b4.get a.toInt.toNat).toInt+1))))else(22,b4)else(1,b4)
theorem q5U:TZ N a x (.int n) (.int n) b2 b3 b4 k=k [.int (Ew n a x b4).1,.int n,.int n,b2,.int b3.elems.length,b3,.int b4.elems.length,(Ew n a x b4).2] []:=by rw[zK];unfold fS Ew;simp only[AG,bb,Tb,AF,eq_self,if_true,bf,Gg,AB];by_cases h:inR n a;{have h2:0<=a.toInt/\a.toInt<(n:Int):=h;by_cases h3:x.toInt=(b4.get a.toInt.toNat).toInt;{simp only[II h,h,h2,h3,and_self,AE,AB]};{simp only[II h,h,h2,h3,and_self,AE,AB]}};{simp only[PK h,h,show ¬(1:Int)=0 by decide,AE]}
def DN:Int × C × C:=if inR n a then if(FP (b3.get a.toInt.toNat).toInt x.toInt).2=0 then(0,.int (IntKind.u64.wrap (b2.toInt+x.toInt)),b3.set a.toInt.toNat (.int (FP (b3.get a.toInt.toNat).toInt x.toInt).1))else((FP (b3.get a.toInt.toNat).toInt x.toInt).2,b2,b3)else(1,b2,b3)
theorem Zd:QW N a x (.int n) (.int n) b2 b3 b4 k=k [.int (DN n a x b2 b3).1,.int n,.int n,(DN n a x b2 b3).2.1,.int b3.elems.length,(DN n a x b2 b3).2.2,.int b4.elems.length,b4] []:=by rw[zG];unfold fO DN;simp only[AG,bb,Tb,sub_eq,AF,AH,eq_self,if_true,bf,Gg,AB];by_cases h:inR n a;{have h2:0<=a.toInt/\a.toInt<(n:Int):=h;by_cases h3:(FP (b3.get a.toInt.toNat).toInt x.toInt).2=0;{simp only[II h,h,h2,h3,and_self,AE,AB]};{simp only[II h,h,h2,h3,and_self,AE,AB]}};{simp only[PK h,h,show ¬(1:Int)=0 by decide,AE]}
def Jc:Int × C × C:=if inR n a then if(FP b2.toInt x.toInt).2=0 then(0,.int (FP b2.toInt x.toInt).1,b3.set a.toInt.toNat (.int (IntKind.u64.wrap ((b3.get a.toInt.toNat).toInt+x.toInt))))else((FP b2.toInt x.toInt).2,b2,b3)else(1,b2,b3)
theorem q2n:TX N a x (.int n) (.int n) b2 b3 b4 k=k [.int (Jc n a x b2 b3).1,.int n,.int n,(Jc n a x b2 b3).2.1,.int b3.elems.length,(Jc n a x b2 b3).2.2,.int b4.elems.length,b4] []:=by rw[zC];unfold fL Jc;simp only[AG,bb,Tb,sub_eq,AF,AH,eq_self,if_true,bf,Gg,AB];by_cases h:inR n a;{have h2:0<=a.toInt/\a.toInt<(n:Int):=h;by_cases h3:(FP b2.toInt x.toInt).2=0;{simp only[II h,h,h2,h3,and_self,AE,AB]};{simp only[II h,h,h2,h3,and_self,AE,AB]}};{simp only[PK h,h,show ¬(1:Int)=0 by decide,AE]}
def IL (y:C):Int × C × C:=if inR n a then if inR n y then if(DN n a x b2 b3).1=0 then Jc n y x (DN n a x b2 b3).2.1 (DN n a x b2 b3).2.2 else((DN n a x b2 b3).1,b2,b3)else(1,b2,b3)else(1,b2,b3)
theorem pL:(DN n a x b2 b3).2.2.elems.length=b3.elems.length:=by unfold DN;split;{split;{exact Gg _ _ _};{rfl}};{rfl}
theorem q2o:(Jc n a x b2 b3).2.2.elems.length=b3.elems.length:=by unfold Jc;split;{split;{exact Gg _ _ _};{rfl}};{rfl}
theorem tY:(Ew n a x b4).2.elems.length=b4.elems.length:=by unfold Ew;split;{split;{exact Gg _ _ _};{rfl}};{rfl}
theorem Zc (h:(DN n a x b2 b3).1≠0):(DN n a x b2 b3).2=(b2,b3):=by unfold DN at h ⊢;split;{split;{rename_i h1 h2;rw[if_pos h1,if_pos h2]at h;exact absurd rfl h};{rfl}};{rfl}
theorem q48 (y:C):QX N a y x (.int n) (.int n) b2 b3 b4 k=k [.int (IL n a x b2 b3 y).1,.int n,.int n,(IL n a x b2 b3 y).2.1,.int b3.elems.length,(IL n a x b2 b3 y).2.2,.int b4.elems.length,b4] []:=by rw[zJ];unfold fR IL;simp only[AG,bb,Tb,Zd,q2n,AF,AH,AJ,AL,AQ,Aa,Ac,Ah,eq_self,if_true,bf,AB];by_cases h:inR n a;{by_cases h2:inR n y;{by_cases h3:(DN n a x b2 b3).1=0;{simp only[II h,II h2,h,h2,h3,AE,AB]};{have:=Zc n a x b2 b3 h3;simp only[II h,II h2,h,h2,h3,this,AE,AB]}};{simp only[II h,PK h2,h,h2,show ¬(1:Int)=0 by decide,AE,AB]}};{simp only[PK h,h,show ¬(1:Int)=0 by decide,AE]}
theorem q49 (y:C):(IL n a x b2 b3 y).2.2.elems.length=b3.elems.length:=by unfold IL;split;{split;{split;{rw[q2o,pL]};{rfl}};{rfl}};{rfl}
end
end
def q5A:List Sh:=[.as (.ptr (.g (.l 1)) [] Bz),.d (.arr 32 (.int .u8))]
def q5D:List (Key × OSh):=[(.l 1,.box (.agg Bz [.as (.mp (.g (.l 2)))])),(.l 2,.map (.arr 32 (.int .u8)) AP)]
def bQ {R:Type} (N:Nat) (a0 a1 b0:C) (m0:Es) (k1:KD R):Option R:=bif EJ AP (dE AP m0)then(bif Iv (dE AP m0) a0 then(k1 [bj (LN (dE AP m0) a0) 1,de true] [])else(k1 [bc 0,de false] []))else none
def SR:=lid "" (@bQ R N)
theorem sY {R N a0 a1 b0 m0 k}:@SR R N a0 a1 b0 m0 k=bQ N a0 a1 b0 m0 k:=by unfold SR;rw[BQ]
def q5B:OvG R:=Cu q5A q5D (fun ds ms=>SR N (U ds 0) (U ds 1) (U ds 2) (dm ms 0)) fun ds ms K J m1=>K (V.tup [V.d (bm ay) (U J 0),V.d Ty.bool (de (dg (U J 1)))]) []
theorem q5C:okX 79 (@q5B R N):=Cv BT N [(79,[(0,[(3,5)])])] [(79,[([9],⟨[],[(4,.d (.int .u64)),(5,.d .bool)],[],[],[.g (.l 1),.g (.l 2)],[]⟩)])] (fun _ _ _=>sY)
def q5o:List Sh:=[.as (.ptr (.g (.l 1)) [] Bz),.d (.arr 32 (.int .u8)),.d (.int .u64)]
def q5r:List (Key × OSh):=[(.l 1,.box (.agg Bz [.as (.mp (.g (.l 2)))])),(.l 2,.map (.arr 32 (.int .u8)) AP)]
def bO (a0 a1 a2 b0:C) (m0:Es) (k1:KD R):Option R:=if HL AP (dE AP m0)=true then(SR N a0 dj dj (unE (dE AP m0)) (fun J m1=>(jn (fun I m2=>(k1 [de (dg (U I 0))] [])) (fun k2=>(bif dg (U J 1)then(k2 [de (decide (aq (U J 0)<=aq a1))] [])else(k2 [de false] []))))))else none
def SN:=lid "" (@bO R N)
theorem sW {R N a0 a1 a2 b0 m0 k}:@SN R N a0 a1 a2 b0 m0 k=bO N a0 a1 a2 b0 m0 k:=by unfold SN;rw[BQ]
def q5p:OvG R:=Cu q5o q5r (fun ds ms=>SN N (U ds 0) (U ds 1) (U ds 2) (U ds 3) (dm ms 0)) fun ds ms K J m1=>K (V.d Ty.bool (de (dg (U J 0)))) []
theorem q5q:okX 59 (@q5p R N):=Cv (BJ (q5C N) <| BT) N [(59,[(0,[(4,5)])])] [(59,[([0,1,1],⟨[0],[(6,.d .bool)],[],[],[.g (.l 1),.g (.l 2)],[]⟩),
  ([9],⟨[],[(6,.d .bool)],[],[],[.g (.l 1),.g (.l 2)],[]⟩)])] (fun _ _ _=>sW)
def q5s:List Sh:=[.as (.ptr (.g (.l 1)) [] Bz),.d CR,.d (.int .u64)]
def q5v:List (Key × OSh):=[(.l 1,.box (.agg Bz [.as (.mp (.g (.l 2)))])),(.l 2,.map (.arr 32 (.int .u8)) AP)]
def bP (a0 a1 b0:C) (m0:Es) (k1:KD R):Option R:=if HL AP (dE AP m0)=true then(SN N (bj a0 3) (bj a0 4) dj dj (unE (dE AP m0)) (fun J m1=>(bif dg (U J 0)then(k1 [bc 1] [])else(bif decide (aq (bj a0 4)<aq a1)then(k1 [bc 2] [])else(k1 [bc 0] [])))))else none
def SP:=lid "" (@bP R N)
theorem sX {R N a0 a1 b0 m0 k}:@SP R N a0 a1 b0 m0 k=bP N a0 a1 b0 m0 k:=by unfold SP;rw[BQ]
def q5t:OvG R:=Cu q5s q5v (fun ds ms=>SP N (U ds 0) (U ds 1) (U ds 2) (dm ms 0)) fun ds ms K J m1=>K (V.d (bm ba) (U J 0)) []
theorem q5u:okX 36 (@q5t R N):=Cv (BJ (q5q N) <| BT) N [(36,[(0,[(4,5)])])] [(36,[([9],⟨[],[(6,.d (.int .i64))],[],[],[.g (.l 1),.g (.l 2)],[]⟩)])] (fun _ _ _=>sX)
section
variable {R:Type} {N:Nat}
def ofP (m:Es) (c:C) (ya:Int):Int:=
 if Ff m (c.get 3)=true/\((getM m (c.get 3)).get 1).toInt<=(c.get 4).toInt then 1 else if(c.get 4).toInt<ya then 2 else 0
theorem z0t (h:C) (a1 b0:C) (m:Es) (k:KD R):SR N h a1 b0 m k=k [if Ff m h=true then(getM m h).get 1 else .int 0,.bool (Ff m h)] []:=by rw[sY];unfold bQ;simp only[go_sem];cases Ff m h <;> rfl
theorem q2G (h x:C) (a1 b0:C) (m:Es) (k:KD R):SN N h x a1 b0 m k=k [.bool (Ff m h&&decide (((getM m h).get 1).toInt<=x.toInt))] []:=by rw[sW];unfold bO;simp only[go_sem,z0t,AX];cases Ff m h <;> simp
theorem of_eq (c ya:C) (b0:C) (m:Es) (k:KD R):SP N c ya b0 m k=k [.int (ofP m c ya.toInt)] []:=by rw[sX];unfold bP ofP;simp only[go_sem,q2G,AX];cases h:Ff m (c.get 3);{by_cases h2:(c.get 4).toInt<ya.toInt <;> simp[h2]};{by_cases h1:((getM m (c.get 3)).get 1).toInt<=(c.get 4).toInt;{simp[h1]};{by_cases h2:(c.get 4).toInt<ya.toInt <;> simp[h1,h2]}}
end
def q0d:List Sh:=[.as (.ptr (.g (.l 1)) [] Ba),.d CR]
def q0f:List (Key × OSh):=[(.l 1,.box (.agg Ba [.as (.ptr (.g (.l 2)) [] BN),.as (.ptr (.g (.l 5)) [] Bz),.d (.int .u64),.d (.int .u64),.vec (.g (.l 7)) 240 AV,.vec (.g (.l 8)) 2368 tTx,.vec (.g (.l 9)) 40 AW])),(.l 2,.box (.agg BN [.vec (.g (.l 3)) 8 (.int .u64),.vec (.g (.l 4)) 8 (.int .u64),.d (.int .u64)])),(.l 3,.box (.arr (.int .u64))),(.l 4,.box (.arr (.int .u64))),(.l 5,.box (.agg Bz [.as (.mp (.g (.l 6)))])),(.l 6,.map (.arr 32 (.int .u8)) AP),(.l 7,.box (.arr AV)),(.l 8,.box (.arr tTx)),(.l 9,.box (.arr AW))]
def YP (a0 b0 b1 b2 b3 b4 b5 b6 b7 b8 b9 b10 b11 b12 b13:C) (m0:Es) (k1:KD R):Option R:=if HL AP (dE AP m0)=true then(SP N a0 b1 dj (unE (dE AP m0)) (fun J m1=>(k1 [U J 0] [])))else none
def OZ:=lid "" (@YP R N)
theorem kJ {R N a0 b0 b1 b2 b3 b4 b5 b6 b7 b8 b9 b10 b11 b12 b13 m0 k}:@OZ R N a0 b0 b1 b2 b3 b4 b5 b6 b7 b8 b9 b10 b11 b12 b13 m0 k=YP N a0 b0 b1 b2 b3 b4 b5 b6 b7 b8 b9 b10 b11 b12 b13 m0 k:=by unfold OZ;rw[BQ]
def q0e:OvG R:=Cu q0d q0f (fun ds ms=>OZ N (U ds 0) (U ds 1) (U ds 2) (U ds 3) (U ds 4) (U ds 5) (U ds 6) (U ds 7) (U ds 8) (U ds 9) (U ds 10) (U ds 11) (U ds 12) (U ds 13) (U ds 14) (dm ms 0)) fun ds ms K J m1=>K (V.d (bm ba) (U J 0)) []
theorem kI:okX 13 (@q0e R N):=Cv (BJ (q5u N) <| BT) N [(13,[(0,[(3,5)])])] [(13,[([9],⟨[],[(4,.d (.int .i64))],[],[],[.g (.l 1),.g (.l 2),.g (.l 3),.g (.l 4),.g (.l 5),.g (.l 6),.g (.l 7),.g (.l 8),.g (.l 9)],[(.int .u64),AV,tTx,AW]⟩)])] (fun _ _ _=>kJ)
def U3:List Sh:=[.d DT,.as (.ptr (.g (.l 1)) [] Ba),.d Bo,.d (.int .i64),.d tOp]
def U6:List (Key × OSh):=[(.l 1,.box (.agg Ba [.as (.ptr (.g (.l 2)) [] BN),.as (.ptr (.g (.l 5)) [] Bz),.d (.int .u64),.d (.int .u64),.vec (.g (.l 7)) 240 AV,.vec (.g (.l 8)) 2368 tTx,.vec (.g (.l 9)) 40 AW])),(.l 2,.box (.agg BN [.vec (.g (.l 3)) 8 (.int .u64),.vec (.g (.l 4)) 8 (.int .u64),.d (.int .u64)])),(.l 3,.box (.arr (.int .u64))),(.l 4,.box (.arr (.int .u64))),(.l 5,.box (.agg Bz [.as (.mp (.g (.l 6)))])),(.l 6,.map (.arr 32 (.int .u8)) AP),(.l 7,.box (.arr AV)),(.l 8,.box (.arr tTx)),(.l 9,.box (.arr AW))]
def YF (a0 a1 a2 a3 b0 b1 b2 b3 b4 b5 b6 b7 b8 b9 b10 b11 b12 b13:C) (m0:Es) (k1:KD R):Option R:=jn (fun J m1=>(k1 [bc 0] [])) (fun k2=>(bif decide (aq (bj a3 0)=2)then(bif decide (aq (bj (bj a3 2) 4)<=aq b1)then(k1 [bc 29] [])else(bif decide (aq (bj a0 3)<ar ay (aq (bj (bj a3 2) 4)-aq b1))then(k1 [bc 30] [])else(k2 [] [])))else(jn (fun J m1=>(jn (fun I m2=>(k2 [] [])) (fun k3=>(bif dg (U J 3)then(SW N (U J 1) (bj (U J 2) 3) (fun I m2=>(bif decide (aq (U I 0)<0)then(k1 [bc 6] [])else(gB (aq (U I 0)) ((↑(au (ax (bj (U J 1) 4))):Int)) (bif decide (aq (bj (bt (ax (bj (U J 1) 4)) (av (aq (U I 0))) dj) 1)=aq (U J 0))==decide (aq (bj (U J 2) 0)=3)then(k1 [bc 0] [])else(jn (fun d3 m3=>(gA b8 (gA b9 (gM AP m0 (gA b10 (gA b11 (gA b12 (OZ N (U d3 1) b0 b1 (nI b2) (nI b3) (nI b4) (nI b5) (nI b6) b7 b8 b9 b10 b11 b12 dj (unE (dE AP m0)) (fun d4 m4=>(bif !decide (aq (U d4 0)=aq (U d3 0))then(k1 [bc 30] [])else(k3 [] []))))))))))) (fun k4=>(bif decide (aq (bj (U J 2) 0)=4)then(k4 [bc 2,bt (ax (bj (U J 1) 4)) (av (aq (U I 0))) dj] [])else(k4 [bc 1,bt (ax (bj (U J 1) 4)) (av (aq (U I 0))) dj] [])))))))))else(k3 [] []))))) (fun k3=>(bif decide (aq (bj a3 0)=3)then(k3 [a2,a1,a3,HR (de (decide (aq (bj a3 0)=3))) true] [])else(k3 [a2,a1,a3,de (decide (aq (bj a3 0)=4))] []))))))
def Qp:=lid "" (@YF R N)
theorem jY {R N a0 a1 a2 a3 b0 b1 b2 b3 b4 b5 b6 b7 b8 b9 b10 b11 b12 b13 m0 k}:@Qp R N a0 a1 a2 a3 b0 b1 b2 b3 b4 b5 b6 b7 b8 b9 b10 b11 b12 b13 m0 k=YF N a0 a1 a2 a3 b0 b1 b2 b3 b4 b5 b6 b7 b8 b9 b10 b11 b12 b13 m0 k:=by unfold Qp;rw[BQ]
def U4:OvG R:=Cu U3 U6 (fun ds ms=>Qp N (U ds 0) (U ds 1) (U ds 2) (U ds 3) (U ds 4) (U ds 5) (U ds 6) (U ds 7) (U ds 8) (U ds 9) (U ds 10) (U ds 11) (U ds 12) (U ds 13) (U ds 14) (U ds 15) (U ds 16) (U ds 17) (dm ms 0)) fun ds ms K J m1=>K (V.d (bm ba) (U J 0)) []
theorem U5:okX 12 (@U4 R N):=Cv (BJ (kI N) <| BJ (q5Y N) <| BT) N [(12,[(0,[(5,5),(7,5),(9,5)])])] [(12,[([1,4,1,0,1],⟨[1],[],[],[],[.g (.l 1),.g (.l 2),.g (.l 3),.g (.l 4),.g (.l 5),.g (.l 6),.g (.l 7),.g (.l 8),.g (.l 9)],[(.int .u64),AV,tTx,AW]⟩),
  ([1,0,3,1,4,1,0,1],⟨[1,3,7,9],[(35,.d .bool)],[],[],[.g (.l 1),.g (.l 2),.g (.l 3),.g (.l 4),.g (.l 5),.g (.l 6),.g (.l 7),.g (.l 8),.g (.l 9)],[(.int .u64),AV,tTx,AW]⟩),
  ([1,3,1,4,1,0,1],⟨[1],[],[],[],[.g (.l 1),.g (.l 2),.g (.l 3),.g (.l 4),.g (.l 5),.g (.l 6),.g (.l 7),.g (.l 8),.g (.l 9)],[(.int .u64),AV,tTx,AW]⟩),
  ([1,0,1,1,1,1,1,2,1,3,1,4,1,0,1],⟨[1,13],[(15,.d (.int .i64))],[],[],[.g (.l 1),.g (.l 2),.g (.l 3),.g (.l 4),.g (.l 5),.g (.l 6),.g (.l 7),.g (.l 8),.g (.l 9)],[(.int .u64),AV,tTx,AW]⟩),
  ([9],⟨[],[(10,.d (.int .i64))],[],[],[.g (.l 1),.g (.l 2),.g (.l 3),.g (.l 4),.g (.l 5),.g (.l 6),.g (.l 7),.g (.l 8),.g (.l 9)],[(.int .u64),AV,tTx,AW]⟩)])] (fun _ _ _=>jY)
section
variable {R:Type} {N:Nat}
theorem Nq (p b0 ya b2 b3 b4 b5 b6 b7 b8 b9 b10 b11 b12 b13:C) (m:Es) (k:KD R):OZ N p b0 ya b2 b3 b4 b5 b6 b7 b8 b9 b10 b11 b12 b13 m k=k [.int (ofP m p ya.toInt)] []:=by rw[kJ];unfold YP;simp only[of_eq,AF,Ae,Af,if_true,AB]
def Qi (c side:C) (kind v:Int):Int:=if((c.get 1).toInt=side.toInt)=(kind=3)then 0 else if v=(if kind=4 then 2 else 1)then 0 else 30
theorem tD (m:Es) (c:C) (h:Int):ofP m c h=0\/ofP m c h=1\/ofP m c h=2:=by unfold ofP;split;{exact .inr (.inl rfl)};{split;{exact .inr (.inr rfl)};{exact .inl rfl}}
end
section
variable {R:Type} {N:Nat}
abbrev W32:=BitVec 32
def wI (x:W32):C:=.int (x.toNat:Int)
theorem HX (x:W32):(wI x).toInt=(x.toNat:Int):=rfl
theorem wrap_u32 (x:Int):IntKind.u32.wrap x=x%4294967296:=by simp[ar,ny,lr]
theorem DK (x:W32):x.toNat<4294967296:=x.isLt
theorem Pg (x:W32):dx 32 (x.toNat:Int)=x:=by rw[BitVec.ofInt_natCast,BitVec.ofNat_toNat,BitVec.setWidth_eq]
theorem gS (x:W32):IntKind.u32.wrap (x.toNat:Int)=(x.toNat:Int):=by rw[wrap_u32];have:=DK x;omega
theorem XT (x y:W32):BV ui ct (x.toNat:Int) (y.toNat:Int)=((x|||y).toNat:Int):=by show IntKind.u32.wrap (((dx 32 (x.toNat:Int))|||(dx 32 (y.toNat:Int))).toNat:Int)=_;rw[Pg,Pg];exact gS _
theorem z7 (x y:W32):BV fi ct (x.toNat:Int) (y.toNat:Int)=((x&&&y).toNat:Int):=by show IntKind.u32.wrap (((dx 32 (x.toNat:Int))&&&(dx 32 (y.toNat:Int))).toNat:Int)=_;rw[Pg,Pg];exact gS _
theorem XU (x y:W32):BV dz ct (x.toNat:Int) (y.toNat:Int)=((x^^^y).toNat:Int):=by show IntKind.u32.wrap (((dx 32 (x.toNat:Int))^^^(dx 32 (y.toNat:Int))).toNat:Int)=_;rw[Pg,Pg];exact gS _
theorem XS (x y:W32):IntKind.u32.wrap ((x.toNat:Int)+(y.toNat:Int))=((x+y).toNat:Int):=by rw[wrap_u32,BitVec.toNat_add];omega
theorem z8 (x:W32) (k:Nat):IntKind.u32.wrap ((x.toNat:Int)*2^k)=((x <<< k).toNat:Int):=by
 rw[wrap_u32,ta,wm];have:((x.toNat*2^k:Nat):Int)=(x.toNat:Int)*2^k:=by simp
 omega
theorem z9 (x:W32) (k:Nat):jv (x.toNat:Int) (2^k)=((x >>> k).toNat:Int):=by rw[mh,mr,Int.fdiv_eq_ediv_of_nonneg _ (Int.pow_nonneg (by omega))];simp
def GA (x:W32) (k:Nat):W32:=x <<< (32-k)|||x >>> k
theorem eD (x:W32) (a:Int) (s:Nat) (hs:BV fi ay (ar ay a) 31=((32-s:Nat):Int)) (h0:0<s) (h1:s<=32) (k:KD R):
  Lc N (wI x) (.int a) k=k [wI (GA x s)] []:=by
 have e1:IntKind.u64.wrap (32-((32-s:Nat):Int))=(s:Int):=by rw[wrap_u64 (by omega) (by omega)];omega
 have e2:min (32-s) 32=32-s:=by omega
 have e3:min s 32=s:=by omega
 rw[aO];unfold Va;simp only[AG,HX,hs,e1,bb,e2,e3,z8,z9,XT,bz,if_true,AB];rfl
def TW (x:W32) (a b c:Nat) (f:Bool):W32:=GA x a^^^GA x b^^^(if f then x >>> c else GA x c)
theorem XF (x:W32) (a b c:Nat) (f:Bool) (ha:0<a/\a<=31) (hb:0<b/\b<=31) (hc:0<c/\c<=31) (k:KD R):
  Hu N (wI x) (.int a) (.int b) (.int c) (.bool f) k=k [wI (TW x a b c f)] []:=by
 have key:∀s:Nat,0<s/\s<=31->BV fi ay (ar ay (ar ba (0-(s:Int)))) 31=((32-s:Nat):Int):=by
  intro s hs;have:∀s:Fin 32,0<s.val->BV fi ay (ar ay (ar ba (0-(s.val:Int)))) 31=((32-s.val:Nat):Int):=by decide
  exact this ⟨s,by omega⟩ hs.1
 have ra:=fun k:KD R=>eD (N:=N) x (ar ba (0-(a:Int))) a (key a ha) ha.1 (by omega) k;have rb:=fun k:KD R=>eD (N:=N) x (ar ba (0-(b:Int))) b (key b hb) hb.1 (by omega) k;have rc:=fun k:KD R=>eD (N:=N) x (ar ba (0-(c:Int))) c (key c hc) hc.1 (by omega) k;have e3:min c 32=c:=by omega
 rw[Vl];unfold SH;cases f;{simp only[AR,AF,AH,AJ,AL,AG,AX,ra,rb,rc,cond_false,HX,XU,AB];rfl};{simp only[AR,AF,AH,AJ,AL,AG,AX,ra,rb,rc,AE,HX,bz,bb,e3,z9,XU,AB];rfl}
def JK (b:List C):W32:=b.foldl (fun n c=>n <<< 8|||dx 32 c.toInt) 0
end
def Lr {R:Type} (N:Nat) (k2:KD R):KD R->KD R:=fun k3 J m1=>(bif decide (aq (U J 4)<aq (U J 1))then(k3 [U J 0,U J 1,de (dg (U J 2)),bc (ar ay (aq (U J 3)*2)),bc (ar ba (aq (U J 4)+1))] [])else(k2 [U J 0,de (dg (U J 2)),U J 3] []))
def Sk (a0 a1 a2:C) (k1:KD R):Option R:=jn (fun J m1=>(bif dg (U J 1)then(if aq (U J 2)≠0 then(if aq (U J 2)≠0 then(if aq (U J 2)≠0 then(k1 [bc (ar ay (ar ay (fc (aq (U J 0)) (aq (U J 2)))+ar ay (bn (aq (U J 0)) (aq (U J 2))*ar ay (fc 4294967296 (aq (U J 2))))))] [])else none)else none)else none)else(if aq (U J 2)≠0 then(k1 [bc (ar ay (fc (aq (U J 0)) (aq (U J 2))))] [])else none))) (fun k2=>(BR N (Lr N k2) [a0,a1,de (dg a2),bc 1,bc 0] []))
def Df:=lid "" (@Sk R N)
theorem WW {R N a0 a1 a2 k}:@Df R N a0 a1 a2 k=Sk N a0 a1 a2 k:=by unfold Df;rw[BQ]
def q6O:OvG R:=Bq [.int .u64,.int .i64,.bool] (Kx (Df N)) (DM (bm ay))
theorem q6P:okX 157 (@q6O R N):=CV BT N [] [(157,[([1,0,1,1],(Cz [0,2] [(7,.d (.int .u64))])),
  ([4,1,0,1,1],(Cz [0,1,2] [(7,.d (.int .u64)),(8,.d (.int .i64))])),
  ([9],(Ct [(6,.d (.int .u64))]))])] (fun _ _=>WW)
section
variable {R:Type} {N:Nat}
theorem q8m (x:W32) (n:Nat) (h1:n<=32):(GA x n).toNat=x.toNat / 2^n+x.toNat%2^n*2^(32-n):=by
 have hx:=DK x;have hb:x.toNat / 2^n<2^(32-n):=by rw[Nat.div_lt_iff_lt_mul (xf n),<-vm,show 32-n+n=32 by omega];exact hx
 have hm:x.toNat*2^(32-n)%4294967296=x.toNat%2^n*2^(32-n):=by rw[show(4294967296:Nat)=2^n*2^(32-n) by rw[<-vm,show n+(32-n)=32 by omega]];exact Nat.mul_mod_mul_right _ _ _
 unfold GA;rw[BitVec.toNat_or,ta,mh,wm,mr];rw[show(2:Nat)^32=4294967296 by decide,hm,Nat.mul_comm (x.toNat%2^n)];rw[<-Nat.two_pow_add_eq_or_of_lt hb];omega
theorem IW (x:W32) (n:Nat) (h0:0<n) (h1:n<=31) (f:Bool) (hN:100<N) (k:KD R):Df N (wI x) (.int n) (.bool f) k=k [wI (if f then GA x n else x >>> n)] []:=by
 have lp:∀K:KD R,BR N (Lr N K) [wI x,.int n,.bool f,.int 1,.int 0] []=K [wI x,.bool f,.int ((2^n:Nat):Int)] []:=fun K=>by
  refine Ee (F:=Lr N K) (fun i=>[wI x,.int n,.bool f,.int ((2^i:Nat):Int),.int i]) (fun _=>[]) n _ ?_ ?_ (N:=N) (by omega)
  ·intro i hi rec;have e1:(i:Int)<(n:Int):=by omega
   have e2:2^i<=2^31:=Nat.pow_le_pow_right (by omega) (by omega);have e3:IntKind.u64.wrap (((2^i:Nat):Int)*2)=((2^(i+1):Nat):Int):=by rw[Nat.pow_succ];obtain⟨q,hq⟩:∃q:Nat,2^i=q:=⟨_,rfl⟩;rw[hq]at e2 ⊢;rw[wrap_u64 (by omega) (by omega)];omega
   unfold Lr;simp only[AF,AH,AJ,AL,AQ,AG,AX,e1,e3,AE,Bp (show i<4611686018427387904 by omega),AB]
  ·intro rec;unfold Lr;simp only[AF,AH,AJ,AL,AQ,AG,AX,eg,AE,AB]
 have hx:=DK x;obtain⟨p,hp⟩:∃p:Nat,2^n=p:=⟨_,rfl⟩;obtain⟨r,hr⟩:∃r:Nat,2^(32-n)=r:=⟨_,rfl⟩;have hp1:0<p:=by rw[<-hp];exact xf n
 have hpr:4294967296=p*r:=by rw[<-hp,<-hr,<-vm,show n+(32-n)=32 by omega]
 have td:∀a:Nat,fc (a:Int) (p:Int)=((a / p:Nat):Int):=fun a=>by rw[Int.tdiv_eq_ediv_of_nonneg (by omega)];omega
 have tm:bn (x.toNat:Int) (p:Int)=((x.toNat%p:Nat):Int):=by rw[Int.tmod_eq_emod_of_nonneg (by omega)];omega
 have t2:fc 4294967296 (p:Int)=(r:Int):=by have:=td 4294967296;rw[show(4294967296 / p:Nat)=r by rw[hpr];exact Nat.mul_div_cancel_left r hp1]at this;exact this
 have hr31:r<=4294967296:=by rw[hpr];exact Nat.le_mul_of_pos_left r hp1
 have z8f:x.toNat%p<p:=Nat.mod_lt _ hp1;have y0i:x.toNat%p*r<=4294967296:=by rw[hpr];exact Nat.mul_le_mul_right r (by omega)
 have hdiv:x.toNat / p<=x.toNat:=Nat.div_le_self _ _;have hne:((p:Nat):Int)≠0:=by omega
 have rot:=q8m x n (by omega);rw[hp,hr]at rot;rw[WW];unfold Sk;simp only[AR,AX,AB];rw[lp];cases f
 ·simp only[AF,AH,AJ,AX,AG,HX,hp,td,cond_false,AB];refine(if_pos hne).trans ?_;have e:IntKind.u64.wrap ((x.toNat / p:Nat):Int)=((x.toNat / p:Nat):Int):=wrap_u64 (bz _) (by generalize x.toNat / p=d at hdiv ⊢;omega);have e2:(x >>> n).toNat=x.toNat / p:=by rw[mh,mr,hp]
  rw[e];show k [.int ((x.toNat / p:Nat):Int)] []=k [.int ((x >>> n).toNat:Int)] [];rw[e2]
 ·simp only[AF,AH,AJ,AX,AG,HX,hp,td,tm,t2,cond_true,AB];refine(if_pos hne).trans ?_;refine(if_pos hne).trans ?_;refine(if_pos hne).trans ?_;have e:IntKind.u64.wrap ((x.toNat / p:Nat):Int)=((x.toNat / p:Nat):Int):=wrap_u64 (bz _) (by generalize x.toNat / p=d at hdiv ⊢;omega);have e3:IntKind.u64.wrap (r:Int)=(r:Int):=wrap_u64 (by omega) (by omega);have e4:IntKind.u64.wrap (((x.toNat%p:Nat):Int)*(r:Int))=((x.toNat%p*r:Nat):Int):=by rw[wrap_u64 (Int.mul_nonneg (by omega) (by omega)) (by rw[<-Int.natCast_mul];omega)];simp
  have e5:IntKind.u64.wrap (((x.toNat / p:Nat):Int)+((x.toNat%p*r:Nat):Int))=((GA x n).toNat:Int):=by rw[rot];generalize x.toNat / p=d at hdiv rot ⊢;generalize x.toNat%p*r=q at y0i rot ⊢;rw[wrap_u64 (by omega) (by omega)];simp
  rw[e,e3,e4,e5];rfl
end
end Go.Proofs.YteealakhniofoaaGreatDoor
