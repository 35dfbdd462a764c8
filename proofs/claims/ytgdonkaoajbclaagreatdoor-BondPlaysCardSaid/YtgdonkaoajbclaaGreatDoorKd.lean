/-
 What the functions on the way compute, part 4.
 Conditions: none.
-/
import Derived.Test.YtgdonkaoajbclaaGreatDoorKc
set_option linter.all false
noncomputable section
set_option maxRecDepth 100000
set_option maxHeartbeats 4000000
open BitVec renaming ofInt->dv
open Bool renaming false_and->jr
open Go.E.C renaming agg->dj,beq->na,bool->cg,elems->au,get->bc,int->az,nil->dw,set->db,slice->bj,toBool->cz,toInt->ao
open Go.E.Ty renaming arr->ct,int->br
open Go.E.V renaming tup->ow
open Go.IntKind renaming bits->jk,i64->aw,signed->iw,u32->cm,u64->ay,u8->bt,wrap->ar
open Int renaming fdiv->fx,fdiv_eq_ediv_of_nonneg->ic,lt_irrefl->fb,natCast_nonneg->bu,tdiv->dz,tdiv_eq_ediv_of_nonneg->ek,tmod->bq,tmod_eq_emod_of_nonneg->dp,toNat->av,toNat_natCast->bh
open List renaming drop->dc,eq_of_mem_replicate->ij,getD->bp,getElem?_eq_some_iff->bz,length->aq,length_append->bx,length_cons->cn,length_nil->df,mem_append->dy,mem_cons->gr,mem_of_getElem?->fg,mem_or_eq_of_mem_set->sq,mem_singleton->ft,not_mem_nil->jd,replicate->bf,take->cr,take_length->ir
open Nat renaming beq->bo,beq_refl->bw,zero_add->cq
open Sum.inl renaming injEq->wi
namespace Go.Proofs.YtgdonkaoajbclaaGreatDoor
open Go Go.E
variable {R:Type} (N:Nat)
section
variable {R:Type} {N:Nat}
theorem X6 (hN:10<N) (k:KD R):Ta N (.int 2) k=k [.int 4] []:=by
 rw[H9];unfold jP;rw[AQ];refine Dd (F:=H8 N fun d1 m1=>k [dk d1 0] []) (fun i=>[.int 2,.int ((2^i:Nat):Int),.int i]) (fun _=>[]) 2 (k [.int 4] []) ?_ ?_ (N:=N) (by omega)
 ·intro i hi rec;rcases(by omega:i=0\/i=1)with rfl|rfl <;> rfl
 ·intro rec;rfl
structure StW (s:C):Prop where
 ch:W64 (s.get 0).toInt
 rd:W64 (s.get 1).toInt
 p0:W64 ((s.get 2).get 0).toInt
 p1:W64 ((s.get 2).get 1).toInt
 q0:W64 ((s.get 3).get 0).toInt
 q1:W64 ((s.get 3).get 1).toInt
 cs:∀c∈(s.get 4).elems,QP c
 ln:(s.get 4).elems.length<=12
section
variable {t:C} (hOf:∀(p:List C),p.length<=200000->∃c,Dig c/\∀k:KD R,LQ N t (.slice p) k=k [c] [])
include hOf
end
end
def lT (a0 a1:C) (k1:KD R):Option R:=Jy N (az 3) (bj [bj (cut (au a0) 0 32),bj (cut (au a1) 0 32)]) (fun d1 m1=>(k1 [dk d1 0] []))
def UR:=lid "" (@lT R N)
theorem q03 {R N a0 a1 k}:@UR R N a0 a1 k=lT N a0 a1 k:=by unfold UR;rw[AV]
def z28:OvG R:=Ae [.arr 32 (.int .u8),.arr 32 (.int .u8)] (Bq (UR N)) (BD (ct 32 (br bt)))
theorem z29:okX 136 (@z28 R N):=Ai (AH (SK N) <| AW) N [(136,[(0,[(2,5),(3,5)]),(1,[(8,7)])])] [(136,[([9],⟨[],[(4,.as (.ptr (.l 4) [] (.arr 32 (.int .u8))))],[],[(.l 4,.box (.d (.arr 32 (.int .u8))))],[],[]⟩)])] (fun _ _=>q03)
def YI (k2:KD R):KD R->KD R:=fun k3 d3 m3=>(bif decide (ao (dk d3 4)<ao (dk d3 2))then(if 0<=ao (dk d3 4)/\ao (dk d3 4)<(↑(aq (au (dk d3 1))):Int)then(jn (fun d4 m4=>(UR N (dk d4 5) (dk d4 6) (fun d5 m5=>(k3 [dk d4 0,dk d4 2,dk d4 3,az (fx (ao (dk d4 1)) (2^min (av 1) 32)),az (ar aw (ao (dk d4 4)+1)),dk d5 0] [])))) (fun k4=>(bif decide (Aj BinOp.and cm (ao (dk d3 3)) 1=1)then(k4 [dk d3 0,dk d3 3,dk d3 1,dk d3 2,dk d3 4,bp (au (dk d3 1)) (av (ao (dk d3 4))) dw,dk d3 5] [])else(k4 [dk d3 0,dk d3 3,dk d3 1,dk d3 2,dk d3 4,dk d3 5,bp (au (dk d3 1)) (av (ao (dk d3 4))) dw] []))))else none)else(k2 [dk d3 0,dk d3 5] []))
def lS (a0 a1 a2 a3 a4:C) (k1:KD R):Option R:=jn (fun d1 m1=>(bif cz (dk d1 4)then(k1 [cg false] [])else(Ri N (bc (dk d1 1) 0) (dk d1 3) (fun d2 m2=>(jn (fun d3 m3=>(k1 [cg (na (dk d3 1) (dk d3 0))] [])) (fun k2=>(Ac N (YI N k2) [dk d1 2,bc (dk d1 1) 2,az (↑(aq (au (bc (dk d1 1) 2))):Int),dk d1 0,az 0,dk d2 0] []))))))) (fun k2=>(bif decide (ao a2<0)then(k2 [a3,a0,a1,a4,cg true] [])else(bif !decide ((↑(aq (au (bc a0 2))):Int)=ao a2)then(k2 [a3,a0,a1,a4,cg true] [])else(bif !decide (ao (bc a0 1)=ao a3)then(k2 [a3,a0,a1,a4,cg true] [])else(bif decide (ao a2<32)then(if 0<=ao a2 then(k2 [a3,a0,a1,a4,cg !decide (fx (ao a3) (2^min (av (ao a2)) 32)=0)] [])else none)else(k2 [a3,a0,a1,a4,cg false] []))))))
def UQ:=lid "" (@lS R N)
theorem q02 {R N a0 a1 a2 a3 a4 k}:@UQ R N a0 a1 a2 a3 a4 k=lS N a0 a1 a2 a3 a4 k:=by unfold UQ;rw[AV]
def z26:OvG R:=Ae [Ca,.arr 32 (.int .u8),.int .i64,.int .u32,.arr 32 (.int .u8)] (fun a=>UQ N (a 0) (a 1) (a 2) (a 3) (a 4)) Gz
theorem z27:okX 112 (@z26 R N):=Ai (AH (q7p N) <| AH (z29 N) <| AW) N [(112,[(0,[(5,5),(6,5),(9,5)])])] [(112,[([0,0,1],(AX [3,5,6,9] [(39,.d .bool)])),
  ([1,0,1,1,1],(AX [6,11] [])),
  ([4,1,0,1,1,1],(AX [6,11,46,47] [(12,.d (.int .u32)),(48,.d (.int .i64))])),
  ([1,0,1,4,0,1,1,5,4,1,0,1,1,1],(AX [6,11,12,14,46,47,48] [])),
  ([9],(Af [(10,.d .bool)]))])] (fun _ _=>q02)
def Xo (k2:KD R):KD R->KD R:=fun k3 d3 m3=>(bif decide (ao (dk d3 4)<(↑(aq (au (bc (dk d3 1) 2))):Int))then(jn (fun d4 m4=>(k3 [dk d4 0,dk d4 1,dk d4 2,az (ar ay (dz (ao (dk d4 3)) 2)),az (ar aw (ao (dk d4 4)+1)),dk d4 5] [])) (fun k4=>(bif decide (bq (ao (dk d3 3)) 2=0)then(if 0<=ao (dk d3 4)/\ao (dk d3 4)<(↑(aq (au (bc (dk d3 1) 2))):Int)then(Gi N (dk d3 0) (az 3) (bj [bj (cr 32 (dc 0 (au (dk d3 5)))),bj (cut (au (bp (au (bc (dk d3 1) 2)) (av (ao (dk d3 4))) dw)) 0 32)]) (fun d4 m4=>(k4 [dk d3 0,dk d3 1,dk d3 2,dk d3 3,dk d3 4,dk d4 0] [])))else none)else(if 0<=ao (dk d3 4)/\ao (dk d3 4)<(↑(aq (au (bc (dk d3 1) 2))):Int)then(Gi N (dk d3 0) (az 3) (bj [bj (cut (au (bp (au (bc (dk d3 1) 2)) (av (ao (dk d3 4))) dw)) 0 32),bj (cr 32 (dc 0 (au (dk d3 5))))]) (fun d4 m4=>(k4 [dk d3 0,dk d3 1,dk d3 2,dk d3 3,dk d3 4,dk d4 0] [])))else none))))else(k2 [dk d3 2,dk d3 3,dk d3 5] []))
def jS (a0 a1 a2 a3 a4 a5:C) (k1:KD R):Option R:=jn (fun d1 m1=>(bif cz (dk d1 5)then(k1 [cg false] [])else(TW N (dk d1 1) (bc (dk d1 2) 0) (dk d1 4) (fun d2 m2=>(jn (fun d3 m3=>(jn (fun d4 m4=>(k1 [cg (cz (dk d4 0))] [])) (fun k2=>(bif decide (ao (dk d3 1)=0)then(k2 [cg (na (dk d3 2) (dk d3 0))] [])else(k2 [cg false] []))))) (fun k2=>(Ac N (Xo N k2) [dk d1 1,dk d1 2,dk d1 3,az (ar ay (ao (dk d1 0))),az 0,dk d2 0] []))))))) (fun k2=>(bif decide (ao a3<0)then(k2 [a4,a0,a1,a2,a5,cg true] [])else(bif !decide ((↑(aq (au (bc a1 2))):Int)=ao a3)then(k2 [a4,a0,a1,a2,a5,cg true] [])else(k2 [a4,a0,a1,a2,a5,cg !decide (ao (bc a1 1)=ao a4)] []))))
def Pl:=lid "" (@jS R N)
theorem F2 {R N a0 a1 a2 a3 a4 a5 k}:@Pl R N a0 a1 a2 a3 a4 a5 k=jS N a0 a1 a2 a3 a4 a5 k:=by unfold Pl;rw[AV]
def z1F:OvG R:=Ae [Bo,Ca,.arr 32 (.int .u8),.int .i64,.int .u32,.arr 32 (.int .u8)] (fun a=>Pl N (a 0) (a 1) (a 2) (a 3) (a 4) (a 5)) Gz
theorem z1G:okX 140 (@z1F R N):=Ai (AH (Mn N) <| AH (z1s N) <| AW) N [(140,[(0,[(6,5),(7,5),(8,5),(11,5)]),(9,[(55,20),(56,8)]),(10,[(64,20),(65,8)])])] [(140,[([0,0,1],(AX [4,6,7,8,11] [(30,.d .bool)])),
  ([1,0,1,1,1,1],(AX [8,14] [(13,.d (.int .u64))])),
  ([4,1,0,1,1,1,1],(AX [6,7,8,14] [(13,.d (.int .u64)),(15,.d (.int .i64))])),
  ([1,0,4,0,1,5,4,1,0,1,1,1,1],(AX [6,7,8,13,14,15] [])),
  ([0,1,1,1,1,1],(Af [(12,.d .bool)])),
  ([9],(Af [(12,.d .bool)]))])] (fun _ _=>F2)
def WV {R:Type} (N:Nat) (k2:KD R):KD R->KD R:=fun k3 d2 m2=>(bif decide (ao (dk d2 2)<ao (dk d2 1))then(if 0<=ao (dk d2 2)/\ao (dk d2 2)<(↑(aq (au (dk d2 0))):Int)then(bif bo (aq (au (dk d2 5))) (aq (au (dk d2 5)))then(if(aq (au (dk d2 5))+1)*32<=140737488355328/\aq (au (dk d2 5))+1<=9223372036854775807 then(bif bo (aq (au (dk d2 5))+1) (aq (au (dk d2 5)++[bp (au (dk d2 0)) (av (ao (dk d2 2))) dw]))then(k3 [dk d2 0,dk d2 1,az (ar aw (ao (dk d2 2)+1)),dk d2 3,dk d2 4,bj (au (dk d2 5)++[bp (au (dk d2 0)) (av (ao (dk d2 2))) dw]),dk d2 6] [])else none)else none)else none)else none)else(k2 [dk d2 3,dk d2 4,bj (au (dk d2 5)),dk d2 6] []))
def dK (a0:C) (k1:KD R):Option R:=Rn N (bc a0 0) (fun d1 m1=>(jn (fun d2 m2=>(k1 [dj [dk d2 0,dk d2 1,bj (au (dk d2 2))]] [])) (fun k2=>(Ac N (WV N k2) [bc a0 2,az (↑(aq (au (bc a0 2))):Int),az 0,dk d1 0,bc a0 1,bj [],dj [dj [dj (bf 32 (dj (bf 16 (az 0)))),dj (bf 32 (dj (bf 16 (az 0))))],AI (br cm),bj []]] []))))
def Oe:=lid "" (@dK R N)
theorem xF {R N a0 k}:@Oe R N a0 k=dK N a0 k:=by unfold Oe;rw[AV]
def q7z:OvG R:=Ae [Ca] (Bw (Oe N)) (BD Ca)
theorem q7A:okX 43 (@q7z R N):=Ai (AH (q7y N) <| AW) N [(43,[(0,[(1,5)]),(1,[(8,7)])])] [(43,[([1,0,1,1],⟨[2,3],[],[],[(.l 3,.box (.agg Ca [.d GU,.d (.int .u32),(.ts 32 (.arr 32 (.int .u8)))]))],[],[]⟩),
  ([4,1,0,1,1],⟨[2,3,13,14],[(15,.d (.int .i64))],[],[(.l 3,.box (.agg Ca [.d GU,.d (.int .u32),(.ts 32 (.arr 32 (.int .u8)))]))],[],[]⟩),
  ([9],⟨[],[(2,.as (.ptr (.l 2) [] Ca))],[],[(.l 2,.box (.d Ca))],[],[]⟩)])] (fun _ _=>xF)
def q4H:List Sh:=[.ts 1 (.int .u8),.d Bi]
def q4K:List (Key × OSh):=[]
def Va (k2:KD R):KD R->KD R:=fun k3 d4 m4=>(bif decide (ao (dk d4 3)<ao (dk d4 1))then(if 0<=ao (dk d4 3)/\ao (dk d4 3)<(↑(aq (au (dk d4 0))):Int)then(bif bo (aq (au (dk d4 2))) (aq (au (dk d4 2)))then(Qs N (bj (au (dk d4 2))) (bp (au (dk d4 0)) (av (ao (dk d4 3))) dw) (fun d5 m5=>(bif bo (aq (au (dk d5 0))) (aq (au (dk d5 0)))then(k3 [dk d4 0,dk d4 1,bj (au (dk d5 0)),az (ar aw (ao (dk d4 3)+1))] [])else none)))else none)else none)else(bif bo (aq (au (dk d4 2))) (aq (au (dk d4 2)))then(k2 [bj (au (dk d4 2))] [])else none))
def aL (a0 a1:C) (k1:KD R):Option R:=bif bo (aq (au a0)) (aq (au a0))then(LJ N (bj (au a0)) (bj [bc a1 0]) (fun d1 m1=>(bif bo (aq (au (dk d1 0))) (aq (au (dk d1 0)))then(KF N (bj (au (dk d1 0))) (bj [bc a1 1,bc (bc a1 2) (av 0),bc (bc a1 2) (av 1),bc (bc a1 3) (av 0),bc (bc a1 3) (av 1)]) (fun d2 m2=>(bif bo (aq (au (dk d2 0))) (aq (au (dk d2 0)))then(Mj N (bj (au (dk d2 0))) (bj [az (ar bt (↑(aq (au (bc a1 4))):Int))]) (fun d3 m3=>(jn (fun d4 m4=>(bif bo (aq (au (dk d4 0))) (aq (au (dk d4 0)))then(k1 [bj (au (dk d4 0))] [])else none)) (fun k2=>(bif bo (aq (au (dk d3 0))) (aq (au (dk d3 0)))then(Ac N (Va N k2) [bc a1 4,az (↑(aq (au (bc a1 4))):Int),bj (au (dk d3 0)),az 0] [])else none)))))else none)))else none)))else none
def Qp:=lid "" (@aL R N)
theorem rN {R N a0 a1 k}:@Qp R N a0 a1 k=aL N a0 a1 k:=by unfold Qp;rw[AV]
def q4I:OvG R:=Cc q4H q4K (fun ds ms=>Qp N (dk ds 0) (dk ds 1)) fun ds ms K d1 m1=>K (V.ts 1 (br bt) (au (dk d1 0))) []
theorem q4J:okX 138 (@q4I R N):=Cj (AH (u6 N) <| AH (u4 N) <| AH (u9 N) <| AH (q4V N) <| AW) N [(138,[(0,[(3,5)]),(1,[(11,1),(27,1),(33,1)]),(5,[(43,1)])])] [(138,[([1,0,1,1],(Af [(0,.sl 1 (.int .u8) 5000)])),
  ([4,1,0,1,1],(AX [35,36] [(0,.sl 1 (.int .u8) 5000),(37,.d (.int .i64))])),
  ([9],(Af [(4,.sl 1 (.int .u8) 5004)]))])] (fun _ _ _=>rN) fun ds ms K=>(show _=jn (fun d1 m1=>(bif bo (aq (au (dk d1 0))) (aq (au (dk d1 0)))then
  (K (V.ts 1 (br bt) (au (dk d1 0))) [])
 else
  none)) _ by kernel_rfl).trans (congrArg (fun k=>jn k _) (funext fun _=>funext fun _=>by simp only[bw,cond_true]))
def aQ (a0:C) (k1:KD R):Option R:=LJ N (bj []) (bj [bc a0 0]) (fun d1 m1=>(Qp N (bj []) a0 (fun d2 m2=>(Jy N (az 4) (bj [bj (au (dk d1 0)),bj (au (dk d2 0))]) (fun d3 m3=>(k1 [dk d3 0] []))))))
def Qq:=lid "" (@aQ R N)
theorem rQ {R N a0 k}:@Qq R N a0 k=aQ N a0 k:=by unfold Qq;rw[AV]
def q4P:OvG R:=Ae [Bi] (Bw (Qq N)) (BD (ct 32 (br bt)))
theorem q4Q:okX 114 (@q4P R N):=Ai (AH (SK N) <| AH (u6 N) <| AH (q4J N) <| AW) N [(114,[(0,[(1,5)]),(1,[(7,1),(9,1),(11,7)])])] [(114,[([9],⟨[],[(2,.as (.ptr (.l 2) [] (.arr 32 (.int .u8))))],[],[(.l 2,.box (.d (.arr 32 (.int .u8))))],[],[]⟩)])] (fun _ _=>rQ)
section
variable {R:Type} {N:Nat}
theorem q12:BO (.int 3):=⟨rfl,by decide,by decide⟩
theorem uX:BO (.int 4):=⟨rfl,by decide,by decide⟩
theorem XU (B:Nat) (l m:List C) (h:∀c∈l,BO c) (h2:∀c∈m,BO c) (hl:l.length<=B) (hm:m.length<=B):Hc B [bj l,bj m]:=fun x hx=>by
 simp only[gr,jd,or_false]at hx;rcases hx with rfl|rfl
 ·exact⟨rfl,by simpa[AJ]using h,by rw[AJ];omega⟩
 ·exact⟨rfl,by simpa[AJ]using h2,by rw[AJ];omega⟩
theorem Ov (d:C) (l m:List C):(CH d [bj l,bj m]).length=l.length+m.length+10:=by
 unfold CH CY;simp[JD,AJ];omega
theorem q9o {d:C} {l:List C} {B:Nat} (hd:BO d) (hb:Hc B l):∀c∈CH d l,BO c:=by
 intro c hc;unfold CH at hc;rcases dy.1 hc with hc|hc
 ·simp only[gr,jd,or_false]at hc;rcases hc with rfl|rfl
  ·exact hd
  ·exact Nl _
 ·obtain⟨x,hx,hc⟩:=List.mem_flatMap.1 hc;unfold CY at hc;rcases dy.1 hc with hc|hc
  ·exact Ng _ c hc
  ·exact(hb x hx).2.1 c hc
theorem Qn {p:C} (h:Ao 32 p):cut (au p) 0 32=au p:=(Sw 32 32 (by omega) p h).2
theorem q10 (l:List C):cr 32 (dc 0 l)=cut l 0 32:=rfl
def Lq (a b:C):C:=HZ (CH (.int 3) [.slice a.elems,.slice b.elems])
theorem oG (a b:C) (ha:Ao 32 a) (hb:Ao 32 b) (hN:5000<N) (hN2:N<4611686018427387904) (k:KD R):UR N a b k=k [Lq a b] []:=by
 obtain⟨a1,_,a2⟩:=FI ha;obtain⟨b1,_,b2⟩:=FI hb;have:=QR (R:=R) (N:=N) (.int 3) q12 [bj a.elems,bj b.elems] 100 (XU 100 _ _ a2 b2 (by omega) (by omega)) (by simp;omega) (by omega) hN2 (by rw[Ov];omega);rw[q03];unfold lT;simp only[Qn ha,Qn hb,this,AF];rfl
theorem iL (T:C) (hT:Cz T) (a b:C) (ha:Ao 32 a) (hb:Ao 32 b) (hN:5000<N) (k:KD R):Gi N T (.int 3) (.slice [.slice (cut (au a) 0 32),.slice (cut (au b) 0 32)]) k=k [Lq a b] []:=by
 obtain⟨a1,_,a2⟩:=FI ha;obtain⟨b1,_,b2⟩:=FI hb;rw[Qn ha,Qn hb];exact QQ (R:=R) (N:=N) T hT (.int 3) q12 [bj a.elems,bj b.elems] 100 (XU 100 _ _ a2 b2 (by omega) (by omega)) (by omega) (by simp) (by rw[Ov];omega) (by rw[Ov];simp;omega) k
theorem q3a (x:Int) (h0:0<=x) (h:x<4294967296):Aj BinOp.and cm x 1=x%2:=by
 have e:(dv 32 x&&&dv 32 1).toNat=x.toNat%2:=by
  rw[BitVec.toNat_and,show(dv 32 1).toNat=1 from rfl,Nat.and_one_is_mod,BitVec.toNat_ofInt];omega
 show IntKind.u32.wrap ((dv 32 x&&&dv 32 1).toNat:Int)=_;rw[e];have:∀n:Int,IntKind.u32.wrap n=n%4294967296:=fun n=>by simp[ar,jk,iw]
 rw[this];omega
structure JB (x:C):Prop where
 eta:x= .agg [x.get 0,.int (x.get 1).toInt,.slice (x.get 2).elems]
 z6F:JA (x.get 0)
 key:0<=(x.get 1).toInt/\(x.get 1).toInt<4294967296
 way:∀y∈(x.get 2).elems,Ao 32 y
 len:(x.get 2).elems.length<=10
def upF (_:Nat) (s:C × Int) (y:C):(C × Int) ⊕ Unit:=.inl (if s.2%2=1 then Lq y s.1 else Lq s.1 y,s.2 / 2)
def upG (s:C × Int):List C->C × Int
 | []=>s
 |y::l=>upG (if s.2%2=1 then Lq y s.1 else Lq s.1 y,s.2 / 2) l
theorem nJ:∀(l:List C) (i:Nat) (s:C × Int),BG upF i s l= .inl (upG s l)
 | [],_,_=>rfl
 |y::l,i,s=>by simp only[BG,upF];exact nJ l _ _
theorem q2h:∀(l:List C) (s:C × Int),(upG s l).2=s.2 / 2^l.length
 | [],s=>by simp[upG]
 |y::l,s=>by
  simp only[upG];rw[q2h l,cn,Int.pow_succ,Int.mul_comm,Int.ediv_ediv_of_nonneg (by decide)]
def Uo (s:C × Int):Prop:=Ao 32 s.1/\0<=s.2/\s.2<4294967296
theorem q2i {s s':C × Int} {y:C} {i:Nat} (h:Uo s) (e:upF i s y= .inl s'):Uo s':=by
 obtain⟨_,h1,h2⟩:=h;unfold upF at e;simp only[wi]at e;subst e;refine⟨?_,by dsimp only;omega,by dsimp only;omega⟩;dsimp only;split <;> exact KM _
def UO (sig root:C) (zf:Int) (key:Int) (d:C):Bool:=
 decide (0<=zf/\((sig.get 2).elems.length:Int)=zf/\(sig.get 1).toInt=key/\key / 2^zf.toNat=0)&&na (upG (RY (sig.get 0) d,key) (sig.get 2).elems).1 root
theorem z3R (sig root d:C) (zf key:Int) (hs:JB sig) (hd:Ao 32 d) (ht:zf<=10) (hk:0<=key/\key<4294967296) (hN:5000<N) (hN2:N<4611686018427387904) (k:KD R):
  UQ N sig root (.int zf) (.int key) d k=k [.bool (UO sig root zf key d)] []:=by
 rw[q02];unfold lS UO;by_cases z1:zf<0
 ·have z1':¬0<=zf:=by omega
  simp only[AQ,AB,z1,z1',AE,Ab,Ah,false_and,jr]
 have z1':0<=zf:=by omega
 by_cases z2:((sig.get 2).elems.length:Int)=zf
 case neg=>simp only[AQ,AB,z1,z1',z2,AE,Ab,Ah,false_and,and_false,jr]
 by_cases z3:(sig.get 1).toInt=key
 case neg=>simp only[AQ,AB,z1,z1',z2,z3,AE,Ab,Ah,false_and,and_false,jr]
 have z4:zf<32:=by omega
 have m32:min zf.toNat 32=zf.toNat:=by omega
 have fd:fx key (2^zf.toNat)=key / 2^zf.toNat:=ic _ (Int.le_of_lt (Int.pow_pos (by decide)));by_cases z5:key / 2^zf.toNat=0
 case neg=>simp only[AQ,AB,z1,z1',z2,z3,z4,m32,fd,z5,AE,Ab,Ah,false_and,and_false,jr]
 simp only[AQ,AB,z1,z1',z2,z3,z4,m32,fd,z5,AE,AF,AL,AP,AU,Ab,Ah,and_self,Bool.true_and];rw[q6n _ _ hs.z6F hd hN hN2];simp only[AF];rw[<-z2];refine(Ol (F:=YI N _) (fun i (s:C × Int)=>[root,sig.get 2,.int (sig.get 2).elems.length,.int s.2,.int i,s.1]) (fun _ _=>[]) (sig.get 2).elems upF (fun s=>k [.bool (na s.1 root)] []) (fun _=>none) (fun _ s=>Uo s) (s0:=(RY (sig.get 0) d,key)) ⟨KM _,hk⟩ ?_ ?_ (by have:=hs.len;omega)).trans ?_
 ·intro i s y hy hP;refine⟨fun rec=>?_,fun s' e=>q2i hP e⟩;obtain⟨p1,p2,p3⟩:=hP;have hi:i<(sig.get 2).elems.length:=(bz.1 hy).1;have h1:(i:Int)<((sig.get 2).elems.length:Int):=by omega
  have hl:=hs.len;have hw:=hs.way _ (fg hy);have f2:fx s.2 (2^min (av 1) 32)=s.2 / 2:=ic _ (by decide);unfold YI upF;simp only[AQ,AF,AL,AP,AU,Ab,Av,Ba,AB,h1,f2,HD hy,q3a _ p2 p3,AE,bu,and_self,bh,BM (show i<4611686018427387904 by omega)];by_cases z:s.2%2=1
  ·simp only[z,AE,AF,AL,AP,AU,Ab,Av,Ba,oG _ _ hw p1 hN hN2,AB,f2]
  ·simp only[z,AE,AF,AL,AP,AU,Ab,Av,Ba,oG _ _ p1 hw hN hN2,AB,f2]
 ·intro s _ rec;unfold YI;simp only[AQ,AF,AL,AP,AU,Ab,Av,AB,fb,AE]
 ·rw[nJ];rfl
theorem q2s (T:C) (hT:Cz T) (sig root d:C) (zf key:Int) (hs:JB sig) (hd:Ao 32 d) (ht:zf<=10) (hk:0<=key/\key<4294967296) (hN:5000<N) (k:KD R):
  Pl N T sig root (.int zf) (.int key) d k=k [.bool (UO sig root zf key d)] []:=by
 rw[F2];unfold jS UO;by_cases z1:zf<0
 ·have z1':¬0<=zf:=by omega
  simp only[AQ,AB,z1,z1',AE,Av,Ah,false_and,jr]
 have z1':0<=zf:=by omega
 by_cases z2:((sig.get 2).elems.length:Int)=zf
 case neg=>simp only[AQ,AB,z1,z1',z2,AE,Av,Ah,false_and,and_false,jr]
 by_cases z3:(sig.get 1).toInt=key
 case neg=>simp only[AQ,AB,z1,z1',z2,z3,AE,Av,Ah,false_and,and_false,jr]
 have wk:IntKind.u64.wrap key=key:=wrap_u64 (by omega) (by omega);simp only[AQ,AB,z1,z1',z2,z3,wk,AE,AF,AL,AP,AU,Ab,Av,Ah,true_and];rw[z24 T hT _ _ hs.z6F hd hN];simp only[AF];rw[<-z2];refine(Ol (F:=Xo N _) (fun i (s:C × Int)=>[T,sig,root,.int s.2,.int i,s.1]) (fun _ _=>[]) (sig.get 2).elems upF (fun s=>k [.bool (decide (s.2=0)&&na s.1 root)] []) (fun _=>none) (fun _ s=>Uo s) (s0:=(RY (sig.get 0) d,key)) ⟨KM _,hk⟩ ?_ ?_ (by have:=hs.len;omega)).trans ?_
 ·intro i s y hy hP;refine⟨fun rec=>?_,fun s' e=>q2i hP e⟩;obtain⟨p1,p2,p3⟩:=hP;have hi:i<(sig.get 2).elems.length:=(bz.1 hy).1;have h1:(i:Int)<((sig.get 2).elems.length:Int):=by omega
  have hl:=hs.len;have hw:=hs.way _ (fg hy);have f2:IntKind.u64.wrap (dz s.2 2)=s.2 / 2:=by rw[ek p2,wrap_u64 (by omega) (by omega)]
  have f3:bq s.2 2=s.2%2:=dp p2;unfold Xo upF;simp only[AQ,AF,AL,AP,AU,Ab,Av,AB,h1,f2,f3,HD hy,AE,bu,and_self,bh,BM (show i<4611686018427387904 by omega)];by_cases z:s.2%2=1
  ·have z0:¬s.2%2=0:=by omega
   simp only[z,z0,show ¬(1:Int)=0 by decide,AE,AF,AL,AP,AU,Ab,Av,q10,iL T hT _ _ hw p1 hN,AB,f2]
  ·have z0:s.2%2=0:=by omega
   simp only[z,z0,show ¬(0:Int)=1 by decide,AE,AF,AL,AP,AU,Ab,Av,q10,iL T hT _ _ p1 hw hN,AB,f2]
 ·intro s _ rec;unfold Xo;simp only[AQ,AF,AL,AP,AU,Ab,Av,AB,fb,AE];by_cases z:s.2=0 <;> simp[z]
 ·rw[nJ];show k [.bool (decide ((upG _ _).2=0)&&_)] []=_;rw[q2h,z2];have:(sig.get 2).elems.length=zf.toNat:=by omega
  rw[this]
theorem q1x (x:C) (hx:JB x) (hN:100<N) (k:KD R):Oe N x k=k [x] []:=by
 have hl:=hx.len;obtain⟨s,e,p,rfl⟩:∃s e p,x= .agg [s,e,.slice p]:=⟨_,_,_,hx.eta⟩;have hs:JA s:=hx.z6F;have hp:p.length<=10:=hl
 generalize hZ:(dj
  [dj
    [dj (bf 32 (dj (bf 16 (az 0)))),
     dj (bf 32 (dj (bf 16 (az 0))))],
   AI (br cm),bj []])=Z
 obtain⟨d,rfl,h⟩:=FO (R:=R) (F:=fun k2=>WV N k2) p.length (fun i st=>st=[.slice p,.int p.length,.int i,s,e,.slice (p.take i),Z]) (fun d=>d=[s,e,.slice p,Z])
  (fun i st hi hst=>by
   subst hst;have e1:(i:Int)<(p.length:Int):=by omega
   have g1:(i+1)*32<=140737488355328/\i+1<=9223372036854775807:=by omega
   have lt:(p.take i).length=i:=by simp;omega
   refine⟨_,rfl,fun k rec=>?_⟩;unfold WV;rw[Ld hi];simp only[AF,AL,AP,AU,Ab,Av,Ba,AB,AJ,e1,lt,g1,AE,bu,and_self,bw,bh,bx,cn,df,cq,BM (show i<4611686018427387904 by omega)])
  (fun st hst=>by
   subst hst;refine⟨_,rfl,fun k rec=>?_⟩;unfold WV;simp only[AF,AL,AP,AU,Ab,Av,Ba,AB,AJ,fb,AE,ir])
  (N:=N) (by omega) (st:=[.slice p,.int p.length,.int (0:Nat),s,e,.slice [],Z]) rfl
 rw[xF];unfold dK;simp only[AQ,EW,GI,Km,q7n s hs hN,AF,AJ,hZ];exact(h _).trans rfl
end
section
variable {R:Type} {N:Nat}
theorem v3:∀(k:Nat) (n:Int),∀c∈BK k n,BO c
 |0,_,_,h=>nomatch h
 |k+1,n,c,h=>by
  rcases dy.1 h with h|h
  ·exact v3 k _ c h
  ·rw[ft.1 h];exact⟨rfl,by show 0<=n%256;omega,by show n%256<256;omega⟩
theorem Y9 {B:Nat}:∀{l:List C},Hc B l->(l.flatMap CY).length<=l.length*(B+4)
 | [],_=>by simp
 |x::l,h=>by
  have h1:=Y9 (l:=l) fun y hy=>h y (List.mem_cons_of_mem _ hy);have h2:=(h x (List.mem_cons_self ..)).2.2;have h3:(CY x).length<=B+4:=by unfold CY;simp[JD];omega
  simp only[List.flatMap_cons,bx,cn];rw[Nat.add_mul];omega
theorem z0e:BO (.int 1):=⟨rfl,by decide,by decide⟩
section
variable {T:C} (hT:Cz T)
include hT
theorem W4 (d:C) (hd:BO d) (l:List C) (hb:Hc 1100 l) (hl:l.length<=10) (hN:20000<N):∃c,Ao 32 c/\∀k:KD R,Gi N T d (.slice l) k=k [c] []:=by
 have h1:=Y9 hb;have h2:l.length*1104<=11040:=by omega
 have h3:(CH d l).length<=12000:=by unfold CH;simp only[bx,cn,df];omega
 exact⟨_,KM _,fun k=>QQ T hT d hd l 1100 hb (by omega) (by omega) (by omega) (by omega) k⟩
theorem iJ (a1 a2 a3 a4:C) (h1:Ao 32 a1) (hN:20000<N):∃p,Ao 16 p/\∀k:KD R,Mp N T a1 a2 a3 a4 k=k [p] []:=by
 have hn:∀k:KD R,FF N (.slice []) (.int (IntKind.u64.wrap a2.toInt)) (.int 4) k=k [.slice ([]++BK 4 (IntKind.u64.wrap a2.toInt))] []:=fun k=>PZ [] (.int (IntKind.u64.wrap a2.toInt)) (z4W _) 4 (by omega) (by simp) (by omega) k;obtain⟨e1,_,e2⟩:=FI h1
 obtain⟨c,⟨l,rfl,hl,hb⟩,h2⟩:=W4 (R:=R) (N:=N) hT (.int 1) z0e [bj (cut (au a1) 0 32),bj ([]++BK 4 (IntKind.u64.wrap a2.toInt)),bj [az (ar bt (ao a3)),az (ar bt (ao a4))]] (fun x hx=>by
  simp only[gr,jd,or_false]at hx;rcases hx with rfl|rfl|rfl
  ·rw[Qn h1];exact⟨rfl,by simpa[AJ]using e2,by rw[AJ];omega⟩
  ·rw[List.nil_append];exact⟨rfl,by simpa[AJ]using v3 4 _,by rw[AJ,De];omega⟩
  ·refine⟨rfl,fun c hc=>?_,by simp[AJ]⟩;simp only[AJ,gr,jd,or_false]at hc;rcases hc with rfl|rfl <;> exact Nl _) (by simp) hN
 refine⟨.agg (l.take 16),⟨_,rfl,by simp;omega,fun c hc=>hb c (List.mem_of_mem_take hc)⟩,fun k=>?_⟩;rw[H4];unfold jM;simp only[hn,AJ,AF,h2,uQ l hl (show 100<N by omega)]
theorem z0X (a1 a2:C) (h1:Ao 32 a1) (hN:20000<N):∃c,Ao 32 c/\∀k:KD R,TY N T a1 a2 k=k [c] []:=by
 have inner:∀(x3 z:C) (o:List C),o.length<=1000->(∀c∈o,BO c)->∃o':List C,o'.length<=o.length+32/\(∀c∈o',BO c)/\∀k:KD R,Ac N (TX N k) [a2,T,a1,x3,.slice o,.int 0,z] []=k [a2,T,a1,x3,.slice o',z] []:=by
  intro x3 z o ho hob
  obtain⟨d,⟨o',ho',hb',rfl⟩,h⟩:=FO (R:=R) (F:=fun k2=>TX N k2) 2 (fun i st=>∃o':List C,o'.length<=o.length+16*i/\(∀c∈o',BO c)/\st=[a2,T,a1,x3,.slice o',.int i,z]) (fun d=>∃o':List C,o'.length<=o.length+32/\(∀c∈o',BO c)/\d=[a2,T,a1,x3,.slice o',z])
   (fun i st hi hst=>by
    obtain⟨o',ho',hb',rfl⟩:=hst;have e1:(i:Int)<2:=by omega
    obtain⟨s,hs,h2⟩:=iJ (R:=R) (N:=N) hT a1 a2 x3 (.int i) h1 hN;have h3:=fun k:KD R=>iQ (N:=N) T hT s hs (by omega) k;have t0:=Uf (Nr s);obtain⟨c1,_,c2⟩:=FI (Nr s);have g1:(o'.length+16)*1<=140737488355328/\o'.length+16<=9223372036854775807:=by omega
    refine⟨_,⟨o'++(JI s).elems,by rw[bx,c1];omega,fun c hc=>?_,rfl⟩,fun k rec=>?_⟩
    ·rcases dy.1 hc with hc|hc
     ·exact hb' c hc
     ·exact c2 c hc
    ·unfold TX;simp only[AF,AL,AP,AU,Ab,Av,Ba,AB,AJ,e1,h2,h3,t0,c1,g1,AE,and_self,bw,bx,BM (show i<4611686018427387904 by omega)])
   (fun st hst=>by
    obtain⟨o',ho',hb',rfl⟩:=hst;refine⟨_,⟨o',by omega,hb',rfl⟩,fun k rec=>?_⟩;unfold TX;have e:¬((2:Nat):Int)<2:=by decide
    simp only[AF,AL,AP,AU,Ab,Av,Ba,AB,AJ,e,AE,bw])
   (N:=N) (by omega) (st:=[a2,T,a1,x3,.slice o,.int (0:Nat),z]) ⟨o,by omega,hob,rfl⟩
  exact⟨o',ho',hb',h⟩
 obtain⟨d,⟨o,ho,hob,rfl⟩,h⟩:=FO (R:=R) (F:=fun k2=>Xj N k2) 32 (fun i st=>∃o:List C,o.length<=32*i/\(∀c∈o,BO c)/\st=[a2,T,a1,.slice o,.int i,AI (.arr 32 (.int .u8))]) (fun d=>∃o:List C,o.length<=1024/\(∀c∈o,BO c)/\d=[T,.slice o,AI (.arr 32 (.int .u8))])
  (fun i st hi hst=>by
   obtain⟨o,ho,hob,rfl⟩:=hst;have e1:(i:Int)<32:=by omega
   obtain⟨o',ho',hb',h2⟩:=inner (.int i) (AI (.arr 32 (.int .u8))) o (by omega) hob;refine⟨_,⟨o',by omega,hb',rfl⟩,fun k rec=>?_⟩;unfold Xj;simp only[AQ,AF,AL,AP,AU,Ab,Av,AB,AJ,e1,h2,AE,bw,BM (show i<4611686018427387904 by omega)])
  (fun st hst=>by
   obtain⟨o,ho,hob,rfl⟩:=hst;refine⟨_,⟨o,by omega,hob,rfl⟩,fun k rec=>?_⟩;unfold Xj;have e:¬((32:Nat):Int)<32:=by decide
   simp only[AF,AL,AP,AU,Ab,Av,AB,AJ,e,AE,bw])
  (N:=N) (by omega) (st:=[a2,T,a1,.slice [],.int (0:Nat),AI (.arr 32 (.int .u8))]) ⟨[],by simp,(fun _ h=>nomatch h),rfl⟩
 obtain⟨c,hc,h2⟩:=W4 (R:=R) (N:=N) hT (.int 2) nD [bj o] (iC 1100 o hob (by omega)) (by simp) hN;refine⟨c,hc,fun k=>?_⟩;rw[H2];unfold jL;simp only[AQ];refine(h _).trans ?_;simp only[AF,AL,AJ,h2]
theorem z0Z (a1 a2 a3:C) (h1:Ao 32 a1) (h3:Ao 32 a3) (hN:20000<N):∃c,JA c/\∀k:KD R,TZ N T a1 a2 a3 k=k [c] []:=by
 have z16:Ao 16 (.agg (bf 16 (.int 0))):=⟨_,rfl,by simp,fun c hc=>by rw[ij hc];exact⟨rfl,by decide,by decide⟩⟩;have zb:JA (dj [dj (bf 32 (dj (bf 16 (az 0)))),dj (bf 32 (dj (bf 16 (az 0))))]):=⟨_,_,rfl,by simp,by simp,fun p hp=>by rw[ij hp];exact z16,fun p hp=>by rw[ij hp];exact z16⟩
 obtain⟨d,⟨x,v,hv,rfl⟩,h⟩:=FO (R:=R) (F:=fun k2=>Xk N k2) 32 (fun i st=>∃x v:C,JA v/\st=[a2,T,a1,a3,.int i,x,v]) (fun d=>∃x v:C,JA v/\d=[x,v])
  (fun i st hi hst=>by
   obtain⟨x,v,hv,rfl⟩:=hst;have e1:(i:Int)<32:=by omega
   have g1:=fun k:KD R=>W8 (N:=N) a3 h3 i hi (by omega) k;obtain⟨s1,hs1,g2⟩:=iJ (R:=R) (N:=N) hT a1 a2 (.int i) (.int (Jh a3 i)) h1 hN;obtain⟨s2,hs2,g3⟩:=iJ (R:=R) (N:=N) hT a1 a2 (.int i) (.int (ar aw (1-Jh a3 i))) h1 hN;have g4:=fun k:KD R=>iQ (N:=N) T hT s2 hs2 (by omega) k;obtain⟨o,t,rfl,ho,ht,hpo,hpt⟩:=hv;refine⟨_,⟨x,.agg [.agg (o.set i s1),.agg (t.set i (JI s2))],⟨_,_,rfl,by simp[ho],by simp[ht],fun p hp=>?_,fun p hp=>?_⟩,rfl⟩,fun k rec=>?_⟩
   ·rcases sq hp with hp|rfl
    ·exact hpo p hp
    ·exact hs1
   ·rcases sq hp with hp|rfl
    ·exact hpt p hp
    ·exact Nr s2
   ·unfold Xk;simp only[AF,AL,AP,AU,Ab,Av,Ba,AB,e1,g1,g2,g3,g4,EW,GI,HY,IC,q1t,AE,bu,and_self,bh,BM (show i<4611686018427387904 by omega)];rfl)
  (fun st hst=>by
   obtain⟨x,v,hv,rfl⟩:=hst;refine⟨_,⟨x,v,hv,rfl⟩,fun k rec=>?_⟩;unfold Xk;have e:¬((32:Nat):Int)<32:=by decide
   simp only[AF,AL,AP,AU,Ab,Av,Ba,AB,e,AE])
  (N:=N) (by omega) (st:=[a2,T,a1,a3,.int (0:Nat),dj
  [dj (bf 32 (dj (bf 16 (az 0)))),
   dj (bf 32 (dj (bf 16 (az 0))))],dj
  [dj (bf 32 (dj (bf 16 (az 0)))),
   dj (bf 32 (dj (bf 16 (az 0))))]]) ⟨_,_,zb,rfl⟩
 refine⟨v,hv,fun k=>?_⟩;rw[H5];unfold jN;simp only[AQ];exact(h _).trans rfl
end
end
section
variable {R:Type} {N:Nat}
theorem q60 (x:Int):0<=IntKind.u32.wrap x/\IntKind.u32.wrap x<4294967296:=by
 have:IntKind.u32.wrap x=x%4294967296:=by simp[ar,jk,iw]
 rw[this];omega
section
variable {T:C} (hT:Cz T)
include hT
theorem W6 (sec:C) (hs:Ao 32 sec) (hN:20000<N):∃r0 r1 r2:List C,(r0.length=4/\r1.length=2/\r2.length=1)/\((∀y∈r0,Ao 32 y)/\(∀y∈r1,Ao 32 y)/\∀y∈r2,Ao 32 y)/\∀k:KD R,Pk N T sec (.int 2) k=k [.slice [.slice r0,.slice r1,.slice r2]] []:=by
 obtain⟨d,⟨r0,hr0,hb0,rfl⟩,h⟩:=FO (R:=R) (F:=fun k2=>Xn N k2) 4 (fun i st=>∃o:List C,o.length=i/\(∀y∈o,Ao 32 y)/\st=[.int 2,T,sec,.slice o,.int i]) (fun d=>∃o:List C,o.length=4/\(∀y∈o,Ao 32 y)/\d=[T,.slice o])
  (fun i st hi hst=>by
   obtain⟨o,ho,hob,rfl⟩:=hst;have e1:(i:Int)<4:=by omega
   obtain⟨c,hc,h1⟩:=z0X (R:=R) (N:=N) hT sec (az (ar cm (i:Int))) hs hN;have g1:(i+1)*32<=140737488355328/\i+1<=9223372036854775807:=by omega
   refine⟨_,⟨o++[c],by simp[ho],(fun y hy=>(dy.1 hy).elim (hob y) fun e=>by rw[ft.1 e];exact hc),rfl⟩,fun k rec=>?_⟩;unfold Xn;simp only[AF,AL,AP,AU,Ab,AB,AJ,X6 (show 10<N by omega),e1,h1,ho,g1,AE,and_self,bw,bx,cn,df,cq,BM (show i<4611686018427387904 by omega)])
  (fun st hst=>by
   obtain⟨o,ho,hob,rfl⟩:=hst;refine⟨_,⟨o,ho,hob,rfl⟩,fun k rec=>?_⟩;unfold Xn;have e:¬((4:Nat):Int)<4:=by decide
   simp only[AF,AL,AP,AU,Ab,AB,AJ,X6 (show 10<N by omega),e,AE,bw])
  (N:=N) (by omega) (st:=[.int 2,T,sec,.slice [],.int (0:Nat)]) ⟨[],rfl,(fun _ h=>nomatch h),rfl⟩
 have inner:∀(m:Nat) (row rows:List C),row.length=2*m->m<=100->(∀y∈row,Ao 32 y)->∃up:List C,up.length=m/\(∀y∈up,Ao 32 y)/\∀k:KD R,Ac N (Tb N k) [T,.slice row,.slice rows,.slice [],.int 0] []=k [T,.slice rows,.slice up] []:=by
  intro m row rows hr hm z5Z
  obtain⟨d,⟨up,hup,hub,rfl⟩,h⟩:=FO (R:=R) (F:=fun k2=>Tb N k2) m (fun i st=>∃up:List C,up.length=i/\(∀y∈up,Ao 32 y)/\st=[T,.slice row,.slice rows,.slice up,.int (2*(i:Int))]) (fun d=>∃up:List C,up.length=m/\(∀y∈up,Ao 32 y)/\d=[T,.slice rows,.slice up])
   (fun i st hi hst=>by
    obtain⟨up,hup,hub,rfl⟩:=hst;have e1:2*(i:Int)<(row.length:Int):=by omega
    have c1:0<=2*(i:Int)/\2*(i:Int)<(row.length:Int):=by omega
    have w1:IntKind.i64.wrap (2*(i:Int)+1)=2*i+1:=wrap_i64 (by omega) (by omega);have w2:IntKind.i64.wrap (2*(i:Int)+2)=2*((i+1:Nat):Int):=by rw[wrap_i64 (by omega) (by omega)];omega
    have c2:0<=2*(i:Int)+1/\2*(i:Int)+1<(row.length:Int):=by omega
    have g1:(i+1)*32<=140737488355328/\i+1<=9223372036854775807:=by omega
    have hy0:=z5Z _ (CR (l:=row) (i:=(2*(i:Int)).toNat) (by omega));have hy1:=z5Z _ (CR (l:=row) (i:=(2*(i:Int)+1).toNat) (by omega));have h1:=fun k:KD R=>iL (N:=N) T hT _ _ hy0 hy1 (by omega) k;refine⟨_,⟨up++[Lq (row.getD (2*(i:Int)).toNat .nil) (row.getD (2*(i:Int)+1).toNat .nil)],by simp[hup],(fun y hy=>(dy.1 hy).elim (hub y) fun e=>by rw[ft.1 e];exact KM _),rfl⟩,fun k rec=>?_⟩;unfold Tb;simp only[AF,AL,AP,AU,Ab,AB,AJ,e1,c1,c2,w1,w2,h1,hup,g1,AE,and_self,bw,bx,cn,df,cq])
   (fun st hst=>by
    obtain⟨up,hup,hub,rfl⟩:=hst;refine⟨_,⟨up,hup,hub,rfl⟩,fun k rec=>?_⟩;unfold Tb;have e:¬2*(m:Int)<(row.length:Int):=by omega
    simp only[AF,AL,AP,AU,Ab,AB,AJ,e,AE,bw])
   (N:=N) (by omega) (st:=[T,.slice row,.slice rows,.slice [],.int (2*((0:Nat):Int))]) ⟨[],rfl,(fun _ h=>nomatch h),rfl⟩
  exact⟨up,hup,hub,h⟩
 have step:∀(m:Nat) (row rows:List C),row.length=2*m->1<=m->m<=100->rows.length<=100->(∀y∈row,Ao 32 y)->∃up:List C,up.length=m/\(∀y∈up,Ao 32 y)/\∀k rec:KD R,Xm N k rec [T,.slice row,.slice rows] []=rec [T,.slice up,.slice (rows++[.slice up])] []:=by
  intro m row rows hr hm1 hm hrs z5Z;obtain⟨up,hup,hub,h1⟩:=inner m row rows hr hm z5Z;refine⟨up,hup,hub,fun k rec=>?_⟩;have e1:1<(row.length:Int):=by omega
  have g1:(rows.length+1)*24<=140737488355328/\rows.length+1<=9223372036854775807:=by omega
  unfold Xm;simp only[AQ,AF,AL,AP,AJ,e1,h1,g1,AE,and_self,bw,bx,cn,df,cq]
 obtain⟨r1,hr1,hb1,s1⟩:=step 2 r0 [.slice r0] (by omega) (by omega) (by omega) (by simp) hb0;obtain⟨r2,hr2,hb2,s2⟩:=step 1 r1 [.slice r0,.slice r1] (by omega) (by omega) (by omega) (by simp) hb1;refine⟨r0,r1,r2,⟨hr0,hr1,hr2⟩,⟨hb0,hb1,hb2⟩,fun k=>?_⟩;rw[F0];unfold jQ;simp only[AQ];refine(h _).trans ?_;simp only[AF,AL,AJ,bw,cond_true];obtain⟨n,rfl⟩:∃n,N=n+3:=⟨N-3,by omega⟩;rw[Bm,s1];show Ac (n+2) _ [T,.slice r1,.slice [.slice r0,.slice r1]] []=_;rw[Bm,s2];show Ac (n+1) _ [T,.slice r2,.slice [.slice r0,.slice r1,.slice r2]] []=_;rw[Bm];unfold Xm;have e:¬(1:Int)<(r2.length:Int):=by omega
 simp only[AF,AL,AP,AJ,e,AE,bw]
theorem W7 (sec d:C) (z7Z:Ao 32 sec) (hd:Ao 32 d) (r0 r1 r2:List C) (hb0:∀y∈r0,Ao 32 y) (hb1:∀y∈r1,Ao 32 y) (h0:r0.length=4) (h1:r1.length=2) (h2:r2.length=1) (x:Int) (hx:0<=x/\x<4) (hN:20000<N):
  ∃s,JB s/\∀k:KD R,Td N T sec (.slice [.slice r0,.slice r1,.slice r2]) (.int x) d k=k [s] []:=by
 obtain⟨c,hcl,hc⟩:=z0Z (R:=R) (N:=N) hT sec (az (ar cm x)) d z7Z hd hN
 obtain⟨e,⟨p,hp,hpb,rfl⟩,h⟩:=FO (R:=R) (F:=fun k2=>Tc N k2) 2 (fun i st=>∃(y:Int) (p:List C),p.length=i/\(∀z∈p,Ao 32 z)/\0<=y/\(i=0->y<4)/\(i=1->y<2)/\st=[.slice [.slice r0,.slice r1,.slice r2],.int y,.int i,c,az (ar cm x),.slice p,dj
  [dj
    [dj (bf 32 (dj (bf 16 (az 0)))),
     dj (bf 32 (dj (bf 16 (az 0))))],
   AI (br cm),bj []]]) (fun e=>∃p:List C,p.length=2/\(∀z∈p,Ao 32 z)/\e=[c,az (ar cm x),.slice p,dj
  [dj
    [dj (bf 32 (dj (bf 16 (az 0)))),
     dj (bf 32 (dj (bf 16 (az 0))))],
   AI (br cm),bj []]])
  (fun i st hi hst=>by
   obtain⟨y,p,hp,hpb,hy0,hy1,hy2,rfl⟩:=hst;have w3:IntKind.i64.wrap (((3:Nat):Int)-1)=2:=by rw[wrap_i64 (by omega) (by omega)];rfl
   have e1:(i:Int)<2:=by omega
   have c3:0<=(i:Int)/\(i:Int)<((3:Nat):Int):=by omega
   have g1:(i+1)*32<=140737488355328/\i+1<=9223372036854775807:=by omega
   have hlen:((au (bp [bj r0,bj r1,bj r2] i .nil)).length:Int)=(if i=0 then 4 else 2):=by
    rcases(by omega:i=0\/i=1)with rfl|rfl
    ·show((r0.length:Nat):Int)=_;rw[h0];rfl
    ·show((r1.length:Nat):Int)=_;rw[h1];rfl
   have tm:bq y 2=y%2:=dp hy0;have td:dz y 2=y / 2:=ek hy0;have hy:y<(if i=0 then 4 else 2)/\y<4:=by
    rcases(by omega:i=0\/i=1)with rfl|rfl
    ·have:=hy1 rfl;exact⟨by simpa using this,this⟩
    ·have:=hy2 rfl;exact⟨by simpa using this,by omega⟩
   have wd:IntKind.i64.wrap (y / 2)=y / 2:=wrap_i64 (by omega) (by omega);have wm:IntKind.i64.wrap (y-1)=y-1:=wrap_i64 (by omega) (by omega);have wp:IntKind.i64.wrap (y+1)=y+1:=wrap_i64 (by omega) (by omega);have ev:(if i=0 then(4:Int)else 2)=4\/(if i=0 then(4:Int)else 2)=2:=by split <;> simp
   have hm:∀q:Int,0<=q->q<(if i=0 then(4:Int)else 2)->Ao 32 (bp (au (bp [bj r0,bj r1,bj r2] i .nil)) q.toNat .nil):=fun q q0 q1=>by
    rcases(by omega:i=0\/i=1)with rfl|rfl
    ·have q1:q<4:=by simpa using q1
     exact hb0 _ (CR (by omega))
    ·have q1:q<2:=by simpa using q1
     exact hb1 _ (CR (by omega))
   by_cases z:y%2=1
   ·have c4:0<=y-1/\y-1<(if i=0 then(4:Int)else 2):=by omega
    refine⟨_,⟨y / 2,p++[bp (au (bp [bj r0,bj r1,bj r2] i .nil)) (y-1).toNat .nil],by simp[hp],(fun w hw=>(dy.1 hw).elim (hpb w) fun e=>by rw[ft.1 e];exact hm _ c4.1 c4.2),by omega,by omega,by omega,rfl⟩,fun k rec=>?eq1⟩
    case eq1=>
     unfold Tc;simp only[AQ,AF,AL,AP,AU,Ab,Av,Ba,DD,AB,AJ,cn,df,cq,Nat.reduceAdd,w3,e1,c3,c4,tm,td,wd,wm,z,hlen,hp,g1,AE,and_self,bw,bx,bh,BM (show i<4611686018427387904 by omega)]
   ·have c4:0<=y+1/\y+1<(if i=0 then(4:Int)else 2):=by omega
    refine⟨_,⟨y / 2,p++[bp (au (bp [bj r0,bj r1,bj r2] i .nil)) (y+1).toNat .nil],by simp[hp],(fun w hw=>(dy.1 hw).elim (hpb w) fun e=>by rw[ft.1 e];exact hm _ c4.1 c4.2),by omega,by omega,by omega,rfl⟩,fun k rec=>?eq2⟩
    case eq2=>
     unfold Tc;simp only[AQ,AF,AL,AP,AU,Ab,Av,Ba,DD,AB,AJ,cn,df,cq,Nat.reduceAdd,w3,e1,c3,c4,tm,td,wd,wp,z,hlen,hp,g1,AE,and_self,bw,bx,bh,BM (show i<4611686018427387904 by omega)])
  (fun st hst=>by
   obtain⟨y,p,hp,hpb,hy0,hy1,hy2,rfl⟩:=hst;refine⟨_,⟨p,hp,hpb,rfl⟩,fun k rec=>?_⟩;have w3:IntKind.i64.wrap (((3:Nat):Int)-1)=2:=by rw[wrap_i64 (by omega) (by omega)];rfl
   unfold Tc;have e:¬((2:Nat):Int)<2:=by decide
   simp only[AF,AL,AP,AU,Ab,Av,Ba,AB,AJ,cn,df,cq,Nat.reduceAdd,w3,e,AE])
  (N:=N) (by omega) (st:=[.slice [.slice r0,.slice r1,.slice r2],.int x,.int (0:Nat),c,az (ar cm x),.slice [],dj
  [dj
    [dj (bf 32 (dj (bf 16 (az 0)))),
     dj (bf 32 (dj (bf 16 (az 0))))],
   AI (br cm),bj []]]) ⟨x,[],rfl,(fun _ h=>nomatch h),hx.1,fun _=>hx.2,fun h=>by simp at h,rfl⟩
 refine⟨.agg [c,az (ar cm x),.slice p],⟨rfl,hcl,q60 x,hpb,by show p.length<=10;omega⟩,fun k=>?_⟩;rw[F1];unfold jR;simp only[hc,AQ,AF,AB];exact(h _).trans rfl
end
end
def dM {R:Type} (N:Nat) (a0:C) (k1:KD R):Option R:=k1 [db (db (db (db (db (dj [az 0,az 0,az 0,dj (bf 32 (az 0)),az 0]) 0 (bc a0 0)) 1 (bc a0 1)) 2 (bc a0 2)) 3 (bc a0 3)) 4 (bc a0 4)] []
def Rp:=lid "" (@dM R N)
theorem xH {R N a0 k}:@Rp R N a0 k=dM N a0 k:=by unfold Rp;rw[AV]
def q7E:OvG R:=Ae [DI] (Bw (Rp N)) (BD DI)
theorem q7G:okX 68 (@q7E R N):=Ai AW N [(68,[(0,[(1,5)])])] [(68,[([9],⟨[],[(2,.as (.ptr (.l 2) [] DI))],[],[(.l 2,.box (.d DI))],[],[]⟩)])] (fun _ _=>xH)
def WX (k2:KD R):KD R->KD R:=fun k3 d1 m1=>(bif decide (ao (dk d1 2)<ao (dk d1 1))then(if 0<=ao (dk d1 2)/\ao (dk d1 2)<(↑(aq (au (dk d1 0))):Int)then(Rp N (bp (au (dk d1 0)) (av (ao (dk d1 2))) dw) (fun d2 m2=>(bif bo (aq (au (dk d1 7))) (aq (au (dk d1 7)))then(if(aq (au (dk d1 7))+1)*64<=140737488355328/\aq (au (dk d1 7))+1<=9223372036854775807 then(bif bo (aq (au (dk d1 7))+1) (aq (au (dk d1 7)++[dk d2 0]))then(k3 [dk d1 0,dk d1 1,az (ar aw (ao (dk d1 2)+1)),dk d1 3,dk d1 4,dk d1 5,dk d1 6,bj (au (dk d1 7)++[dk d2 0]),dk d1 8] [])else none)else none)else none)))else none)else(k2 [dk d1 3,dk d1 4,dk d1 5,dk d1 6,bj (au (dk d1 7)),dk d1 8] []))
def dP (a0:C) (k1:KD R):Option R:=jn (fun d1 m1=>(k1 [dj [dk d1 0,dk d1 1,dk d1 2,dk d1 3,bj (au (dk d1 4))]] [])) (fun k2=>(Ac N (WX N k2) [bc a0 4,az (↑(aq (au (bc a0 4))):Int),az 0,bc a0 0,bc a0 1,bc a0 2,bc a0 3,bj [],dj [AI (br cm),AI (br ay),AI (ct 2 (br ay)),AI (ct 2 (br ay)),bj []]] []))
def Rr:=lid "" (@dP R N)
theorem xJ {R N a0 k}:@Rr R N a0 k=dP N a0 k:=by unfold Rr;rw[AV]
def q7K:OvG R:=Ae [Bi] (Bw (Rr N)) (BD Bi)
theorem q7M:okX 42 (@q7K R N):=Ai (AH (q7G N) <| AW) N [(42,[(0,[(1,5)]),(5,[(25,7),(5,6)])])] [(42,[([1,0,1,1],⟨[2,3],[],[],[(.l 3,.box (.agg Bi [.d (.int .u32),.d (.int .u64),.d (.arr 2 (.int .u64)),.d (.arr 2 (.int .u64)),(.ts 64 DI)]))],[],[]⟩),
  ([4,1,0,1,1],⟨[2,3,16,17],[(18,.d (.int .i64))],[],[(.l 3,.box (.agg Bi [.d (.int .u32),.d (.int .u64),.d (.arr 2 (.int .u64)),.d (.arr 2 (.int .u64)),(.ts 64 DI)]))],[],[]⟩),
  ([9],⟨[],[(2,.as (.ptr (.l 2) [] Bi))],[],[(.l 2,.box (.d Bi))],[],[]⟩)])] (fun _ _=>xJ)
def dQ (a0:C) (k1:KD R):Option R:=Rr N (bc a0 0) (fun d1 m1=>(Oe N (bc (bc a0 1) (av 0)) (fun d2 m2=>(Oe N (bc (bc a0 1) (av 1)) (fun d3 m3=>(k1 [dj [dk d1 0,db (db (AI (ct 2 Ca)) 0 (dk d2 0)) 1 (dk d3 0)]] []))))))
def Kv:=lid "" (@dQ R N)
theorem xM {R N a0 k}:@Kv R N a0 k=dQ N a0 k:=by unfold Kv;rw[AV]
def q7Q:OvG R:=Ae [Dw] (Bw (Kv N)) (BD Dw)
theorem q7R:okX 13 (@q7Q R N):=Ai (AH (q7M N) <| AH (q7A N) <| AW) N [(13,[(0,[(1,5)]),(1,[(5,7),(9,7),(13,7)])])] [(13,[([9],⟨[],[(2,.as (.ptr (.l 2) [] Dw))],[],[(.l 2,.box (.d Dw))],[],[]⟩)])] (fun _ _=>xM)
def dL {R:Type} (N:Nat) (a0:C) (k1:KD R):Option R:=k1 [db (db (db (db (db (dj [az 0,az 0,az 0,dj (bf 32 (az 0)),az 0]) 0 (bc a0 0)) 1 (bc a0 1)) 2 (bc a0 2)) 3 (bc a0 3)) 4 (bc a0 4)] []
def Ro:=lid "" (@dL R N)
theorem xG {R N a0 k}:@Ro R N a0 k=dL N a0 k:=by unfold Ro;rw[AV]
def q7B:OvG R:=Ae [DI] (Bw (Ro N)) (BD DI)
theorem q7D:okX 46 (@q7B R N):=Ai AW N [(46,[(0,[(1,5)])])] [(46,[([9],⟨[],[(2,.as (.ptr (.l 2) [] DI))],[],[(.l 2,.box (.d DI))],[],[]⟩)])] (fun _ _=>xG)
def WW (k2:KD R):KD R->KD R:=fun k3 d1 m1=>(bif decide (ao (dk d1 2)<ao (dk d1 1))then(if 0<=ao (dk d1 2)/\ao (dk d1 2)<(↑(aq (au (dk d1 0))):Int)then(Ro N (bp (au (dk d1 0)) (av (ao (dk d1 2))) dw) (fun d2 m2=>(bif bo (aq (au (dk d1 7))) (aq (au (dk d1 7)))then(if(aq (au (dk d1 7))+1)*64<=140737488355328/\aq (au (dk d1 7))+1<=9223372036854775807 then(bif bo (aq (au (dk d1 7))+1) (aq (au (dk d1 7)++[dk d2 0]))then(k3 [dk d1 0,dk d1 1,az (ar aw (ao (dk d1 2)+1)),dk d1 3,dk d1 4,dk d1 5,dk d1 6,bj (au (dk d1 7)++[dk d2 0]),dk d1 8] [])else none)else none)else none)))else none)else(k2 [dk d1 3,dk d1 4,dk d1 5,dk d1 6,bj (au (dk d1 7)),dk d1 8] []))
def dN (a0:C) (k1:KD R):Option R:=jn (fun d1 m1=>(k1 [dj [dk d1 0,dk d1 1,dk d1 2,dk d1 3,bj (au (dk d1 4))]] [])) (fun k2=>(Ac N (WW N k2) [bc a0 4,az (↑(aq (au (bc a0 4))):Int),az 0,bc a0 0,bc a0 1,bc a0 2,bc a0 3,bj [],dj [AI (br cm),AI (br ay),AI (ct 2 (br ay)),AI (ct 2 (br ay)),bj []]] []))
def Rq:=lid "" (@dN R N)
theorem xI {R N a0 k}:@Rq R N a0 k=dN N a0 k:=by unfold Rq;rw[AV]
def q7H:OvG R:=Ae [Bi] (Bw (Rq N)) (BD Bi)
theorem q7J:okX 17 (@q7H R N):=Ai (AH (q7D N) <| AW) N [(17,[(0,[(1,5)]),(5,[(25,7),(5,6)])])] [(17,[([1,0,1,1],⟨[2,3],[],[],[(.l 3,.box (.agg Bi [.d (.int .u32),.d (.int .u64),.d (.arr 2 (.int .u64)),.d (.arr 2 (.int .u64)),(.ts 64 DI)]))],[],[]⟩),
  ([4,1,0,1,1],⟨[2,3,16,17],[(18,.d (.int .i64))],[],[(.l 3,.box (.agg Bi [.d (.int .u32),.d (.int .u64),.d (.arr 2 (.int .u64)),.d (.arr 2 (.int .u64)),(.ts 64 DI)]))],[],[]⟩),
  ([9],⟨[],[(2,.as (.ptr (.l 2) [] Bi))],[],[(.l 2,.box (.d Bi))],[],[]⟩)])] (fun _ _=>xI)
def Z7 {R:Type} (N:Nat) (a0:C) (k1:KD R):Option R:=k1 [dj [a0,AI (br ay),AI (ct 2 (br ay)),AI (ct 2 (br ay)),bj []]] []
def PJ:=lid "" (@Z7 R N)
theorem Z8 {R N a0 k}:@PJ R N a0 k=Z7 N a0 k:=by unfold PJ;rw[AV]
def z0u:OvG R:=Ae [.int .u32] (Bw (PJ N)) (BD Bi)
theorem Z6:okX 35 (@z0u R N):=Ai AW N [] [(35,[([9],⟨[],[(2,.as (.ptr (.l 2) [] Bi))],[],[(.l 2,.box (.d Bi))],[],[]⟩)])] (fun _ _=>Z8)
def q1C {R:Type} (N:Nat) (k1:KD R) (k2:KD R):KD R->KD R:=fun k3 d1 m1=>(bif decide (ao (dk d1 3)<ao (dk d1 2))then(if 0<=ao (dk d1 3)/\ao (dk d1 3)<(↑(aq (au (dk d1 0))):Int)then(if 0<=ao (dk d1 3)/\ao (dk d1 3)<(↑(aq (au (dk d1 1))):Int)then(bif !na (bp (au (dk d1 0)) (av (ao (dk d1 3))) dw) (bp (au (dk d1 1)) (av (ao (dk d1 3))) dw)then(k1 [cg false] [])else(k3 [dk d1 0,dk d1 1,dk d1 2,az (ar aw (ao (dk d1 3)+1))] []))else none)else none)else(k2 [] []))
def mL (a0 a1:C) (k1:KD R):Option R:=bif !decide ((↑(aq (au a0)):Int)=(↑(aq (au a1)):Int))then(k1 [cg false] [])else(jn (fun d1 m1=>(k1 [cg true] [])) (fun k2=>(Ac N (q1C N k1 k2) [a0,a1,az (↑(aq (au a0)):Int),az 0] [])))
def Ua:=lid "" (@mL R N)
theorem q1D {R N a0 a1 k}:@Ua R N a0 a1 k=mL N a0 a1 k:=by unfold Ua;rw[AV]
def z3W:OvG R:=Ae [.slice 64 DI,.slice 64 DI] (Bq (Ua N)) Gz
theorem z3X:okX 111 (@z3W R N):=Ai AW N [] [(111,[([1,0,1,1],(Af [])),
  ([4,1,0,1,1],(AX [0,1,12] [(13,.d (.int .i64))])),
  ([9],(Af [(4,.d .bool)]))])] (fun _ _=>q1D)
def gY (a0 a1:C) (k1:KD R):Option R:=jn (fun d1 m1=>(k1 [cg (cz (dk d1 0))] [])) (fun k2=>(bif decide (ao (bc a0 0)=ao (bc a1 0))then(bif decide (ao (bc a0 1)=ao (bc a1 1))then(bif na (bc a0 2) (bc a1 2)then(bif na (bc a0 3) (bc a1 3)then(Ua N (bc a0 4) (bc a1 4) (fun d1 m1=>(k2 [cg (cz (dk d1 0))] [])))else(k2 [cg false] []))else(k2 [cg false] []))else(k2 [cg false] []))else(k2 [cg false] [])))
def Sr:=lid "" (@gY R N)
theorem Y0 {R N a0 a1 k}:@Sr R N a0 a1 k=gY N a0 a1 k:=by unfold Sr;rw[AV]
def z0x:OvG R:=Ae [Bi,Bi] (Bq (Sr N)) Gz
theorem z0y:okX 90 (@z0x R N):=Ai (AH (z3X N) <| AW) N [(90,[(0,[(2,5),(3,5)])])] [(90,[([0,1],(Af [(4,.d .bool)])),
  ([9],(Af [(4,.d .bool)]))])] (fun _ _=>Y0)
def aR {R:Type} (N:Nat) (a0:C) (k1:KD R):Option R:=k1 [az (ar cm (if 2147483648<ao a0 then 2147483648 else ao a0))] []
def Qr:=lid "" (@aR R N)
theorem rR {R N a0 k}:@Qr R N a0 k=aR N a0 k:=by unfold Qr;rw[AV]
def q4R:OvG R:=Ae [.int .u64] (Bw (Qr N)) (BD (br cm))
theorem q4S:okX 113 (@q4R R N):=Ai AW N [] [(113,[([9],(Af [(2,.d (.int .u32))]))])] (fun _ _=>rR)
def aO (a0 a1 a2 a3:C) (k1:KD R):Option R:=jn (fun d1 m1=>(bif cz (dk d1 4)then(k1 [cg false] [])else(if 0<=ao (dk d1 0)/\ao (dk d1 0)<2 then(Qr N (bc (dk d1 2) 1) (fun d2 m2=>(Qq N (dk d1 2) (fun d3 m3=>(UQ N (dk d1 3) (bc (bc (dk d1 1) 0) (av (ao (dk d1 0)))) (bc (dk d1 1) 1) (dk d2 0) (dk d3 0) (fun d4 m4=>(k1 [cg (cz (dk d4 0))] [])))))))else none))) (fun k2=>(bif !decide (ao a1=0)then(k2 [a1,a0,a2,a3,cg !decide (ao a1=1)] [])else(k2 [a1,a0,a2,a3,cg false] [])))
def Nu:=lid "" (@aO R N)
theorem rO {R N a0 a1 a2 a3 k}:@Nu R N a0 a1 a2 a3 k=aO N a0 a1 a2 a3 k:=by unfold Nu;rw[AV]
def q4L:OvG R:=Ae [Gl,.int .i64,Bi,Ca] (fun a=>Nu N (a 0) (a 1) (a 2) (a 3)) Gz
theorem q4M:okX 91 (@q4L R N):=Ai (AH (z27 N) <| AH (q4S N) <| AH (q4Q N) <| AW) N [(91,[(0,[(4,5),(6,5),(7,5)]),(3,[(24,7),(26,7),(27,7)])])] [(91,[([0,0,1],(AX [1,4,6,7] [(14,.d .bool)])),
  ([9],(Af [(8,.d .bool)]))])] (fun _ _=>rO)
def aP (a0 a1 a2:C) (k1:KD R):Option R:=bif !decide (ao (bc (bc a1 0) 0)=ao a2)then(k1 [cg false] [])else(bif decide (ao (bc (bc a1 0) 1)=0)then(PJ N a2 (fun d1 m1=>(Sr N (bc a1 0) (dk d1 0) (fun d2 m2=>(k1 [cg (cz (dk d2 0))] [])))))else(jn (fun d1 m1=>(k1 [cg (cz (dk d1 0))] [])) (fun k2=>(Nu N a0 (az 0) (bc a1 0) (bc (bc a1 1) (av 0)) (fun d1 m1=>(bif cz (dk d1 0)then(Nu N a0 (az 1) (bc a1 0) (bc (bc a1 1) (av 1)) (fun d2 m2=>(k2 [cg (cz (dk d2 0))] [])))else(k2 [cg false] [])))))))
def JJ:=lid "" (@aP R N)
theorem rP {R N a0 a1 a2 k}:@JJ R N a0 a1 a2 k=aP N a0 a1 a2 k:=by unfold JJ;rw[AV]
def q4N:OvG R:=Ae [Gl,Dw,.int .u32] (Eb (JJ N)) Gz
theorem q4O:okX 65 (@q4N R N):=Ai (AH (Z6 N) <| AH (z0y N) <| AH (q4M N) <| AW) N [(65,[(0,[(3,5),(4,5)]),(4,[(19,7),(20,7)])])] [(65,[([0,1,1,1],(Af [(6,.d .bool)])),
  ([9],(Af [(6,.d .bool)]))])] (fun _ _=>rP)
section
variable {R:Type} {N:Nat}
end
def fJ {R:Type} (N:Nat) (a0 a1:C) (k1:KD R):Option R:=bif !decide ((ao a0+ao a1) / 18446744073709551616=0)then(k1 [az 0,az 11] [])else(k1 [az ((ao a0+ao a1)%18446744073709551616),az 0] [])
def JW:=lid "" (@fJ R N)
theorem ai {R N a0 a1 k}:@JW R N a0 a1 k=fJ N a0 a1 k:=by unfold JW;rw[AV]
def q9f:OvG R:=Ae [.int .u64,.int .u64] (Bq (JW N)) fun a K d1 m1=>K (ow [V.d (br ay) (dk d1 0),V.d (br aw) (dk d1 1)]) []
theorem Wq:okX 37 (@q9f R N):=Ai AW N [] [(37,[([9],(Af [(4,.d (.int .u64)),(5,.d (.int .i64))]))])] (fun _ _=>ai)
def fM {R:Type} (N:Nat) (a0 a1:C) (k1:KD R):Option R:=bif decide (ao a0<ao a1)then(k1 [az 0,az 12] [])else(k1 [az (ar ay (ao a0-ao a1)),az 0] [])
def Md:=lid "" (@fM R N)
theorem ak {R N a0 a1 k}:@Md R N a0 a1 k=fM N a0 a1 k:=by unfold Md;rw[AV]
def q9i:OvG R:=Ae [.int .u64,.int .u64] (Bq (Md N)) fun a K d1 m1=>K (ow [V.d (br ay) (dk d1 0),V.d (br aw) (dk d1 1)]) []
theorem fL:okX 85 (@q9i R N):=Ai AW N [] [(85,[([9],(Af [(4,.d (.int .u64)),(5,.d (.int .i64))]))])] (fun _ _=>ak)
def Wr (k1:KD R) (k2:KD R):KD R->KD R:=fun k3 d1 m1=>(bif decide (ao (dk d1 3)<ao (dk d1 1))then(if 0<=ao (dk d1 3)/\ao (dk d1 3)<(↑(aq (au (dk d1 0))):Int)then(JW N (dk d1 2) (bp (au (dk d1 0)) (av (ao (dk d1 3))) dw) (fun d2 m2=>(bif !decide (ao (dk d2 1)=0)then(k1 [az 0,dk d2 1] [])else(k3 [dk d1 0,dk d1 1,dk d2 0,az (ar aw (ao (dk d1 3)+1))] []))))else none)else(k2 [dk d1 2] []))
def fP (a0:C) (k1:KD R):Option R:=jn (fun d1 m1=>(k1 [dk d1 0,az 0] [])) (fun k2=>(Ac N (Wr N k1 k2) [a0,az (↑(aq (au a0)):Int),az 0,az 0] []))
def Mf:=lid "" (@fP R N)
theorem al {R N a0 k}:@Mf R N a0 k=fP N a0 k:=by unfold Mf;rw[AV]
def q9j:OvG R:=Ae [.slice 8 (.int .u64)] (Bw (Mf N)) fun a K d1 m1=>K (ow [V.d (br ay) (dk d1 0),V.d (br aw) (dk d1 1)]) []
theorem fO:okX 38 (@q9j R N):=Ai (AH (Wq N) <| AW) N [] [(38,[([1,0,1,1],(Af [(4,.d (.int .u64))])),
  ([4,1,0,1,1],(AX [8,9] [(4,.d (.int .u64)),(10,.d (.int .i64))])),
  ([9],(Af [(2,.d (.int .u64)),(3,.d (.int .i64))]))])] (fun _ _=>al)
section
variable {R:Type} {N:Nat}
def Ap (a b:Int):Int × Int:=if(a+b) / 18446744073709551616=0 then((a+b)%18446744073709551616,0)else(0,11)
def Bu (a b:Int):Int × Int:=if a<b then(0,12)else(IntKind.u64.wrap (a-b),0)
theorem add_eq (a b:C) (k:KD R):JW N a b k=k [.int (Ap a.toInt b.toInt).1,.int (Ap a.toInt b.toInt).2] []:=by
 rw[ai];unfold fJ Ap;by_cases h:(a.toInt+b.toInt) / 18446744073709551616=0 <;> simp[h]
theorem sub_eq (a b:C) (k:KD R):Md N a b k=k [.int (Bu a.toInt b.toInt).1,.int (Bu a.toInt b.toInt).2] []:=by
 rw[ak];unfold fM Bu;by_cases h:a.toInt<b.toInt <;> simp[h]
theorem ZD {a b:Int} (h:0<=a) (h2:0<=b) (h3:a+b<18446744073709551616):Ap a b=(a+b,0):=by
 unfold Ap;rw[if_pos (by omega),Int.emod_eq_of_lt (by omega) (by omega)]
theorem oM {a b:Int} (h:18446744073709551616<=a+b):Ap a b=(0,11):=by
 unfold Ap;rw[if_neg (by omega)]
def Hd (_:Nat) (s:Int) (c:C):Int ⊕ Int:=if(Ap s c.toInt).2=0 then .inl (Ap s c.toInt).1 else .inr (Ap s c.toInt).2
def Je:Int ⊕ Int->Int × Int
 | .inl s=>(s,0)
 | .inr e=>(0,e)
def Di (l:List C):Int × Int:=Je (BG Hd 0 0 l)
theorem mU (c:C) (hl:c.elems.length<2199023255552) (hN:2199023255552<N) (k:KD R):Mf N c k=k [.int (Di c.elems).1,.int (Di c.elems).2] []:=by
 rw[al];unfold fP;rw[AQ];refine(Hs (F:=Wr N k _) (fun i (s:Int)=>[c,.int c.elems.length,.int s,.int i]) (fun _ _=>[]) c.elems Hd (fun s=>k [.int s,.int 0] []) (fun e=>k [.int 0,.int e] []) ?_ ?_ (by omega)).trans ?_
 ·intro i s x hx hi rec;have h1:(i:Int)<(c.elems.length:Int):=by omega
  unfold Wr Hd;simp only[go_sem,AB,h1,add_eq,BM (show i<4611686018427387904 by omega),bu,and_self,if_true,HD hx];by_cases h:(Ap s x.toInt).2=0 <;> simp[h]
 ·intro s rec;unfold Wr;simp only[go_sem,AB,fb,if_false]
 ·unfold Di EA Je;cases BG Hd 0 0 c.elems <;> rfl
end
def XT {R:Type} (N:Nat) (a0:C) (k1:KD R):Option R:=jn (fun d1 m1=>(k1 [cg (cz (dk d1 0))] [])) (fun k2=>(bif decide (ao a0=0)then(k2 [cg true] [])else(k2 [cg (decide (ao a0=1))] [])))
def PM:=lid "" (@XT R N)
theorem hU {R N a0 k}:@PM R N a0 k=XT N a0 k:=by unfold PM;rw[AV]
def z0D:OvG R:=Ae [.int .i64] (Bw (PM N)) Gz
theorem Y7:okX 92 (@z0D R N):=Ai AW N [] [(92,[([0,1],(Af [(2,.d .bool)])),
  ([9],(Af [(2,.d .bool)]))])] (fun _ _=>hU)
def XP {R:Type} (N:Nat) (k2:KD R):KD R->KD R:=fun k3 d1 m1=>(bif decide (ao (dk d1 4)<ao (dk d1 2))then(if 0<=ao (dk d1 4)/\ao (dk d1 4)<(↑(aq (au (dk d1 1))):Int)then(jn (fun d2 m2=>(bif bo (aq (au (dk d2 4))) (aq (au (dk d2 4)))then(k3 [dk d2 0,dk d2 1,dk d2 2,bj (au (dk d2 4)),az (ar aw (ao (dk d2 3)+1))] [])else none)) (fun k4=>(bif decide (ao (bc (bp (au (dk d1 1)) (av (ao (dk d1 4))) dw) 1)=ao (dk d1 0))then(bif bo (aq (au (dk d1 3))) (aq (au (dk d1 3)))then(if(aq (au (dk d1 3))+1)*8<=140737488355328/\aq (au (dk d1 3))+1<=9223372036854775807 then(bif bo (aq (au (dk d1 3))+1) (aq (au (dk d1 3)++[bc (bp (au (dk d1 1)) (av (ao (dk d1 4))) dw) 2]))then(k4 [dk d1 0,dk d1 1,dk d1 2,dk d1 4,bj (au (dk d1 3)++[bc (bp (au (dk d1 1)) (av (ao (dk d1 4))) dw) 2])] [])else none)else none)else none)else(bif bo (aq (au (dk d1 3))) (aq (au (dk d1 3)))then(k4 [dk d1 0,dk d1 1,dk d1 2,dk d1 4,bj (au (dk d1 3))] [])else none))))else none)else(bif bo (aq (au (dk d1 3))) (aq (au (dk d1 3)))then(k2 [bj (au (dk d1 3))] [])else none))
def gW (a0 a1:C) (k1:KD R):Option R:=jn (fun d1 m1=>(Mf N (bj (au (dk d1 0))) (fun d2 m2=>(k1 [dk d2 0,dk d2 1] [])))) (fun k2=>(Ac N (XP N k2) [a1,bc a0 4,az (↑(aq (au (bc a0 4))):Int),bj [],az 0] []))
def Sq:=lid "" (@gW R N)
theorem Z4 {R N a0 a1 k}:@Sq R N a0 a1 k=gW N a0 a1 k:=by unfold Sq;rw[AV]
def z0s:OvG R:=Ae [Bi,.int .i64] (Bq (Sq N)) fun a K d1 m1=>K (ow [V.d (br ay) (dk d1 0),V.d (br aw) (dk d1 1)]) []
theorem z0t:okX 108 (@z0s R N):=Ai (AH (fO N) <| AW) N [(108,[(0,[(2,5)])])] [(108,[([1,0,1,1],(Af [(6,.sl 8 (.int .u64) 5006)])),
  ([4,1,0,1,1],(AX [1,10,11] [(6,.sl 8 (.int .u64) 5006),(12,.d (.int .i64))])),
  ([1,1,4,0,1,1,5,4,1,0,1,1],(AX [1,10,11,12] [(6,.sl 8 (.int .u64) 5006)])),
  ([9],(Af [(4,.d (.int .u64)),(5,.d (.int .i64))]))])] (fun _ _=>Z4)
def gX {R:Type} (N:Nat) (a0:C) (k1:KD R):Option R:=k1 [az (ar aw (1-ao a0))] []
def XQ:=lid "" (@gX R N)
theorem Z9 {R N a0 k}:@XQ R N a0 k=gX N a0 k:=by unfold XQ;rw[AV]
def z0v:OvG R:=Ae [.int .i64] (Bw (XQ N)) (BD (br aw))
theorem z0w:okX 109 (@z0v R N):=Ai AW N [] [(109,[([9],(Af [(2,.d (.int .i64))]))])] (fun _ _=>Z9)
def XO (k1:KD R) (k2:KD R):KD R->KD R:=fun k3 d5 m5=>(bif decide (ao (dk d5 3)<ao (dk d5 1))then(if 0<=ao (dk d5 3)/\ao (dk d5 3)<(↑(aq (au (dk d5 0))):Int)then(Md N (dk d5 2) (bp (au (dk d5 0)) (av (ao (dk d5 3))) dw) (fun d6 m6=>(bif !decide (ao (dk d6 1)=0)then(k1 [az 0,dk d6 1] [])else(k3 [dk d5 0,dk d5 1,dk d6 0,az (ar aw (ao (dk d5 3)+1))] []))))else none)else(k2 [dk d5 2] []))
def gV (a0 a1 a2:C) (k1:KD R):Option R:=PM N a2 (fun d1 m1=>(bif !cz (dk d1 0)then(k1 [az 0,az 1] [])else(Sq N a0 a2 (fun d2 m2=>(bif !decide (ao (dk d2 1)=0)then(k1 [az 0,dk d2 1] [])else(if 0<=ao a2/\ao a2<2 then(XQ N a2 (fun d3 m3=>(if 0<=ao (dk d3 0)/\ao (dk d3 0)<2 then(Mf N (bj [bc a1 (av (ao a2)),bc (bc a0 2) (av (ao (dk d3 0)))]) (fun d4 m4=>(bif !decide (ao (dk d4 1)=0)then(k1 [az 0,dk d4 1] [])else(if 0<=ao a2/\ao a2<2 then(if 0<=ao a2/\ao a2<2 then(jn (fun d5 m5=>(k1 [dk d5 0,az 0] [])) (fun k2=>(Ac N (XO N k1 k2) [bj [bc (bc a0 2) (av (ao a2)),bc (bc a0 3) (av (ao a2)),dk d2 0],az (↑3:Int),dk d4 0,az 0] [])))else none)else none))))else none)))else none))))))
def PH:=lid "" (@gV R N)
theorem Z3 {R N a0 a1 a2 k}:@PH R N a0 a1 a2 k=gV N a0 a1 a2 k:=by unfold PH;rw[AV]
def z0r:OvG R:=Ae [Bi,.arr 2 (.int .u64),.int .i64] (Eb (PH N)) fun a K d1 m1=>K (ow [V.d (br ay) (dk d1 0),V.d (br aw) (dk d1 1)]) []
theorem Z2:okX 84 (@z0r R N):=Ai (AH (fO N) <| AH (fL N) <| AH (Y7 N) <| AH (z0t N) <| AH (z0w N) <| AW) N [(84,[(0,[(3,5),(4,5)]),(6,[(30,7),(35,7)])])] [(84,[([1,0,1,1,1,1,1,1],(Af [(10,.d (.int .u64))])),
  ([4,1,0,1,1,1,1,1,1],(AX [50,51] [(10,.d (.int .u64)),(52,.d (.int .i64))])),
  ([9],(Af [(6,.d (.int .u64)),(7,.d (.int .i64))]))])] (fun _ _=>Z3)
def XN {R:Type} (N:Nat) (a1:C) (k2:KD R) (k3:KD R):KD R->KD R:=fun k4 d1 m1=>(bif decide (ao (dk d1 2)<ao (dk d1 1))then(if 0<=ao (dk d1 2)/\ao (dk d1 2)<(↑(aq (au (dk d1 0))):Int)then(jn (fun d2 m2=>(bif cz (dk d2 0)then(k2 [dk d1 2] [])else(k4 [dk d1 0,dk d1 1,az (ar aw (ao (dk d1 2)+1))] []))) (fun k5=>(k5 [cg (decide (ao (bc (bp (au (dk d1 0)) (av (ao (dk d1 2))) dw) 0)=ao a1))] [])))else none)else(k3 [] []))
def gU (a0 a1:C) (k1:KD R):Option R:=jn (fun d1 m1=>(k1 [dk d1 0] [])) (fun k2=>(jn (fun d1 m1=>(k2 [az (-1)] [])) (fun k3=>(Ac N (XN N a1 k2 k3) [bc a0 4,az (↑(aq (au (bc a0 4))):Int),az 0] []))))
def Sp:=lid "" (@gU R N)
theorem Z1 {R N a0 a1 k}:@Sp R N a0 a1 k=gU N a0 a1 k:=by unfold Sp;rw[AV]
def z0p:OvG R:=Ae [Bi,.int .u64] (Bq (Sp N)) (BD (br aw))
theorem z0q:okX 93 (@z0p R N):=Ai AW N [(93,[(0,[(2,5)])]),(116,[(0,[(2,5)])])] [(93,[([9],(Af [(4,.d (.int .i64))]))]),(115,[([1,0,1],⟨[],[],[],[],[.g (.l 3)],[]⟩),([4,1,0,1],⟨[0,1,7],[(8,.d (.int .i64))],[],[],[.g (.l 3)],[]⟩),([9],⟨[],[(4,.d (.int .i64))],[],[],[.g (.l 3)],[]⟩)]),(116,[([9],(Af [(3,.d .bool)]))])] (fun _ _=>Z1)
def Ss (k1:KD R) (k2:KD R):KD R->KD R:=fun k3 d3 m3=>(bif decide (ao (dk d3 3)<2)then(if 0<=ao (dk d3 3)/\ao (dk d3 3)<2 then(PH N (dk d3 0) (dk d3 1) (bc (dk d3 2) (av (ao (dk d3 3)))) (fun d4 m4=>(bif !decide (ao (dk d4 1)=0)then(k1 [dk d4 1] [])else(k3 [dk d3 0,dk d3 1,dk d3 2,az (ar aw (ao (dk d3 3)+1))] []))))else none)else(k2 [] []))
def XR (k1:KD R) (k2:KD R):KD R->KD R:=fun k3 d2 m2=>(bif decide (ao (dk d2 4)<ao (dk d2 3))then(if 0<=ao (dk d2 4)/\ao (dk d2 4)<(↑(aq (au (dk d2 2))):Int)then(jn (fun d3 m3=>(bif cz (dk d3 6)then(k1 [az 1] [])else(Sp N (dk d3 0) (bc (dk d3 7) 0) (fun d4 m4=>(bif !decide (ao (dk d4 0)=ao (dk d3 2))then(k1 [az 7] [])else(k3 [dk d3 0,dk d3 1,dk d3 3,dk d3 4,az (ar aw (ao (dk d3 5)+1))] [])))))) (fun k4=>(PM N (bc (bp (au (dk d2 2)) (av (ao (dk d2 4))) dw) 1) (fun d3 m3=>(bif !cz (dk d3 0)then(k4 [dk d2 0,dk d2 1,dk d2 4,dk d2 2,dk d2 3,dk d2 4,cg true,bp (au (dk d2 2)) (av (ao (dk d2 4))) dw] [])else(k4 [dk d2 0,dk d2 1,dk d2 4,dk d2 2,dk d2 3,dk d2 4,cg (decide (ao (bc (bp (au (dk d2 2)) (av (ao (dk d2 4))) dw) 2)=0)),bp (au (dk d2 2)) (av (ao (dk d2 4))) dw] []))))))else none)else(k2 [dk d2 0,dk d2 1] []))
def gZ (a0 a1:C) (k1:KD R):Option R:=jn (fun d1 m1=>(bif cz (dk d1 2)then(k1 [az 8] [])else(jn (fun d2 m2=>(jn (fun d3 m3=>(k1 [az 0] [])) (fun k2=>(Ac N (Ss N k1 k2) [dk d2 0,dk d2 1,db (db (AI (ct 2 (br aw))) 0 (az 0)) 1 (az 1),az 0] [])))) (fun k2=>(Ac N (XR N k1 k2) [dk d1 0,dk d1 1,bc (dk d1 0) 4,az (↑(aq (au (bc (dk d1 0) 4))):Int),az 0] []))))) (fun k2=>(bif decide (200<ao (bc a0 1))then(k2 [a0,a1,cg true] [])else(k2 [a0,a1,cg (decide (8<(↑(aq (au (bc a0 4))):Int)))] [])))
def PK:=lid "" (@gZ R N)
theorem Y2 {R N a0 a1 k}:@PK R N a0 a1 k=gZ N a0 a1 k:=by unfold PK;rw[AV]
def z0z:OvG R:=Ae [Bi,.arr 2 (.int .u64)] (Bq (PK N)) (BD (br aw))
theorem Y1:okX 66 (@z0z R N):=Ai (AH (Z2 N) <| AH (Y7 N) <| AH (z0q N) <| AW) N [(66,[(0,[(2,5),(3,5)])])] [(66,[([0,0,1],(AX [2,3] [(19,.d .bool)])),
  ([1,0,1,1],(AX [2,3] [])),
  ([4,1,0,1,1],(AX [2,3,21,22] [(23,.d (.int .i64))])),
  ([0,4,1,4,0,1,1,5,4,1,0,1,1],(AX [2,3,5,6,21,22,23] [(28,.d .bool)])),
  ([1,0,1,1,1],(Af [])),
  ([4,1,0,1,1,1],(AX [2,3,46] [(47,.d (.int .i64))])),
  ([9],(Af [(4,.d (.int .i64))]))])] (fun _ _=>Y2)
def Su {R:Type} (N:Nat) (k4:KD R):KD R->KD R:=fun k5 d5 m5=>(bif decide (ao (dk d5 9)<ao (dk d5 7))then(if 0<=ao (dk d5 9)/\ao (dk d5 9)<(↑(aq (au (dk d5 6))):Int)then(if 0<=ao (dk d5 9)/\ao (dk d5 9)<(↑(aq (au (dk d5 0))):Int)then(jn (fun d6 m6=>(bif bo (aq (au (dk d6 9))) (aq (au (dk d6 9)))then(k5 [dk d6 0,dk d6 1,dk d6 2,dk d6 3,dk d6 4,dk d6 5,dk d6 6,dk d6 7,bj (au (dk d6 9)),az (ar aw (ao (dk d6 8)+1)),dk d6 10,dk d6 11] [])else none)) (fun k6=>(bif !decide (ao (bc (bp (au (dk d5 6)) (av (ao (dk d5 9))) dw) 1)=ao (dk d5 4))==cz (bp (au (dk d5 0)) (av (ao (dk d5 9))) dw)then(bif bo (aq (au (dk d5 8))) (aq (au (dk d5 8)))then(if(aq (au (dk d5 8))+1)*8<=140737488355328/\aq (au (dk d5 8))+1<=9223372036854775807 then(bif bo (aq (au (dk d5 8))+1) (aq (au (dk d5 8)++[bc (bp (au (dk d5 6)) (av (ao (dk d5 9))) dw) 2]))then(k6 [dk d5 0,dk d5 1,dk d5 2,dk d5 3,dk d5 4,dk d5 5,dk d5 6,dk d5 7,dk d5 9,bj (au (dk d5 8)++[bc (bp (au (dk d5 6)) (av (ao (dk d5 9))) dw) 2]),dk d5 10,dk d5 11] [])else none)else none)else none)else(bif bo (aq (au (dk d5 8))) (aq (au (dk d5 8)))then(k6 [dk d5 0,dk d5 1,dk d5 2,dk d5 3,dk d5 4,dk d5 5,dk d5 6,dk d5 7,dk d5 9,bj (au (dk d5 8)),dk d5 10,dk d5 11] [])else none))))else none)else none)else(bif bo (aq (au (dk d5 8))) (aq (au (dk d5 8)))then(k4 [dk d5 0,dk d5 1,dk d5 2,dk d5 3,dk d5 4,dk d5 5,bj (au (dk d5 8)),dk d5 10,dk d5 11] [])else none))
def XS (k1:KD R) (k2:KD R):KD R->KD R:=fun k3 d2 m2=>(bif decide (ao (dk d2 4)<2)then(PH N (dk d2 1) (dk d2 2) (dk d2 4) (fun d3 m3=>(if 0<=ao (dk d2 4)/\ao (dk d2 4)<2 then(if 0<=ao (dk d2 4)/\ao (dk d2 4)<2 then(Md N (bc (bc (dk d2 1) 3) (av (ao (dk d2 4)))) (bc (dk d2 3) (av (ao (dk d2 4)))) (fun d4 m4=>(bif !decide (ao (dk d4 1)=0)then(k1 [dk d4 1,AI (ct 2 (br ay))] [])else(jn (fun d5 m5=>(Mf N (bj (au (dk d5 6))) (fun d6 m6=>(if 0<=ao (dk d5 4)/\ao (dk d5 4)<2 then(bif !decide (ao (dk d6 1)=0)then(k1 [dk d6 1,AI (ct 2 (br ay))] [])else(k3 [dk d5 0,dk d5 1,dk d5 2,dk d5 3,az (ar aw (ao (dk d5 5)+1)),dk d5 7,db (dk d5 8) (av (ao (dk d5 4))) (dk d6 0)] []))else none)))) (fun k4=>(Ac N (Su N k4) [dk d2 0,dk d2 1,dk d2 2,dk d2 3,dk d2 4,dk d2 4,bc (dk d2 1) 4,az (↑(aq (au (bc (dk d2 1) 4))):Int),bj [dk d3 0,dk d4 0],az 0,dk d2 5,dk d2 6] []))))))else none)else none)))else(k2 [dk d2 5,dk d2 6] []))
def hJ (a0 a1 a2 a3:C) (k1:KD R):Option R:=PK N a0 a1 (fun d1 m1=>(bif !decide (ao (dk d1 0)=0)then(k1 [dk d1 0,AI (ct 2 (br ay))] [])else(bif !decide ((↑(aq (au a3)):Int)=(↑(aq (au (bc a0 4))):Int))then(k1 [az 1,AI (ct 2 (br ay))] [])else(jn (fun d2 m2=>(k1 [az 0,dk d2 1] [])) (fun k2=>(Ac N (XS N k1 k2) [a3,a0,a1,a2,az 0,AI (ct 2 (br ay)),AI (ct 2 (br ay))] []))))))
def Sv:=lid "" (@hJ R N)
theorem Y3 {R N a0 a1 a2 a3 k}:@Sv R N a0 a1 a2 a3 k=hJ N a0 a1 a2 a3 k:=by unfold Sv;rw[AV]
def z0A:OvG R:=Ae [Bi,.arr 2 (.int .u64),.arr 2 (.int .u64),.slice 1 .bool] (fun a=>Sv N (a 0) (a 1) (a 2) (a 3)) fun a K d1 m1=>K (ow [V.d (ct 2 (br ay)) (dk d1 1),V.d (br aw) (dk d1 0)]) []
theorem z0B:okX 58 (@z0A R N):=Ai (AH (fO N) <| AH (Y1 N) <| AH (Z2 N) <| AH (fL N) <| AW) N [(58,[(0,[(4,5),(5,5),(6,5)]),(14,[(61,4)]),(11,[(52,7)]),(18,[(19,6)])])] [(58,[([1,0,1,1,1,1],(AX [8,11] [])),
  ([4,1,0,1,1,1,1],(AX [3,4,5,6,8,11] [(34,.d (.int .i64))])),
  ([1,0,1,1,1,1,1,4,0,1,1,5,4,1,0,1,1,1,1],(AX [3,4,5,6,8,11,12,34] [(17,.sl 8 (.int .u64) 5017)])),
  ([4,1,0,1,1,1,1,1,4,0,1,1,5,4,1,0,1,1,1,1],(AX [3,4,5,6,8,11,12,34,63,64] [(17,.sl 8 (.int .u64) 5017),(65,.d (.int .i64))])),
  ([1,1,4,0,1,1,5,4,1,0,1,1,1,1,1,4,0,1,1,5,4,1,0,1,1,1,1],(AX [3,4,5,6,8,11,12,34,63,64,65] [(17,.sl 8 (.int .u64) 5017)])),
  ([9],⟨[],[(8,.as (.ptr (.l 8) [] (.arr 2 (.int .u64)))),(9,.d (.int .i64))],[],[(.l 8,.box (.d (.arr 2 (.int .u64))))],[],[]⟩)])] (fun _ _=>Y3)
section
variable {R:Type} {N:Nat}
theorem q6Y (a:C) (k:KD R):PM N a k=k [.bool (decide (a.toInt=0\/a.toInt=1))] []:=by
 rw[hU];unfold XT;by_cases h:a.toInt=0 <;> simp[h,go_sem,Ah]
def AY (s:C):List C:=(s.get 4).elems
def GK (side:Int) (l:List C):List C:=(l.filter fun c=>decide ((c.get 1).toInt=side)).map fun c=>c.get 2
def GL (s:C) (side:Int):Int × Int:=Di (GK side (AY s))
theorem q6L {side:Int} {l:List C} {i:Nat} {c:C} (h:l[i]? =some c):GK side (l.take (i+1))=GK side (l.take i)++(if(c.get 1).toInt=side then[c.get 2]else[]):=by
 unfold GK;rw[List.take_add_one,h,Option.toList_some,List.filter_append,List.map_append];by_cases hs:(c.get 1).toInt=side <;> simp[hs]
theorem vY {side:Int} {l:List C} {i:Nat}:(GK side (l.take i)).length<=i:=by
 unfold GK;rw[List.length_map];exact Nat.le_trans (List.length_filter_le _ _) (by rw[List.length_take];omega)
theorem q6K (s side:C) (hl:(AY s).length<1099511627776) (hN:2199023255552<N) (k:KD R):Sq N s side k=k [.int (GL s side.toInt).1,.int (GL s side.toInt).2] []:=by
 rw[Z4];unfold gW;rw[AQ];refine Dd (F:=XP N _) (fun i=>[side,s.get 4,.int (AY s).length,.slice (GK side.toInt ((AY s).take i)),.int i]) (fun _=>[]) (AY s).length _ ?_ ?_ (by omega)
 ·intro i hi rec;have hc:(AY s)[i]? =some (AY s)[i]:=List.getElem?_eq_getElem hi;have h1:(i:Int)<((AY s).length:Int):=by omega
  have h2:=vY (side:=side.toInt) (l:=AY s) (i:=i);have h3:((GK side.toInt ((AY s).take i)).length+1)*8<=140737488355328/\(GK side.toInt ((AY s).take i)).length+1<=9223372036854775807:=by omega
  have hd:(s.get 4).elems.getD i .nil=(AY s)[i]:=HD hc;have hs:(s.get 4).elems.length=(AY s).length:=rfl;unfold XP;simp only[go_sem,AB,AJ,hs,h1,hd,BM (show i<4611686018427387904 by omega),bu,and_self,AE,h3,bw,q6L hc];by_cases h:((AY s)[i].get 1).toInt=side.toInt
  ·simp[h]
  ·simp[h]
 ·intro rec;unfold XP;simp only[go_sem,AB,AJ,fb,AE,bw,ir];have h2:=vY (side:=side.toInt) (l:=AY s) (i:=(AY s).length);rw[ir]at h2;rw[mU _ (by rw[AJ];omega) hN];rfl
def KR (_:Nat) (s:Int) (c:C):Int ⊕ Int:=if(Bu s c.toInt).2=0 then .inl (Bu s c.toInt).1 else .inr (Bu s c.toInt).2
def Cr (s put:C) (side:Int):Int × Int:=
 if side≠0/\side≠1 then(0,1)else if(GL s side).2≠0 then(0,(GL s side).2)else
  if(Di [put.get side.toNat,(s.get 2).get (1-side).toNat]).2≠0 then(0,(Di [put.get side.toNat,(s.get 2).get (1-side).toNat]).2)else
   Je (BG KR 0 (Di [put.get side.toNat,(s.get 2).get (1-side).toNat]).1 [(s.get 2).get side.toNat,(s.get 3).get side.toNat,.int (GL s side).1])
theorem vE (s put side:C) (hl:(AY s).length<1099511627776) (hN:2199023255552<N) (k:KD R):PH N s put side k=k [.int (Cr s put side.toInt).1,.int (Cr s put side.toInt).2] []:=by
 rw[Z3];unfold gV Cr;rw[hU];unfold XT;by_cases hs:side.toInt≠0/\side.toInt≠1
 ·simp[hs.1,hs.2,go_sem,AB,Ah]
 ·have hs':side.toInt=0\/side.toInt=1:=by omega
  have h2:0<=side.toInt/\side.toInt<2:=by omega
  have h3:0<=(1-side.toInt)/\(1-side.toInt)<2:=by omega
  have w:IntKind.i64.wrap (1-side.toInt)=1-side.toInt:=IntWalk.i64_in _ (by omega);have hb:(bif decide (side.toInt=0)then true else decide (side.toInt=1))=true:=by rcases hs' with h|h <;> simp[h]
  have e:∀K:KD R,(bif decide (side.toInt=0)then K [.bool true] []else K [.bool (decide (side.toInt=1))] [])=K [.bool true] []:=fun K=>by rcases hs' with h|h <;> simp[h]
  rw[if_neg hs];simp only[go_sem,AB,Ah,e,q6K s side hl hN,AE,h2,and_self,Z9,gX,w,h3];by_cases h4:(GL s side.toInt).2=0
  ·simp only[h4,AE,ne_eq,not_true];rw[mU _ (by simp[au]) hN];simp only[go_sem,AB,AJ];by_cases h5:(Di [put.get side.toInt.toNat,(s.get 2).get (1-side.toInt).toNat]).2=0
   ·simp only[h5,AE,ne_eq,not_true]
    refine(Hs (F:=XO N k _) (fun i (x:Int)=>[.slice [(s.get 2).get side.toInt.toNat,(s.get 3).get side.toInt.toNat,.int (GL s side.toInt).1],.int 3,.int x,.int i]) (fun _ _=>[])
     [(s.get 2).get side.toInt.toNat,(s.get 3).get side.toInt.toNat,.int (GL s side.toInt).1] KR (fun s=>k [.int s,.int 0] []) (fun e=>k [.int 0,.int e] []) ?_ ?_ (by simp;omega)).trans ?_
    ·intro i x c hx hi rec;have hi3:i<3:=hi;have h1:(i:Int)<3:=by omega
     have hlen:(i:Int)<((0+1+1+1:Nat):Int):=by omega
     unfold XO KR;simp only[go_sem,AB,AJ,h1,sub_eq,BM (show i<4611686018427387904 by omega),bu,and_self,if_true,HD hx,cn,df,hlen];by_cases h:(Bu x c.toInt).2=0 <;> simp[h]
    ·intro x rec;unfold XO;simp only[go_sem,AB,AJ];simp
    ·unfold EA Je;cases BG KR 0 (Di [put.get side.toInt.toNat,(s.get 2).get (1-side.toInt).toNat]).1 [(s.get 2).get side.toInt.toNat,(s.get 3).get side.toInt.toNat,.int (GL s side.toInt).1] <;> rfl
   ·simp[h5]
  ·simp[h4]
def zz2:C:=.agg [.int 0,.int 1]
def findF (id:Int) (i:Nat) (_:Unit) (c:C):Unit ⊕ Nat:=if(c.get 0).toInt=id then .inr i else .inl ()
def XW:Unit ⊕ Nat->Int
 | .inl _=>-1
 | .inr i=>i
def GG (s:C) (id:Int):Int:=XW (BG (findF id) 0 () (AY s))
theorem find_eq (s id:C) (hl:(AY s).length<1099511627776) (hN:2199023255552<N) (k:KD R):Sp N s id k=k [.int (GG s id.toInt)] []:=by
 rw[Z1];unfold gU;rw[AQ,AQ];refine(Hs (F:=XN N id _ _) (fun i (_:Unit)=>[s.get 4,.int (AY s).length,.int i]) (fun _ _=>[]) (AY s) (findF id.toInt) (fun _=>k [.int (-1)] []) (fun i=>k [.int i] []) (s0:=()) ?_ ?_ (by omega)).trans ?_
 ·intro i _ c hx hi rec;have h1:(i:Int)<((AY s).length:Int):=by omega
  have hd:(s.get 4).elems.getD i .nil=c:=HD hx;have hs:(s.get 4).elems.length=(AY s).length:=rfl;unfold XN findF;simp only[go_sem,AB,Ah,hs,h1,hd,BM (show i<4611686018427387904 by omega),bu,and_self,if_true];by_cases h:(c.get 0).toInt=id.toInt <;> simp[h]
 ·intro _ rec;unfold XN;simp only[go_sem,AB,fb,if_false]
 ·unfold GG EA XW;cases BG (findF id.toInt) 0 () (AY s) <;> rfl
def Iu (s:C) (i:Nat) (_:Unit) (c:C):Unit ⊕ Int:=
 if((c.get 1).toInt≠0/\(c.get 1).toInt≠1)\/(c.get 2).toInt=0 then .inr 1 else if GG s (c.get 0).toInt=i then .inl ()else .inr 7
def Ib (s put:C) (_:Nat) (_:Unit) (side:Int):Unit ⊕ Int:=if(Cr s put side).2=0 then .inl ()else .inr (Cr s put side).2
def okE:Unit ⊕ Int->Int
 | .inl _=>0
 | .inr e=>e
def Fm (s put:C):Int:=
 if 200<(s.get 1).toInt\/8<(AY s).length then 8 else match BG (Iu s) 0 () (AY s)with
  | .inl _=>okE (BG (Ib s put) 0 () [0,1])
  | .inr e=>e
theorem q1H (s put:C) (hN:2199023255552<N) (k:KD R):PK N s put k=k [.int (Fm s put)] []:=by
 rw[Y2];have hz:db (db (AI (ct 2 (br aw))) 0 (az 0)) 1 (az 1)=zz2:=rfl;unfold gZ Fm;rw[hz];by_cases h1:200<(s.get 1).toInt
 ·simp[h1,go_sem,AB,Ah]
 have h8e:((8:Int)<(((s.get 4).elems.length:Nat):Int))=(8<(AY s).length):=by
  show((8:Int)<(((AY s).length:Nat):Int))=_;exact propext ⟨fun h=>by omega,fun h=>by omega⟩
 by_cases h2:8<(AY s).length
 ·simp only[h1,h2,go_sem,AB,Ah,h8e,or_true,if_true]
 have hl:(AY s).length<1099511627776:=by omega
 have key:∀k':KD R,Ac N (Ss N k k') [s,put,zz2,.int 0] []=EA (fun _=>k' [] []) (fun e=>k [.int e] []) (BG (Ib s put) 0 () [0,1]):=by
  intro k';refine Hs (F:=Ss N k k') (fun i (_:Unit)=>[s,put,zz2,.int i]) (fun _ _=>[]) [0,1] (Ib s put) (fun _=>k' [] []) (fun e=>k [.int e] []) (s0:=()) ?_ ?_ (by simp;omega)
  ·intro i _ c hx hi rec;have hi2:i<2:=hi;have h1:(i:Int)<2:=by omega
   have hc:zz2.get i= .int c:=by
    have:i=0\/i=1:=by omega
    rcases this with rfl|rfl <;> simp at hx <;> subst hx <;> rfl
   unfold Ss Ib;simp only[go_sem,AB,h1,hc,vE s put _ hl hN,BM (show i<4611686018427387904 by omega),bu,and_self,if_true];by_cases h:(Cr s put c).2=0 <;> simp[h]
  ·intro _ rec;unfold Ss;simp[go_sem,AB]
 have hor:¬(200<(s.get 1).toInt\/8<(AY s).length):=by omega
 rw[if_neg hor];simp only[h1,h2,go_sem,AB,Ah,h8e,AE];refine(Hs (F:=XR N k _) (fun i (_:Unit)=>[s,put,s.get 4,.int (AY s).length,.int i]) (fun _ _=>[]) (AY s) (Iu s) (fun _=>k [.int (okE (BG (Ib s put) 0 () [0,1]))] []) (fun e=>k [.int e] []) (s0:=()) ?_ ?_ (by omega)).trans ?_
 ·intro i _ c hx hi rec;have h1:(i:Int)<((AY s).length:Int):=by omega
  have hd:(s.get 4).elems.getD i .nil=c:=HD hx;have hs:(s.get 4).elems.length=(AY s).length:=rfl;unfold XR Iu;simp only[go_sem,AB,Ah,hs,h1,hd,BM (show i<4611686018427387904 by omega),bu,and_self,if_true,find_eq s _ hl hN,q6Y];by_cases h3:(c.get 1).toInt=0
  ·by_cases h4:(c.get 2).toInt=0
   ·simp[h3,h4]
   ·by_cases h5:GG s (c.get 0).toInt=i <;> simp[h3,h4,h5]
  ·by_cases h3':(c.get 1).toInt=1
   ·by_cases h4:(c.get 2).toInt=0
    ·simp[h3',h4]
    ·by_cases h5:GG s (c.get 0).toInt=i <;> simp[h3',h4,h5]
   ·simp[h3,h3']
 ·intro _ rec;unfold XR;simp only[go_sem,AB,fb,AE,key];unfold EA okE;cases BG (Ib s put) 0 () [0,1] <;> rfl
 ·unfold EA;cases BG (Iu s) 0 () (AY s) <;> rfl
theorem q1I {s put:C} (h:Fm s put=0):(AY s).length<=8/\(s.get 1).toInt<=200:=by
 unfold Fm at h;split at h
 ·cases h
 ·omega
def KO (done:List C) (side:Int) (j:Nat) (acc:List C) (c:C):List C ⊕ Unit:=.inl (if(!(decide ((c.get 1).toInt=side)==(done.getD j .nil).toBool))=true then acc++[c.get 2]else acc)
def SA:List C ⊕ Unit->List C
 | .inl l=>l
 | .inr _=>[]
def KP (done:List C) (side:Int) (acc l:List C):List C:=SA (BG (KO done side) 0 acc l)
theorem q1a {α σ:Type} {f:Nat->σ->α->σ ⊕ Unit} (g:Nat->σ->α->σ) (h:∀i s c,f i s c= .inl (g i s c)):∀(l:List α) (i:Nat) (s:σ),∃s',BG f i s l= .inl s'
 | [],_,s=>⟨s,rfl⟩
 |c::l,i,s=>by simp only[BG,h];exact q1a g h l _ _
theorem z37 {done:List C} {s:C} (hd:done.length=(AY s).length) (hl:(AY s).length<=8) (hN:2199023255552<N) (sd:C) (hsd:sd= .slice done) (put yi a b out:C) (side:Nat) (acc:List C) (z70:acc.length<=2) (k4:KD R):
  Ac N (Su N k4) [sd,s,put,yi,.int side,.int side,s.get 4,.int (AY s).length,.slice acc,.int 0,b,out] []=k4 [sd,s,put,yi,.int side,.int side,.slice (KP done side acc (AY s)),b,out] []:=by
 subst hsd
 refine(Ol (F:=Su N k4) (fun j (x:List C)=>[.slice done,s,put,yi,.int side,.int side,s.get 4,.int (AY s).length,.slice x,.int j,b,out]) (fun _ _=>[]) (AY s) (KO done side)
  (fun x=>k4 [.slice done,s,put,yi,.int side,.int side,.slice x,b,out] []) (fun _=>none) (fun j x=>x.length<=j+2) z70 ?_ ?_ (by omega)).trans ?_
 ·intro j x c hx hP;have hj:j<(AY s).length:=(bz.1 hx).1;refine⟨fun rec=>?_,fun x' hx'=>?_⟩
  ·have h1:(j:Int)<((AY s).length:Int):=by omega
   have h1d:(j:Int)<(done.length:Int):=by omega
   have hg:(s.get 4).elems.getD j .nil=c:=HD hx;have hs:(s.get 4).elems.length=(AY s).length:=rfl;have h3:(x.length+1)*8<=140737488355328/\x.length+1<=9223372036854775807:=by omega
   unfold Su KO;simp only[go_sem,AB,Ah,AJ,hs,h1,h1d,hg,BM (show j<4611686018427387904 by omega),bu,and_self,AE,bw,h3,bx,cn,df];cases h:(!(decide ((c.get 1).toInt=(side:Int))==(done.getD j .nil).toBool)) <;> simp only[AE,Bool.false_eq_true]
  ·unfold KO at hx';simp only[wi]at hx';subst hx';split
   ·simp;omega
   ·omega
 ·intro x hP rec;unfold Su;simp only[go_sem,AB,AJ,fb,AE,bw]
 ·obtain⟨x,hx⟩:=q1a (f:=KO done side) _ (fun _ _ _=>rfl) (AY s) 0 acc;unfold KP;rw[hx];rfl
def NA (done:List C) (s put yi:C) (_:Nat) (out:C) (side:Nat):C ⊕ Int:=
 if(Bu ((s.get 3).get side).toInt (yi.get side).toInt).2≠0 then .inr (Bu ((s.get 3).get side).toInt (yi.get side).toInt).2 else
  if(Di (KP done side [.int (Cr s put side).1,.int (Bu ((s.get 3).get side).toInt (yi.get side).toInt).1] (AY s))).2≠0 then .inr (Di (KP done side [.int (Cr s put side).1,.int (Bu ((s.get 3).get side).toInt (yi.get side).toInt).1] (AY s))).2
  else .inl (out.set side (.int (Di (KP done side [.int (Cr s put side).1,.int (Bu ((s.get 3).get side).toInt (yi.get side).toInt).1] (AY s))).1))
def zz:C:=.agg [.int 0,.int 0]
def mH:C ⊕ Int->Int × C
 | .inl out=>(0,out)
 | .inr e=>(e,zz)
def EE (s put yi:C) (done:List C):Int × C:=
 if Fm s put≠0 then(Fm s put,zz)else if done.length≠(AY s).length then(1,zz)else mH (BG (NA done s put yi) 0 zz [0,1])
theorem q1J {done:List C} {side:Int}:∀(l:List C) (i:Nat) (acc:List C),(SA (BG (KO done side) i acc l)).length<=acc.length+l.length
 | [],_,acc=>by simp[BG,SA]
 |c::l,i,acc=>by
  simp only[BG,KO];refine Nat.le_trans (q1J l _ _) ?_;split <;> simp <;> omega
theorem z38 (s put yi:C) (done:C) (hd:done= .slice done.elems) (hN:2199023255552<N) (k:KD R):Sv N s put yi done k=k [.int (EE s put yi done.elems).1,(EE s put yi done.elems).2] []:=by
 rw[Y3];have hz:AI (ct 2 (br ay))=zz:=rfl;unfold hJ EE;rw[hz,q1H s put hN];by_cases h1:Fm s put=0
 case neg=>simp[h1,go_sem,AB]
 by_cases h2:done.elems.length=(AY s).length
 case neg=>
  have h2':¬((done.elems.length:Int)=((s.get 4).elems.length:Int)):=fun h=>h2 (by show _=(s.get 4).elems.length;omega);simp only[h1,h2,h2',go_sem,AB,AE,ne_eq,not_true,not_false_iff]
 have hs:(s.get 4).elems.length=(AY s).length:=rfl;simp only[h1,h2,hs,go_sem,AB,AE,ne_eq,not_true];obtain⟨hl,_⟩:=q1I h1;refine(Hs (F:=XS N k _) (fun i (out:C)=>[done,s,put,yi,.int i,zz,out]) (fun _ _=>[]) ([0,1]:List Nat) (NA done.elems s put yi) (fun out=>k [.int 0,out] []) (fun e=>k [.int e,zz] []) ?_ ?_ (show 2<N by omega)).trans ?_
 ·intro i out c hx hi rec;have hi2:i<2:=hi;have h1:(i:Int)<2:=by omega
  have hc:c=i:=by
   have:i=0\/i=1:=by omega
   rcases this with rfl|rfl <;> simp at hx <;> exact hx.symm
  subst hc;unfold XS NA;simp only[go_sem,AB,h1,vE s put _ (by omega) hN,BM (show c<4611686018427387904 by omega),bu,and_self,if_true,sub_eq];by_cases h3:(Bu ((s.get 3).get c).toInt (yi.get c).toInt).2=0
  case neg=>simp[h3,hz]
  have:=fun(b out:C) (k4:KD R)=>z37 (N:=N) (s:=s) h2 hl hN done hd put yi zz b out c [.int (Cr s put c).1,.int (Bu ((s.get 3).get c).toInt (yi.get c).toInt).1] (by simp) k4;simp only[h3,AE,ne_eq,not_true];rw[hs,this];have hlen:=q1J (done:=done.elems) (side:=(c:Int)) (AY s) 0 [.int (Cr s put c).1,.int (Bu ((s.get 3).get c).toInt (yi.get c).toInt).1];rw[mU _ (by simp only[go_sem,AJ];unfold KP;simp at hlen;omega) hN];simp only[go_sem,AB,AJ,h1,bu,and_self,if_true,BM (show c<4611686018427387904 by omega)];by_cases h4:(Di (KP done.elems c [.int (Cr s put c).1,.int (Bu ((s.get 3).get c).toInt (yi.get c).toInt).1] (AY s))).2=0 <;> simp[h4,hz]
 ·intro out rec;unfold XS;simp[go_sem,AB]
 ·unfold EA mH;cases BG (NA done.elems s put yi) 0 zz [0,1] <;> rfl
end
def q4g:List Sh:=[.as (.ptr (.g (.l 1)) [] GV),.d (.int .i64)]
def q4i:List (Key × OSh):=[(.l 1,.box (.agg GV [.vec (.g (.l 2)) 8 (.int .u64),.d (.int .i64)])),(.l 2,.box (.arr (.int .u64)))]
def Zt {R:Type} (N:Nat) (a0 b0 b1 b2:C) (k1:KD R):Option R:=jn (fun d1 m1=>(if aq (au (dk d1 3))=aq (au (dk d1 3))then(k1 [az (↑(av (ao (dk d1 0))):Int),dk d1 1,az (↑(av (ao (dk d1 2))):Int),dk d1 3] [])else none)) (fun k2=>(bif decide (ao b1=0)then(if aq (au b2)=aq (au b2)then(k2 [az (↑(av (ao b0)):Int),a0,az (↑(aq (au b2)):Int),b2] [])else none)else(if aq (au b2)=aq (au b2)then(k2 [az (↑(av (ao b0)):Int),b1,az (↑(aq (au b2)):Int),b2] [])else none)))
def IX:=lid "" (@Zt R N)
theorem qX {R N a0 b0 b1 b2 k}:@IX R N a0 b0 b1 b2 k=Zt N a0 b0 b1 b2 k:=by unfold IX;rw[AV]
def q4h:OvG R:=Cc q4g q4i (fun ds ms=>IX N (dk ds 0) (dk ds 1) (dk ds 2) (dk ds 3)) fun ds ms K d1 m1=>K (ow []) [(Key.g (Key.l 1),
  O.box
   (V.agg GV
    [V.sr (Key.l 1000000000074) [] 0 (av (ao (dk d1 0))) none 8 (br ay),
     V.d (br aw) (dk d1 1)])),
 (Key.g (Key.l 2),O.dead (ct (av (ao (dk d1 2))) (br ay))),
 (Key.l 1000000000074,O.box (V.d (ct (aq (au (dk d1 3))) (br ay)) (dk d1 3)))]
theorem Zs:okX 117 (@q4h R N):=Cj AW N [] [(117,[([1],⟨[0],[],[.g (.l 1),.g (.l 2)],[],[],[(.int .u64)]⟩),
  ([9],⟨[],[],[.g (.l 1),.g (.l 2)],[],[],[(.int .u64)]⟩)])] (fun _ _ _=>qX)
end Go.Proofs.YtgdonkaoajbclaaGreatDoor
