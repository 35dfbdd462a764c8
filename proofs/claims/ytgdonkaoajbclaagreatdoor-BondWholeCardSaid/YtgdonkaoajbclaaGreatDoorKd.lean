/-
What Go functions compute, part 4.
Conditions: none.
-/
import Derived.Test.YtgdonkaoajbclaaGreatDoorKc
set_option linter.all false
noncomputable section
set_option maxRecDepth 100000
set_option maxHeartbeats 4000000
open BitVec renaming ofInt->dt
open Bool renaming false_and->jq
open Go.E.C renaming agg->dh,beq->mz,bool->cd,elems->ao,get->ax,int->aw,nil->du,set->ct,slice->bc,toBool->cz,toInt->aj
open Go.E.Ty renaming arr->cq,int->bn
open Go.E.V renaming tup->ou
open Go.IntKind renaming bits->jc,i64->ar,signed->ig,u32->cf,u64->av,u8->bp,wrap->al
open Int renaming fdiv->fw,fdiv_eq_ediv_of_nonneg->ib,lt_irrefl->fa,natCast_nonneg->bq,tdiv->dx,tdiv_eq_ediv_of_nonneg->ei,tmod->bm,tmod_eq_emod_of_nonneg->dj,toNat->aq,toNat_natCast->bf
open List renaming drop->da,eq_of_mem_replicate->ik,getD->bj,getElem?_eq_some_iff->bu,length->ak,length_append->bt,length_cons->cg,length_nil->de,mem_append->dw,mem_cons->fz,mem_of_getElem?->fg,mem_or_eq_of_mem_set->sn,mem_singleton->fq,not_mem_nil->ic,replicate->ay,take->cn,take_length->iu
open Nat renaming beq->bw,beq_refl->br,zero_add->cm
open Sum.inl renaming injEq->wh
namespace Go.Proofs.YtgdonkaoajbclaaGreatDoor
open Go Go.E
variable {R:Type} (N:Nat)
section
variable {R:Type} {N:Nat}
def U2 (hN:10<N) (k:KD R):Te N (.int 2) k=k [.int 4] []:=by rw[q0g];unfold jZ;rw[AP];refine DX (F:=q0f N fun d1 m1=>k [dk d1 0] []) (fun i=>[.int 2,.int ((2^i:Nat):Int),.int i]) (fun _=>[]) 2 (k [.int 4] []) ?_ ?_ (N:=N) (by omega);{intro i hi rec;rcases(by omega:i=0\/i=1)with rfl|rfl <;> rfl};{intro rec;rfl}
structure StW (s:C):Prop where
 ch:W64 (s.get 0).toInt
 rd:W64 (s.get 1).toInt
 p0:W64 ((s.get 2).get 0).toInt
 p1:W64 ((s.get 2).get 1).toInt
 q0:W64 ((s.get 3).get 0).toInt
 q1:W64 ((s.get 3).get 1).toInt
 cs:∀c∈(s.get 4).elems,QT c
 ln:(s.get 4).elems.length<=12
section
variable {t:C} (hOf:∀(p:List C),p.length<=200000->∃c,Dig c/\∀k:KD R,LV N t (.slice p) k=k [c] [])
include hOf
end
end
def mD (a0 a1:C) (k1:KD R):Option R:=KG N (aw 3) (bc [bc (cut (ao a0) 0 32),bc (cut (ao a1) 0 32)]) (fun d1 m1=>(k1 [dk d1 0] []))
def UW:=lid "" (@mD R N)
def q1j {R N a0 a1 k}:@UW R N a0 a1 k=mD N a0 a1 k:=by unfold UW;rw[AW]
def z3v:OvG R:=Af [.arr 32 (.int .u8),.arr 32 (.int .u8)] (Bl (UW N)) (BD (cq 32 (bn bp)))
def z3w:okX 136 (@z3v R N):=Ai (AH (SQ N) <| AZ) N [(136,[(0,[(2,5),(3,5)]),(1,[(8,7)])])] [(136,[([9],⟨[],[(4,.as (.ptr (.l 4) [] (.arr 32 (.int .u8))))],[],[(.l 4,.box (.d (.arr 32 (.int .u8))))],[],[]⟩)])] (fun _ _=>q1j)
def YN (k2:KD R):KD R->KD R:=fun k3 d3 m3=>(bif decide (aj (dk d3 4)<aj (dk d3 2))then(if 0<=aj (dk d3 4)/\aj (dk d3 4)<(↑(ak (ao (dk d3 1))):Int)then(jn (fun d4 m4=>(UW N (dk d4 5) (dk d4 6) (fun d5 m5=>(k3 [dk d4 0,dk d4 2,dk d4 3,aw (fw (aj (dk d4 1)) (2^min (aq 1) 32)),aw (al ar (aj (dk d4 4)+1)),dk d5 0] [])))) (fun k4=>(bif decide (Aj BinOp.and cf (aj (dk d3 3)) 1=1)then(k4 [dk d3 0,dk d3 3,dk d3 1,dk d3 2,dk d3 4,bj (ao (dk d3 1)) (aq (aj (dk d3 4))) du,dk d3 5] [])else(k4 [dk d3 0,dk d3 3,dk d3 1,dk d3 2,dk d3 4,dk d3 5,bj (ao (dk d3 1)) (aq (aj (dk d3 4))) du] []))))else none)else(k2 [dk d3 0,dk d3 5] []))
def mC (a0 a1 a2 a3 a4:C) (k1:KD R):Option R:=jn (fun d1 m1=>(bif cz (dk d1 4)then(k1 [cd false] [])else(Rn N (ax (dk d1 1) 0) (dk d1 3) (fun d2 m2=>(jn (fun d3 m3=>(k1 [cd (mz (dk d3 1) (dk d3 0))] [])) (fun k2=>(Ae N (YN N k2) [dk d1 2,ax (dk d1 1) 2,aw (↑(ak (ao (ax (dk d1 1) 2))):Int),dk d1 0,aw 0,dk d2 0] []))))))) (fun k2=>(bif decide (aj a2<0)then(k2 [a3,a0,a1,a4,cd true] [])else(bif !decide ((↑(ak (ao (ax a0 2))):Int)=aj a2)then(k2 [a3,a0,a1,a4,cd true] [])else(bif !decide (aj (ax a0 1)=aj a3)then(k2 [a3,a0,a1,a4,cd true] [])else(bif decide (aj a2<32)then(if 0<=aj a2 then(k2 [a3,a0,a1,a4,cd !decide (fw (aj a3) (2^min (aq (aj a2)) 32)=0)] [])else none)else(k2 [a3,a0,a1,a4,cd false] []))))))
def UU:=lid "" (@mC R N)
def q1i {R N a0 a1 a2 a3 a4 k}:@UU R N a0 a1 a2 a3 a4 k=mC N a0 a1 a2 a3 a4 k:=by unfold UU;rw[AW]
def z3t:OvG R:=Af [Cd,.arr 32 (.int .u8),.int .i64,.int .u32,.arr 32 (.int .u8)] (fun a=>UU N (a 0) (a 1) (a 2) (a 3) (a 4)) Ev
def z3u:okX 112 (@z3t R N):=Ai (AH (q7N N) <| AH (z3w N) <| AZ) N [(112,[(0,[(5,5),(6,5),(9,5)])])] [(112,[([0,0,1],(AY [3,5,6,9] [(39,.d .bool)])),
  ([1,0,1,1,1],(AY [6,11] [])),
  ([4,1,0,1,1,1],(AY [6,11,46,47] [(12,.d (.int .u32)),(48,.d (.int .i64))])),
  ([1,0,1,4,0,1,1,5,4,1,0,1,1,1],(AY [6,11,12,14,46,47,48] [])),
  ([9],(Ah [(10,.d .bool)]))])] (fun _ _=>q1i)
def Xs (k2:KD R):KD R->KD R:=fun k3 d3 m3=>(bif decide (aj (dk d3 4)<(↑(ak (ao (ax (dk d3 1) 2))):Int))then(jn (fun d4 m4=>(k3 [dk d4 0,dk d4 1,dk d4 2,aw (al av (dx (aj (dk d4 3)) 2)),aw (al ar (aj (dk d4 4)+1)),dk d4 5] [])) (fun k4=>(bif decide (bm (aj (dk d3 3)) 2=0)then(if 0<=aj (dk d3 4)/\aj (dk d3 4)<(↑(ak (ao (ax (dk d3 1) 2))):Int)then(Gq N (dk d3 0) (aw 3) (bc [bc (cn 32 (da 0 (ao (dk d3 5)))),bc (cut (ao (bj (ao (ax (dk d3 1) 2)) (aq (aj (dk d3 4))) du)) 0 32)]) (fun d4 m4=>(k4 [dk d3 0,dk d3 1,dk d3 2,dk d3 3,dk d3 4,dk d4 0] [])))else none)else(if 0<=aj (dk d3 4)/\aj (dk d3 4)<(↑(ak (ao (ax (dk d3 1) 2))):Int)then(Gq N (dk d3 0) (aw 3) (bc [bc (cut (ao (bj (ao (ax (dk d3 1) 2)) (aq (aj (dk d3 4))) du)) 0 32),bc (cn 32 (da 0 (ao (dk d3 5))))]) (fun d4 m4=>(k4 [dk d3 0,dk d3 1,dk d3 2,dk d3 3,dk d3 4,dk d4 0] [])))else none))))else(k2 [dk d3 2,dk d3 3,dk d3 5] []))
def kC (a0 a1 a2 a3 a4 a5:C) (k1:KD R):Option R:=jn (fun d1 m1=>(bif cz (dk d1 5)then(k1 [cd false] [])else(Ta N (dk d1 1) (ax (dk d1 2) 0) (dk d1 4) (fun d2 m2=>(jn (fun d3 m3=>(jn (fun d4 m4=>(k1 [cd (cz (dk d4 0))] [])) (fun k2=>(bif decide (aj (dk d3 1)=0)then(k2 [cd (mz (dk d3 2) (dk d3 0))] [])else(k2 [cd false] []))))) (fun k2=>(Ae N (Xs N k2) [dk d1 1,dk d1 2,dk d1 3,aw (al av (aj (dk d1 0))),aw 0,dk d2 0] []))))))) (fun k2=>(bif decide (aj a3<0)then(k2 [a4,a0,a1,a2,a5,cd true] [])else(bif !decide ((↑(ak (ao (ax a1 2))):Int)=aj a3)then(k2 [a4,a0,a1,a2,a5,cd true] [])else(k2 [a4,a0,a1,a2,a5,cd !decide (aj (ax a1 1)=aj a4)] []))))
def Pq:=lid "" (@kC R N)
def q0j {R N a0 a1 a2 a3 a4 a5 k}:@Pq R N a0 a1 a2 a3 a4 a5 k=kC N a0 a1 a2 a3 a4 a5 k:=by unfold Pq;rw[AW]
def z14:OvG R:=Af [Br,Cd,.arr 32 (.int .u8),.int .i64,.int .u32,.arr 32 (.int .u8)] (fun a=>Pq N (a 0) (a 1) (a 2) (a 3) (a 4) (a 5)) Ev
def z15:okX 140 (@z14 R N):=Ai (AH (Mq N) <| AH (z1R N) <| AZ) N [(140,[(0,[(6,5),(7,5),(8,5),(11,5)]),(9,[(55,20),(56,8)]),(10,[(64,20),(65,8)])])] [(140,[([0,0,1],(AY [4,6,7,8,11] [(30,.d .bool)])),
  ([1,0,1,1,1,1],(AY [8,14] [(13,.d (.int .u64))])),
  ([4,1,0,1,1,1,1],(AY [6,7,8,14] [(13,.d (.int .u64)),(15,.d (.int .i64))])),
  ([1,0,4,0,1,5,4,1,0,1,1,1,1],(AY [6,7,8,13,14,15] [])),
  ([0,1,1,1,1,1],(Ah [(12,.d .bool)])),
  ([9],(Ah [(12,.d .bool)]))])] (fun _ _=>q0j)
def WY {R:Type} (N:Nat) (k2:KD R):KD R->KD R:=fun k3 d2 m2=>(bif decide (aj (dk d2 2)<aj (dk d2 1))then(if 0<=aj (dk d2 2)/\aj (dk d2 2)<(↑(ak (ao (dk d2 0))):Int)then(bif bw (ak (ao (dk d2 5))) (ak (ao (dk d2 5)))then(if(ak (ao (dk d2 5))+1)*32<=140737488355328/\ak (ao (dk d2 5))+1<=9223372036854775807 then(bif bw (ak (ao (dk d2 5))+1) (ak (ao (dk d2 5)++[bj (ao (dk d2 0)) (aq (aj (dk d2 2))) du]))then(k3 [dk d2 0,dk d2 1,aw (al ar (aj (dk d2 2)+1)),dk d2 3,dk d2 4,bc (ao (dk d2 5)++[bj (ao (dk d2 0)) (aq (aj (dk d2 2))) du]),dk d2 6] [])else none)else none)else none)else none)else(k2 [dk d2 3,dk d2 4,bc (ao (dk d2 5)),dk d2 6] []))
def dU (a0:C) (k1:KD R):Option R:=Rs N (ax a0 0) (fun d1 m1=>(jn (fun d2 m2=>(k1 [dh [dk d2 0,dk d2 1,bc (ao (dk d2 2))]] [])) (fun k2=>(Ae N (WY N k2) [ax a0 2,aw (↑(ak (ao (ax a0 2))):Int),aw 0,dk d1 0,ax a0 1,bc [],dh [dh [dh (ay 32 (dh (ay 16 (aw 0)))),dh (ay 32 (dh (ay 16 (aw 0))))],AJ (bn cf),bc []]] []))))
def Oi:=lid "" (@dU R N)
def xU {R N a0 k}:@Oi R N a0 k=dU N a0 k:=by unfold Oi;rw[AW]
def q7X:OvG R:=Af [Cd] (Bs (Oi N)) (BD Cd)
def q7Y:okX 43 (@q7X R N):=Ai (AH (q7W N) <| AZ) N [(43,[(0,[(1,5)]),(1,[(8,7)])])] [(43,[([1,0,1,1],⟨[2,3],[],[],[(.l 3,.box (.agg Cd [.d Gb,.d (.int .u32),(.ts 32 (.arr 32 (.int .u8)))]))],[],[]⟩),
  ([4,1,0,1,1],⟨[2,3,13,14],[(15,.d (.int .i64))],[],[(.l 3,.box (.agg Cd [.d Gb,.d (.int .u32),(.ts 32 (.arr 32 (.int .u8)))]))],[],[]⟩),
  ([9],⟨[],[(2,.as (.ptr (.l 2) [] Cd))],[],[(.l 2,.box (.d Cd))],[],[]⟩)])] (fun _ _=>xU)
def q46:List Sh:=[.ts 1 (.int .u8),.d Bk]
def q49:List (Key × OSh):=[]
def Ve (k2:KD R):KD R->KD R:=fun k3 d4 m4=>(bif decide (aj (dk d4 3)<aj (dk d4 1))then(if 0<=aj (dk d4 3)/\aj (dk d4 3)<(↑(ak (ao (dk d4 0))):Int)then(bif bw (ak (ao (dk d4 2))) (ak (ao (dk d4 2)))then(Qy N (bc (ao (dk d4 2))) (bj (ao (dk d4 0)) (aq (aj (dk d4 3))) du) (fun d5 m5=>(bif bw (ak (ao (dk d5 0))) (ak (ao (dk d5 0)))then(k3 [dk d4 0,dk d4 1,bc (ao (dk d5 0)),aw (al ar (aj (dk d4 3)+1))] [])else none)))else none)else none)else(bif bw (ak (ao (dk d4 2))) (ak (ao (dk d4 2)))then(k2 [bc (ao (dk d4 2))] [])else none))
def aV (a0 a1:C) (k1:KD R):Option R:=bif bw (ak (ao a0)) (ak (ao a0))then(LP N (bc (ao a0)) (bc [ax a1 0]) (fun d1 m1=>(bif bw (ak (ao (dk d1 0))) (ak (ao (dk d1 0)))then(KL N (bc (ao (dk d1 0))) (bc [ax a1 1,ax (ax a1 2) (aq 0),ax (ax a1 2) (aq 1),ax (ax a1 3) (aq 0),ax (ax a1 3) (aq 1)]) (fun d2 m2=>(bif bw (ak (ao (dk d2 0))) (ak (ao (dk d2 0)))then(Mm N (bc (ao (dk d2 0))) (bc [aw (al bp (↑(ak (ao (ax a1 4))):Int))]) (fun d3 m3=>(jn (fun d4 m4=>(bif bw (ak (ao (dk d4 0))) (ak (ao (dk d4 0)))then(k1 [bc (ao (dk d4 0))] [])else none)) (fun k2=>(bif bw (ak (ao (dk d3 0))) (ak (ao (dk d3 0)))then(Ae N (Ve N k2) [ax a1 4,aw (↑(ak (ao (ax a1 4))):Int),bc (ao (dk d3 0)),aw 0] [])else none)))))else none)))else none)))else none
def Qv:=lid "" (@aV R N)
def sA {R N a0 a1 k}:@Qv R N a0 a1 k=aV N a0 a1 k:=by unfold Qv;rw[AW]
def q47:OvG R:=Cf q46 q49 (fun ds ms=>Qv N (dk ds 0) (dk ds 1)) fun ds ms K d1 m1=>K (V.ts 1 (bn bp) (ao (dk d1 0))) []
def q48:okX 138 (@q47 R N):=Cq (AH (j4 N) <| AH (o9 N) <| AH (j6 N) <| AH (q5k N) <| AZ) N [(138,[(0,[(3,5)]),(1,[(11,1),(27,1),(33,1)]),(5,[(43,1)])])] [(138,[([1,0,1,1],(Ah [(0,.sl 1 (.int .u8) 5000)])),
  ([4,1,0,1,1],(AY [35,36] [(0,.sl 1 (.int .u8) 5000),(37,.d (.int .i64))])),
  ([9],(Ah [(4,.sl 1 (.int .u8) 5004)]))])] (fun _ _ _=>sA) fun ds ms K=>(show _=jn (fun d1 m1=>(bif bw (ak (ao (dk d1 0))) (ak (ao (dk d1 0)))then
  (K (V.ts 1 (bn bp) (ao (dk d1 0))) [])
 else
  none)) _ by kernel_rfl).trans (congrArg (fun k=>jn k _) (funext fun _=>funext fun _=>by simp only[br,cond_true]))
def aY (a0:C) (k1:KD R):Option R:=LP N (bc []) (bc [ax a0 0]) (fun d1 m1=>(Qv N (bc []) a0 (fun d2 m2=>(KG N (aw 4) (bc [bc (ao (dk d1 0)),bc (ao (dk d2 0))]) (fun d3 m3=>(k1 [dk d3 0] []))))))
def Qw:=lid "" (@aY R N)
def sE {R N a0 k}:@Qw R N a0 k=aY N a0 k:=by unfold Qw;rw[AW]
def q5e:OvG R:=Af [Bk] (Bs (Qw N)) (BD (cq 32 (bn bp)))
def q5f:okX 114 (@q5e R N):=Ai (AH (SQ N) <| AH (j4 N) <| AH (q48 N) <| AZ) N [(114,[(0,[(1,5)]),(1,[(7,1),(9,1),(11,7)])])] [(114,[([9],⟨[],[(2,.as (.ptr (.l 2) [] (.arr 32 (.int .u8))))],[],[(.l 2,.box (.d (.arr 32 (.int .u8))))],[],[]⟩)])] (fun _ _=>sE)
section
variable {R:Type} {N:Nat}
def q2m:BQ (.int 3):=⟨rfl,by decide,by decide⟩
def vL:BQ (.int 4):=⟨rfl,by decide,by decide⟩
def XX (B:Nat) (l m:List C) (h:∀c∈l,BQ c) (h2:∀c∈m,BQ c) (hl:l.length<=B) (hm:m.length<=B):Hk B [bc l,bc m]:=fun x hx=>by simp only[fz,ic,or_false]at hx;rcases hx with rfl|rfl;{exact⟨rfl,by simpa[AI]using h,by rw[AI];omega⟩};{exact⟨rfl,by simpa[AI]using h2,by rw[AI];omega⟩}
def Oz (d:C) (l m:List C):(CK d [bc l,bc m]).length=l.length+m.length+10:=by unfold CK Cb;simp[JK,AI];omega
def q9M {d l} {B:Nat} (hd:BQ d) (hb:Hk B l):∀c∈CK d l,BQ c:=by intro c hc;unfold CK at hc;rcases dw.1 hc with hc|hc;{simp only[fz,ic,or_false]at hc;rcases hc with rfl|rfl;{exact hd};{exact Nn _}};{obtain⟨x,hx,hc⟩:=List.mem_flatMap.1 hc;unfold Cb at hc;rcases dw.1 hc with hc|hc;{exact Ni _ c hc};{exact(hb x hx).2.1 c hc}}
def Qt {p} (h:Ao 32 p):cut (ao p) 0 32=ao p:=(TB 32 32 (by omega) p h).2
def q2k (l:List C):cn 32 (da 0 l)=cut l 0 32:=rfl
def Lv (a b:C):C:=Hg (CK (.int 3) [.slice a.elems,.slice b.elems])
def oW (a b:C) (ha:Ao 32 a) (hb:Ao 32 b) (hN:5000<N) (hN2:N<4611686018427387904) (k:KD R):UW N a b k=k [Lv a b] []:=by obtain⟨a1,_,a2⟩:=FQ ha;obtain⟨b1,_,b2⟩:=FQ hb;have:=QV (R:=R) (N:=N) (.int 3) q2m [bc a.elems,bc b.elems] 100 (XX 100 _ _ a2 b2 (by omega) (by omega)) (by simp;omega) (by omega) hN2 (by rw[Oz];omega);rw[q1j];unfold mD;simp only[Qt ha,Qt hb,this,AF];rfl
def iX (T:C) (hT:DH T) (a b:C) (ha:Ao 32 a) (hb:Ao 32 b) (hN:5000<N) (k:KD R):Gq N T (.int 3) (.slice [.slice (cut (ao a) 0 32),.slice (cut (ao b) 0 32)]) k=k [Lv a b] []:=by obtain⟨a1,_,a2⟩:=FQ ha;obtain⟨b1,_,b2⟩:=FQ hb;rw[Qt ha,Qt hb];exact QU (R:=R) (N:=N) T hT (.int 3) q2m [bc a.elems,bc b.elems] 100 (XX 100 _ _ a2 b2 (by omega) (by omega)) (by omega) (by simp) (by rw[Oz];omega) (by rw[Oz];simp;omega) k
def q3x (x:Int) (h0:0<=x) (h:x<4294967296):Aj BinOp.and cf x 1=x%2:=by
 have e:(dt 32 x&&&dt 32 1).toNat=x.toNat%2:=by rw[BitVec.toNat_and,show(dt 32 1).toNat=1 from rfl,Nat.and_one_is_mod,BitVec.toNat_ofInt];omega
 show IntKind.u32.wrap ((dt 32 x&&&dt 32 1).toNat:Int)=_;rw[e];have:∀n:Int,IntKind.u32.wrap n=n%4294967296:=fun n=>by simp[al,jc,ig]
 rw[this];omega
structure JI (x:C):Prop where
 eta:x= .agg [x.get 0,.int (x.get 1).toInt,.slice (x.get 2).elems]
 z67:JH (x.get 0)
 key:0<=(x.get 1).toInt/\(x.get 1).toInt<4294967296
 way:∀y∈(x.get 2).elems,Ao 32 y
 len:(x.get 2).elems.length<=10
def upF (_:Nat) (s:C × Int) (y:C):(C × Int) ⊕ Unit:=.inl (if s.2%2=1 then Lv y s.1 else Lv s.1 y,s.2 / 2)
def upG (s:C × Int):List C->C × Int
 | []=>s|y::l=>upG (if s.2%2=1 then Lv y s.1 else Lv s.1 y,s.2 / 2) l
def nV:∀(l:List C) (i:Nat) (s:C × Int),Ax upF i s l= .inl (upG s l)
 | [],_,_=>rfl|y::l,i,s=>by simp only[Ax,upF];exact nV l _ _
def q2A:∀(l:List C) (s:C × Int),(upG s l).2=s.2 / 2^l.length
 | [],s=>by simp[upG]
 |y::l,s=>by simp only[upG];rw[q2A l,cg,Int.pow_succ,Int.mul_comm,Int.ediv_ediv_of_nonneg (by decide)]
def Uv (s:C × Int):Prop:=Ao 32 s.1/\0<=s.2/\s.2<4294967296
def q2B {s s' y} {i:Nat} (h:Uv s) (e:upF i s y= .inl s'):Uv s':=by obtain⟨_,h1,h2⟩:=h;unfold upF at e;simp only[wh]at e;subst e;refine⟨?_,by dsimp only;omega,by dsimp only;omega⟩;dsimp only;split <;> exact KU _
def UT (sig root:C) (zf:Int) (key:Int) (d:C):Bool:=
 decide (0<=zf/\((sig.get 2).elems.length:Int)=zf/\(sig.get 1).toInt=key/\key / 2^zf.toNat=0)&&mz (upG (Rd (sig.get 0) d,key) (sig.get 2).elems).1 root
def z4f (sig root d:C) (zf key:Int) (hs:JI sig) (hd:Ao 32 d) (ht:zf<=10) (hk:0<=key/\key<4294967296) (hN:5000<N) (hN2:N<4611686018427387904) (k:KD R):
  UU N sig root (.int zf) (.int key) d k=k [.bool (UT sig root zf key d)] []:=by
 rw[q1i];unfold mC UT;by_cases z1:zf<0
 ·have z1':¬0<=zf:=by omega
  simp only[AP,AB,z1,z1',AE,Ac,Ag,false_and,jq]
 have z1':0<=zf:=by omega
 by_cases z2:((sig.get 2).elems.length:Int)=zf
 case neg=>simp only[AP,AB,z1,z1',z2,AE,Ac,Ag,false_and,and_false,jq]
 by_cases z3:(sig.get 1).toInt=key
 case neg=>simp only[AP,AB,z1,z1',z2,z3,AE,Ac,Ag,false_and,and_false,jq]
 have z4:zf<32:=by omega
 have m32:min zf.toNat 32=zf.toNat:=by omega
 have fd:fw key (2^zf.toNat)=key / 2^zf.toNat:=ib _ (Int.le_of_lt (Int.pow_pos (by decide)));by_cases z5:key / 2^zf.toNat=0
 case neg=>simp only[AP,AB,z1,z1',z2,z3,z4,m32,fd,z5,AE,Ac,Ag,false_and,and_false,jq]
 simp only[AP,AB,z1,z1',z2,z3,z4,m32,fd,z5,AE,AF,AK,AO,AV,Ac,Ag,and_self,Bool.true_and];rw[q6L _ _ hs.z67 hd hN hN2];simp only[AF];rw[<-z2];refine(Ot (F:=YN N _) (fun i (s:C × Int)=>[root,sig.get 2,.int (sig.get 2).elems.length,.int s.2,.int i,s.1]) (fun _ _=>[]) (sig.get 2).elems upF (fun s=>k [.bool (mz s.1 root)] []) (fun _=>none) (fun _ s=>Uv s) (s0:=(Rd (sig.get 0) d,key)) ⟨KU _,hk⟩ ?_ ?_ (by have:=hs.len;omega)).trans ?_
 ·intro i s y hy hP;refine⟨fun rec=>?_,fun s' e=>q2B hP e⟩;obtain⟨p1,p2,p3⟩:=hP;have hi:i<(sig.get 2).elems.length:=(bu.1 hy).1;have h1:(i:Int)<((sig.get 2).elems.length:Int):=by omega
  have hl:=hs.len;have hw:=hs.way _ (fg hy);have f2:fw s.2 (2^min (aq 1) 32)=s.2 / 2:=ib _ (by decide);unfold YN upF;simp only[AP,AF,AK,AO,AV,Ac,Av,BW,AB,h1,f2,HK hy,q3x _ p2 p3,AE,bq,and_self,bf,BK (show i<4611686018427387904 by omega)];by_cases z:s.2%2=1;{simp only[z,AE,AF,AK,AO,AV,Ac,Av,BW,oW _ _ hw p1 hN hN2,AB,f2]};{simp only[z,AE,AF,AK,AO,AV,Ac,Av,BW,oW _ _ p1 hw hN hN2,AB,f2]}
 ·intro s _ rec;unfold YN;simp only[AP,AF,AK,AO,AV,Ac,Av,AB,fa,AE]
 ·rw[nV];rfl
def q2L (T:C) (hT:DH T) (sig root d:C) (zf key:Int) (hs:JI sig) (hd:Ao 32 d) (ht:zf<=10) (hk:0<=key/\key<4294967296) (hN:5000<N) (k:KD R):
  Pq N T sig root (.int zf) (.int key) d k=k [.bool (UT sig root zf key d)] []:=by
 rw[q0j];unfold kC UT;by_cases z1:zf<0
 ·have z1':¬0<=zf:=by omega
  simp only[AP,AB,z1,z1',AE,Av,Ag,false_and,jq]
 have z1':0<=zf:=by omega
 by_cases z2:((sig.get 2).elems.length:Int)=zf
 case neg=>simp only[AP,AB,z1,z1',z2,AE,Av,Ag,false_and,and_false,jq]
 by_cases z3:(sig.get 1).toInt=key
 case neg=>simp only[AP,AB,z1,z1',z2,z3,AE,Av,Ag,false_and,and_false,jq]
 have wk:IntKind.u64.wrap key=key:=wrap_u64 (by omega) (by omega);simp only[AP,AB,z1,z1',z2,z3,wk,AE,AF,AK,AO,AV,Ac,Av,Ag,true_and];rw[z3r T hT _ _ hs.z67 hd hN];simp only[AF];rw[<-z2];refine(Ot (F:=Xs N _) (fun i (s:C × Int)=>[T,sig,root,.int s.2,.int i,s.1]) (fun _ _=>[]) (sig.get 2).elems upF (fun s=>k [.bool (decide (s.2=0)&&mz s.1 root)] []) (fun _=>none) (fun _ s=>Uv s) (s0:=(Rd (sig.get 0) d,key)) ⟨KU _,hk⟩ ?_ ?_ (by have:=hs.len;omega)).trans ?_
 ·intro i s y hy hP;refine⟨fun rec=>?_,fun s' e=>q2B hP e⟩;obtain⟨p1,p2,p3⟩:=hP;have hi:i<(sig.get 2).elems.length:=(bu.1 hy).1;have h1:(i:Int)<((sig.get 2).elems.length:Int):=by omega
  have hl:=hs.len;have hw:=hs.way _ (fg hy);have f2:IntKind.u64.wrap (dx s.2 2)=s.2 / 2:=by rw[ei p2,wrap_u64 (by omega) (by omega)]
  have f3:bm s.2 2=s.2%2:=dj p2;unfold Xs upF;simp only[AP,AF,AK,AO,AV,Ac,Av,AB,h1,f2,f3,HK hy,AE,bq,and_self,bf,BK (show i<4611686018427387904 by omega)];by_cases z:s.2%2=1
  ·have z0:¬s.2%2=0:=by omega
   simp only[z,z0,show ¬(1:Int)=0 by decide,AE,AF,AK,AO,AV,Ac,Av,q2k,iX T hT _ _ hw p1 hN,AB,f2]
  ·have z0:s.2%2=0:=by omega
   simp only[z,z0,show ¬(0:Int)=1 by decide,AE,AF,AK,AO,AV,Ac,Av,q2k,iX T hT _ _ p1 hw hN,AB,f2]
 ·intro s _ rec;unfold Xs;simp only[AP,AF,AK,AO,AV,Ac,Av,AB,fa,AE];by_cases z:s.2=0 <;> simp[z]
 ·rw[nV];show k [.bool (decide ((upG _ _).2=0)&&_)] []=_;rw[q2A,z2];have:(sig.get 2).elems.length=zf.toNat:=by omega
  rw[this]
def q1N (x:C) (hx:JI x) (hN:100<N) (k:KD R):Oi N x k=k [x] []:=by
 have hl:=hx.len;obtain⟨s,e,p,rfl⟩:∃s e p,x= .agg [s,e,.slice p]:=⟨_,_,_,hx.eta⟩;have hs:JH s:=hx.z67;have hp:p.length<=10:=hl
 generalize hZ:(dh
  [dh
    [dh (ay 32 (dh (ay 16 (aw 0)))),
     dh (ay 32 (dh (ay 16 (aw 0))))],
   AJ (bn cf),bc []])=Z
 obtain⟨d,rfl,h⟩:=FV (R:=R) (F:=fun k2=>WY N k2) p.length (fun i st=>st=[.slice p,.int p.length,.int i,s,e,.slice (p.take i),Z]) (fun d=>d=[s,e,.slice p,Z])
  (fun i st hi hst=>by
   subst hst;have e1:(i:Int)<(p.length:Int):=by omega
   have g1:(i+1)*32<=140737488355328/\i+1<=9223372036854775807:=by omega
   have lt:(p.take i).length=i:=by simp;omega
   refine⟨_,rfl,fun k rec=>?_⟩;unfold WY;rw[Li hi];simp only[AF,AK,AO,AV,Ac,Av,BW,AB,AI,e1,lt,g1,AE,bq,and_self,br,bf,bt,cg,de,cm,BK (show i<4611686018427387904 by omega)])
  (fun st hst=>by
   subst hst;refine⟨_,rfl,fun k rec=>?_⟩;unfold WY;simp only[AF,AK,AO,AV,Ac,Av,BW,AB,AI,fa,AE,iu])
  (N:=N) (by omega) (st:=[.slice p,.int p.length,.int (0:Nat),s,e,.slice [],Z]) rfl
 rw[xU];unfold dU;simp only[AP,Eg,GR,Kt,q7L s hs hN,AF,AI,hZ];exact(h _).trans rfl
end
section
variable {R:Type} {N:Nat}
def p8:∀(k:Nat) (n:Int),∀c∈BM k n,BQ c
 |0,_,_,h=>nomatch h|k+1,n,c,h=>by rcases dw.1 h with h|h;{exact p8 k _ c h};{rw[fq.1 h];exact⟨rfl,by show 0<=n%256;omega,by show n%256<256;omega⟩}
def W6 {B:Nat}:∀{l:List C},Hk B l->(l.flatMap Cb).length<=l.length*(B+4)
 | [],_=>by simp
 |x::l,h=>by
  have h1:=W6 (l:=l) fun y hy=>h y (List.mem_cons_of_mem _ hy);have h2:=(h x (List.mem_cons_self ..)).2.2;have h3:(Cb x).length<=B+4:=by unfold Cb;simp[JK];omega
  simp only[List.flatMap_cons,bt,cg];rw[Nat.add_mul];omega
def z0C:BQ (.int 1):=⟨rfl,by decide,by decide⟩
section
variable {T:C} (hT:DH T)
include hT
def J0 (d:C) (hd:BQ d) (l:List C) (hb:Hk 1100 l) (hl:l.length<=10) (hN:20000<N):∃c,Ao 32 c/\∀k:KD R,Gq N T d (.slice l) k=k [c] []:=by
 have h1:=W6 hb;have h2:l.length*1104<=11040:=by omega
 have h3:(CK d l).length<=12000:=by unfold CK;simp only[bt,cg,de];omega
 exact⟨_,KU _,fun k=>QU T hT d hd l 1100 hb (by omega) (by omega) (by omega) (by omega) k⟩
def iV (a1 a2 a3 a4:C) (h1:Ao 32 a1) (hN:20000<N):∃p,Ao 16 p/\∀k:KD R,Ms N T a1 a2 a3 a4 k=k [p] []:=by
 have hn:∀k:KD R,FM N (.slice []) (.int (IntKind.u64.wrap a2.toInt)) (.int 4) k=k [.slice ([]++BM 4 (IntKind.u64.wrap a2.toInt))] []:=fun k=>Pf [] (.int (IntKind.u64.wrap a2.toInt)) (z5n _) 4 (by omega) (by simp) (by omega) k;obtain⟨e1,_,e2⟩:=FQ h1
 obtain⟨c,⟨l,rfl,hl,hb⟩,h2⟩:=J0 (R:=R) (N:=N) hT (.int 1) z0C [bc (cut (ao a1) 0 32),bc ([]++BM 4 (IntKind.u64.wrap a2.toInt)),bc [aw (al bp (aj a3)),aw (al bp (aj a4))]] (fun x hx=>by
  simp only[fz,ic,or_false]at hx;rcases hx with rfl|rfl|rfl;{rw[Qt h1];exact⟨rfl,by simpa[AI]using e2,by rw[AI];omega⟩};{rw[List.nil_append];exact⟨rfl,by simpa[AI]using p8 4 _,by rw[AI,Dj];omega⟩}
  ·refine⟨rfl,fun c hc=>?_,by simp[AI]⟩;simp only[AI,fz,ic,or_false]at hc;rcases hc with rfl|rfl <;> exact Nn _) (by simp) hN
 refine⟨.agg (l.take 16),⟨_,rfl,by simp;omega,fun c hc=>hb c (List.mem_of_mem_take hc)⟩,fun k=>?_⟩;rw[q0b];unfold jW;simp only[hn,AI,AF,h2,vF l hl (show 100<N by omega)]
def z1k (a1 a2:C) (h1:Ao 32 a1) (hN:20000<N):∃c,Ao 32 c/\∀k:KD R,Tc N T a1 a2 k=k [c] []:=by
 have inner:∀(x3 z:C) (o:List C),o.length<=1000->(∀c∈o,BQ c)->∃o':List C,o'.length<=o.length+32/\(∀c∈o',BQ c)/\∀k:KD R,Ae N (Tb N k) [a2,T,a1,x3,.slice o,.int 0,z] []=k [a2,T,a1,x3,.slice o',z] []:=by
  intro x3 z o ho hob
  obtain⟨d,⟨o',ho',hb',rfl⟩,h⟩:=FV (R:=R) (F:=fun k2=>Tb N k2) 2 (fun i st=>∃o':List C,o'.length<=o.length+16*i/\(∀c∈o',BQ c)/\st=[a2,T,a1,x3,.slice o',.int i,z]) (fun d=>∃o':List C,o'.length<=o.length+32/\(∀c∈o',BQ c)/\d=[a2,T,a1,x3,.slice o',z])
   (fun i st hi hst=>by
    obtain⟨o',ho',hb',rfl⟩:=hst;have e1:(i:Int)<2:=by omega
    obtain⟨s,hs,h2⟩:=iV (R:=R) (N:=N) hT a1 a2 x3 (.int i) h1 hN;have h3:=fun k:KD R=>jB (N:=N) T hT s hs (by omega) k;have t0:=Uj (Nt s);obtain⟨c1,_,c2⟩:=FQ (Nt s);have g1:(o'.length+16)*1<=140737488355328/\o'.length+16<=9223372036854775807:=by omega
    refine⟨_,⟨o'++(JP s).elems,by rw[bt,c1];omega,fun c hc=>?_,rfl⟩,fun k rec=>?_⟩;{rcases dw.1 hc with hc|hc;{exact hb' c hc};{exact c2 c hc}}
    ·unfold Tb;simp only[AF,AK,AO,AV,Ac,Av,BW,AB,AI,e1,h2,h3,t0,c1,g1,AE,and_self,br,bt,BK (show i<4611686018427387904 by omega)])
   (fun st hst=>by
    obtain⟨o',ho',hb',rfl⟩:=hst;refine⟨_,⟨o',by omega,hb',rfl⟩,fun k rec=>?_⟩;unfold Tb;have e:¬((2:Nat):Int)<2:=by decide
    simp only[AF,AK,AO,AV,Ac,Av,BW,AB,AI,e,AE,br])
   (N:=N) (by omega) (st:=[a2,T,a1,x3,.slice o,.int (0:Nat),z]) ⟨o,by omega,hob,rfl⟩
  exact⟨o',ho',hb',h⟩
 obtain⟨d,⟨o,ho,hob,rfl⟩,h⟩:=FV (R:=R) (F:=fun k2=>Xn N k2) 32 (fun i st=>∃o:List C,o.length<=32*i/\(∀c∈o,BQ c)/\st=[a2,T,a1,.slice o,.int i,AJ (.arr 32 (.int .u8))]) (fun d=>∃o:List C,o.length<=1024/\(∀c∈o,BQ c)/\d=[T,.slice o,AJ (.arr 32 (.int .u8))])
  (fun i st hi hst=>by
   obtain⟨o,ho,hob,rfl⟩:=hst;have e1:(i:Int)<32:=by omega
   obtain⟨o',ho',hb',h2⟩:=inner (.int i) (AJ (.arr 32 (.int .u8))) o (by omega) hob;refine⟨_,⟨o',by omega,hb',rfl⟩,fun k rec=>?_⟩;unfold Xn;simp only[AP,AF,AK,AO,AV,Ac,Av,AB,AI,e1,h2,AE,br,BK (show i<4611686018427387904 by omega)])
  (fun st hst=>by
   obtain⟨o,ho,hob,rfl⟩:=hst;refine⟨_,⟨o,by omega,hob,rfl⟩,fun k rec=>?_⟩;unfold Xn;have e:¬((32:Nat):Int)<32:=by decide
   simp only[AF,AK,AO,AV,Ac,Av,AB,AI,e,AE,br])
  (N:=N) (by omega) (st:=[a2,T,a1,.slice [],.int (0:Nat),AJ (.arr 32 (.int .u8))]) ⟨[],by simp,(fun _ h=>nomatch h),rfl⟩
 obtain⟨c,hc,h2⟩:=J0 (R:=R) (N:=N) hT (.int 2) nQ [bc o] (iO 1100 o hob (by omega)) (by simp) hN;refine⟨c,hc,fun k=>?_⟩;rw[F9];unfold jV;simp only[AP];refine(h _).trans ?_;simp only[AF,AK,AI,h2]
def z1m (a1 a2 a3:C) (h1:Ao 32 a1) (h3:Ao 32 a3) (hN:20000<N):∃c,JH c/\∀k:KD R,Td N T a1 a2 a3 k=k [c] []:=by
 have z16:Ao 16 (.agg (ay 16 (.int 0))):=⟨_,rfl,by simp,fun c hc=>by rw[ik hc];exact⟨rfl,by decide,by decide⟩⟩;have zb:JH (dh [dh (ay 32 (dh (ay 16 (aw 0)))),dh (ay 32 (dh (ay 16 (aw 0))))]):=⟨_,_,rfl,by simp,by simp,fun p hp=>by rw[ik hp];exact z16,fun p hp=>by rw[ik hp];exact z16⟩
 obtain⟨d,⟨x,v,hv,rfl⟩,h⟩:=FV (R:=R) (F:=fun k2=>Xo N k2) 32 (fun i st=>∃x v:C,JH v/\st=[a2,T,a1,a3,.int i,x,v]) (fun d=>∃x v:C,JH v/\d=[x,v])
  (fun i st hi hst=>by
   obtain⟨x,v,hv,rfl⟩:=hst;have e1:(i:Int)<32:=by omega
   have g1:=fun k:KD R=>J4 (N:=N) a3 h3 i hi (by omega) k;obtain⟨s1,hs1,g2⟩:=iV (R:=R) (N:=N) hT a1 a2 (.int i) (.int (Jn a3 i)) h1 hN;obtain⟨s2,hs2,g3⟩:=iV (R:=R) (N:=N) hT a1 a2 (.int i) (.int (al ar (1-Jn a3 i))) h1 hN;have g4:=fun k:KD R=>jB (N:=N) T hT s2 hs2 (by omega) k;obtain⟨o,t,rfl,ho,ht,hpo,hpt⟩:=hv;refine⟨_,⟨x,.agg [.agg (o.set i s1),.agg (t.set i (JP s2))],⟨_,_,rfl,by simp[ho],by simp[ht],fun p hp=>?_,fun p hp=>?_⟩,rfl⟩,fun k rec=>?_⟩;{rcases sn hp with hp|rfl;{exact hpo p hp};{exact hs1}};{rcases sn hp with hp|rfl;{exact hpt p hp};{exact Nt s2}}
   ·unfold Xo;simp only[AF,AK,AO,AV,Ac,Av,BW,AB,e1,g1,g2,g3,g4,Eg,GR,Hf,IM,q1J,AE,bq,and_self,bf,BK (show i<4611686018427387904 by omega)];rfl)
  (fun st hst=>by
   obtain⟨x,v,hv,rfl⟩:=hst;refine⟨_,⟨x,v,hv,rfl⟩,fun k rec=>?_⟩;unfold Xo;have e:¬((32:Nat):Int)<32:=by decide
   simp only[AF,AK,AO,AV,Ac,Av,BW,AB,e,AE])
  (N:=N) (by omega) (st:=[a2,T,a1,a3,.int (0:Nat),dh
  [dh (ay 32 (dh (ay 16 (aw 0)))),
   dh (ay 32 (dh (ay 16 (aw 0))))],dh
  [dh (ay 32 (dh (ay 16 (aw 0)))),
   dh (ay 32 (dh (ay 16 (aw 0))))]]) ⟨_,_,zb,rfl⟩
 refine⟨v,hv,fun k=>?_⟩;rw[q0c];unfold jX;simp only[AP];exact(h _).trans rfl
end
end
section
variable {R:Type} {N:Nat}
def q7u (x:Int):0<=IntKind.u32.wrap x/\IntKind.u32.wrap x<4294967296:=by
 have:IntKind.u32.wrap x=x%4294967296:=by simp[al,jc,ig]
 rw[this];omega
section
variable {T:C} (hT:DH T)
include hT
def J2 (sec:C) (hs:Ao 32 sec) (hN:20000<N):∃r0 r1 r2:List C,(r0.length=4/\r1.length=2/\r2.length=1)/\((∀y∈r0,Ao 32 y)/\(∀y∈r1,Ao 32 y)/\∀y∈r2,Ao 32 y)/\∀k:KD R,Pp N T sec (.int 2) k=k [.slice [.slice r0,.slice r1,.slice r2]] []:=by
 obtain⟨d,⟨r0,hr0,hb0,rfl⟩,h⟩:=FV (R:=R) (F:=fun k2=>Xr N k2) 4 (fun i st=>∃o:List C,o.length=i/\(∀y∈o,Ao 32 y)/\st=[.int 2,T,sec,.slice o,.int i]) (fun d=>∃o:List C,o.length=4/\(∀y∈o,Ao 32 y)/\d=[T,.slice o])
  (fun i st hi hst=>by
   obtain⟨o,ho,hob,rfl⟩:=hst;have e1:(i:Int)<4:=by omega
   obtain⟨c,hc,h1⟩:=z1k (R:=R) (N:=N) hT sec (aw (al cf (i:Int))) hs hN;have g1:(i+1)*32<=140737488355328/\i+1<=9223372036854775807:=by omega
   refine⟨_,⟨o++[c],by simp[ho],(fun y hy=>(dw.1 hy).elim (hob y) fun e=>by rw[fq.1 e];exact hc),rfl⟩,fun k rec=>?_⟩;unfold Xr;simp only[AF,AK,AO,AV,Ac,AB,AI,U2 (show 10<N by omega),e1,h1,ho,g1,AE,and_self,br,bt,cg,de,cm,BK (show i<4611686018427387904 by omega)])
  (fun st hst=>by
   obtain⟨o,ho,hob,rfl⟩:=hst;refine⟨_,⟨o,ho,hob,rfl⟩,fun k rec=>?_⟩;unfold Xr;have e:¬((4:Nat):Int)<4:=by decide
   simp only[AF,AK,AO,AV,Ac,AB,AI,U2 (show 10<N by omega),e,AE,br])
  (N:=N) (by omega) (st:=[.int 2,T,sec,.slice [],.int (0:Nat)]) ⟨[],rfl,(fun _ h=>nomatch h),rfl⟩
 have inner:∀(m:Nat) (row rows:List C),row.length=2*m->m<=100->(∀y∈row,Ao 32 y)->∃up:List C,up.length=m/\(∀y∈up,Ao 32 y)/\∀k:KD R,Ae N (Tf N k) [T,.slice row,.slice rows,.slice [],.int 0] []=k [T,.slice rows,.slice up] []:=by
  intro m row rows hr hm z6q
  obtain⟨d,⟨up,hup,hub,rfl⟩,h⟩:=FV (R:=R) (F:=fun k2=>Tf N k2) m (fun i st=>∃up:List C,up.length=i/\(∀y∈up,Ao 32 y)/\st=[T,.slice row,.slice rows,.slice up,.int (2*(i:Int))]) (fun d=>∃up:List C,up.length=m/\(∀y∈up,Ao 32 y)/\d=[T,.slice rows,.slice up])
   (fun i st hi hst=>by
    obtain⟨up,hup,hub,rfl⟩:=hst;have e1:2*(i:Int)<(row.length:Int):=by omega
    have c1:0<=2*(i:Int)/\2*(i:Int)<(row.length:Int):=by omega
    have w1:IntKind.i64.wrap (2*(i:Int)+1)=2*i+1:=wrap_i64 (by omega) (by omega);have w2:IntKind.i64.wrap (2*(i:Int)+2)=2*((i+1:Nat):Int):=by rw[wrap_i64 (by omega) (by omega)];omega
    have c2:0<=2*(i:Int)+1/\2*(i:Int)+1<(row.length:Int):=by omega
    have g1:(i+1)*32<=140737488355328/\i+1<=9223372036854775807:=by omega
    have hy0:=z6q _ (CT (l:=row) (i:=(2*(i:Int)).toNat) (by omega));have hy1:=z6q _ (CT (l:=row) (i:=(2*(i:Int)+1).toNat) (by omega));have h1:=fun k:KD R=>iX (N:=N) T hT _ _ hy0 hy1 (by omega) k;refine⟨_,⟨up++[Lv (row.getD (2*(i:Int)).toNat .nil) (row.getD (2*(i:Int)+1).toNat .nil)],by simp[hup],(fun y hy=>(dw.1 hy).elim (hub y) fun e=>by rw[fq.1 e];exact KU _),rfl⟩,fun k rec=>?_⟩;unfold Tf;simp only[AF,AK,AO,AV,Ac,AB,AI,e1,c1,c2,w1,w2,h1,hup,g1,AE,and_self,br,bt,cg,de,cm])
   (fun st hst=>by
    obtain⟨up,hup,hub,rfl⟩:=hst;refine⟨_,⟨up,hup,hub,rfl⟩,fun k rec=>?_⟩;unfold Tf;have e:¬2*(m:Int)<(row.length:Int):=by omega
    simp only[AF,AK,AO,AV,Ac,AB,AI,e,AE,br])
   (N:=N) (by omega) (st:=[T,.slice row,.slice rows,.slice [],.int (2*((0:Nat):Int))]) ⟨[],rfl,(fun _ h=>nomatch h),rfl⟩
  exact⟨up,hup,hub,h⟩
 have step:∀(m:Nat) (row rows:List C),row.length=2*m->1<=m->m<=100->rows.length<=100->(∀y∈row,Ao 32 y)->∃up:List C,up.length=m/\(∀y∈up,Ao 32 y)/\∀k rec:KD R,Xq N k rec [T,.slice row,.slice rows] []=rec [T,.slice up,.slice (rows++[.slice up])] []:=by
  intro m row rows hr hm1 hm hrs z6q;obtain⟨up,hup,hub,h1⟩:=inner m row rows hr hm z6q;refine⟨up,hup,hub,fun k rec=>?_⟩;have e1:1<(row.length:Int):=by omega
  have g1:(rows.length+1)*24<=140737488355328/\rows.length+1<=9223372036854775807:=by omega
  unfold Xq;simp only[AP,AF,AK,AO,AI,e1,h1,g1,AE,and_self,br,bt,cg,de,cm]
 obtain⟨r1,hr1,hb1,s1⟩:=step 2 r0 [.slice r0] (by omega) (by omega) (by omega) (by simp) hb0;obtain⟨r2,hr2,hb2,s2⟩:=step 1 r1 [.slice r0,.slice r1] (by omega) (by omega) (by omega) (by simp) hb1;refine⟨r0,r1,r2,⟨hr0,hr1,hr2⟩,⟨hb0,hb1,hb2⟩,fun k=>?_⟩;rw[q0h];unfold kA;simp only[AP];refine(h _).trans ?_;simp only[AF,AK,AI,br,cond_true];obtain⟨n,rfl⟩:∃n,N=n+3:=⟨N-3,by omega⟩;rw[Bq,s1];show Ae (n+2) _ [T,.slice r1,.slice [.slice r0,.slice r1]] []=_;rw[Bq,s2];show Ae (n+1) _ [T,.slice r2,.slice [.slice r0,.slice r1,.slice r2]] []=_;rw[Bq];unfold Xq;have e:¬(1:Int)<(r2.length:Int):=by omega
 simp only[AF,AK,AO,AI,e,AE,br]
def J3 (sec d:C) (z8r:Ao 32 sec) (hd:Ao 32 d) (r0 r1 r2:List C) (hb0:∀y∈r0,Ao 32 y) (hb1:∀y∈r1,Ao 32 y) (h0:r0.length=4) (h1:r1.length=2) (h2:r2.length=1) (x:Int) (hx:0<=x/\x<4) (hN:20000<N):
  ∃s,JI s/\∀k:KD R,Th N T sec (.slice [.slice r0,.slice r1,.slice r2]) (.int x) d k=k [s] []:=by
 obtain⟨c,hcl,hc⟩:=z1m (R:=R) (N:=N) hT sec (aw (al cf x)) d z8r hd hN
 obtain⟨e,⟨p,hp,hpb,rfl⟩,h⟩:=FV (R:=R) (F:=fun k2=>Tg N k2) 2 (fun i st=>∃(y:Int) (p:List C),p.length=i/\(∀z∈p,Ao 32 z)/\0<=y/\(i=0->y<4)/\(i=1->y<2)/\st=[.slice [.slice r0,.slice r1,.slice r2],.int y,.int i,c,aw (al cf x),.slice p,dh
  [dh
    [dh (ay 32 (dh (ay 16 (aw 0)))),
     dh (ay 32 (dh (ay 16 (aw 0))))],
   AJ (bn cf),bc []]]) (fun e=>∃p:List C,p.length=2/\(∀z∈p,Ao 32 z)/\e=[c,aw (al cf x),.slice p,dh
  [dh
    [dh (ay 32 (dh (ay 16 (aw 0)))),
     dh (ay 32 (dh (ay 16 (aw 0))))],
   AJ (bn cf),bc []]])
  (fun i st hi hst=>by
   obtain⟨y,p,hp,hpb,hy0,hy1,hy2,rfl⟩:=hst;have w3:IntKind.i64.wrap (((3:Nat):Int)-1)=2:=by rw[wrap_i64 (by omega) (by omega)];rfl
   have e1:(i:Int)<2:=by omega
   have c3:0<=(i:Int)/\(i:Int)<((3:Nat):Int):=by omega
   have g1:(i+1)*32<=140737488355328/\i+1<=9223372036854775807:=by omega
   have hlen:((ao (bj [bc r0,bc r1,bc r2] i .nil)).length:Int)=(if i=0 then 4 else 2):=by rcases(by omega:i=0\/i=1)with rfl|rfl;{show((r0.length:Nat):Int)=_;rw[h0];rfl};{show((r1.length:Nat):Int)=_;rw[h1];rfl}
   have tm:bm y 2=y%2:=dj hy0;have td:dx y 2=y / 2:=ei hy0;have hy:y<(if i=0 then 4 else 2)/\y<4:=by rcases(by omega:i=0\/i=1)with rfl|rfl;{have:=hy1 rfl;exact⟨by simpa using this,this⟩};{have:=hy2 rfl;exact⟨by simpa using this,by omega⟩}
   have wd:IntKind.i64.wrap (y / 2)=y / 2:=wrap_i64 (by omega) (by omega);have wm:IntKind.i64.wrap (y-1)=y-1:=wrap_i64 (by omega) (by omega);have wp:IntKind.i64.wrap (y+1)=y+1:=wrap_i64 (by omega) (by omega);have ev:(if i=0 then(4:Int)else 2)=4\/(if i=0 then(4:Int)else 2)=2:=by split <;> simp
   have hm:∀q:Int,0<=q->q<(if i=0 then(4:Int)else 2)->Ao 32 (bj (ao (bj [bc r0,bc r1,bc r2] i .nil)) q.toNat .nil):=fun q q0 q1=>by
    rcases(by omega:i=0\/i=1)with rfl|rfl
    ·have q1:q<4:=by simpa using q1
     exact hb0 _ (CT (by omega))
    ·have q1:q<2:=by simpa using q1
     exact hb1 _ (CT (by omega))
   by_cases z:y%2=1
   ·have c4:0<=y-1/\y-1<(if i=0 then(4:Int)else 2):=by omega
    refine⟨_,⟨y / 2,p++[bj (ao (bj [bc r0,bc r1,bc r2] i .nil)) (y-1).toNat .nil],by simp[hp],(fun w hw=>(dw.1 hw).elim (hpb w) fun e=>by rw[fq.1 e];exact hm _ c4.1 c4.2),by omega,by omega,by omega,rfl⟩,fun k rec=>?eq1⟩
    case eq1=>
     unfold Tg;simp only[AP,AF,AK,AO,AV,Ac,Av,BW,Cm,AB,AI,cg,de,cm,Nat.reduceAdd,w3,e1,c3,c4,tm,td,wd,wm,z,hlen,hp,g1,AE,and_self,br,bt,bf,BK (show i<4611686018427387904 by omega)]
   ·have c4:0<=y+1/\y+1<(if i=0 then(4:Int)else 2):=by omega
    refine⟨_,⟨y / 2,p++[bj (ao (bj [bc r0,bc r1,bc r2] i .nil)) (y+1).toNat .nil],by simp[hp],(fun w hw=>(dw.1 hw).elim (hpb w) fun e=>by rw[fq.1 e];exact hm _ c4.1 c4.2),by omega,by omega,by omega,rfl⟩,fun k rec=>?eq2⟩
    case eq2=>
     unfold Tg;simp only[AP,AF,AK,AO,AV,Ac,Av,BW,Cm,AB,AI,cg,de,cm,Nat.reduceAdd,w3,e1,c3,c4,tm,td,wd,wp,z,hlen,hp,g1,AE,and_self,br,bt,bf,BK (show i<4611686018427387904 by omega)])
  (fun st hst=>by
   obtain⟨y,p,hp,hpb,hy0,hy1,hy2,rfl⟩:=hst;refine⟨_,⟨p,hp,hpb,rfl⟩,fun k rec=>?_⟩;have w3:IntKind.i64.wrap (((3:Nat):Int)-1)=2:=by rw[wrap_i64 (by omega) (by omega)];rfl
   unfold Tg;have e:¬((2:Nat):Int)<2:=by decide
   simp only[AF,AK,AO,AV,Ac,Av,BW,AB,AI,cg,de,cm,Nat.reduceAdd,w3,e,AE])
  (N:=N) (by omega) (st:=[.slice [.slice r0,.slice r1,.slice r2],.int x,.int (0:Nat),c,aw (al cf x),.slice [],dh
  [dh
    [dh (ay 32 (dh (ay 16 (aw 0)))),
     dh (ay 32 (dh (ay 16 (aw 0))))],
   AJ (bn cf),bc []]]) ⟨x,[],rfl,(fun _ h=>nomatch h),hx.1,fun _=>hx.2,fun h=>by simp at h,rfl⟩
 refine⟨.agg [c,aw (al cf x),.slice p],⟨rfl,hcl,q7u x,hpb,by show p.length<=10;omega⟩,fun k=>?_⟩;rw[q0i];unfold kB;simp only[hc,AP,AF,AB];exact(h _).trans rfl
end
end
def dW {R:Type} (N:Nat) (a0:C) (k1:KD R):Option R:=k1 [ct (ct (ct (ct (ct (dh [aw 0,aw 0,aw 0,dh (ay 32 (aw 0)),aw 0]) 0 (ax a0 0)) 1 (ax a0 1)) 2 (ax a0 2)) 3 (ax a0 3)) 4 (ax a0 4)] []
def Ru:=lid "" (@dW R N)
def xW {R N a0 k}:@Ru R N a0 k=dW N a0 k:=by unfold Ru;rw[AW]
def q74:OvG R:=Af [DQ] (Bs (Ru N)) (BD DQ)
def q76:okX 68 (@q74 R N):=Ai AZ N [(68,[(0,[(1,5)])])] [(68,[([9],⟨[],[(2,.as (.ptr (.l 2) [] DQ))],[],[(.l 2,.box (.d DQ))],[],[]⟩)])] (fun _ _=>xW)
def Wa (k2:KD R):KD R->KD R:=fun k3 d1 m1=>(bif decide (aj (dk d1 2)<aj (dk d1 1))then(if 0<=aj (dk d1 2)/\aj (dk d1 2)<(↑(ak (ao (dk d1 0))):Int)then(Ru N (bj (ao (dk d1 0)) (aq (aj (dk d1 2))) du) (fun d2 m2=>(bif bw (ak (ao (dk d1 7))) (ak (ao (dk d1 7)))then(if(ak (ao (dk d1 7))+1)*64<=140737488355328/\ak (ao (dk d1 7))+1<=9223372036854775807 then(bif bw (ak (ao (dk d1 7))+1) (ak (ao (dk d1 7)++[dk d2 0]))then(k3 [dk d1 0,dk d1 1,aw (al ar (aj (dk d1 2)+1)),dk d1 3,dk d1 4,dk d1 5,dk d1 6,bc (ao (dk d1 7)++[dk d2 0]),dk d1 8] [])else none)else none)else none)))else none)else(k2 [dk d1 3,dk d1 4,dk d1 5,dk d1 6,bc (ao (dk d1 7)),dk d1 8] []))
def dY (a0:C) (k1:KD R):Option R:=jn (fun d1 m1=>(k1 [dh [dk d1 0,dk d1 1,dk d1 2,dk d1 3,bc (ao (dk d1 4))]] [])) (fun k2=>(Ae N (Wa N k2) [ax a0 4,aw (↑(ak (ao (ax a0 4))):Int),aw 0,ax a0 0,ax a0 1,ax a0 2,ax a0 3,bc [],dh [AJ (bn cf),AJ (bn av),AJ (cq 2 (bn av)),AJ (cq 2 (bn av)),bc []]] []))
def Rw:=lid "" (@dY R N)
def xY {R N a0 k}:@Rw R N a0 k=dY N a0 k:=by unfold Rw;rw[AW]
def q8a:OvG R:=Af [Bk] (Bs (Rw N)) (BD Bk)
def q8c:okX 42 (@q8a R N):=Ai (AH (q76 N) <| AZ) N [(42,[(0,[(1,5)]),(5,[(25,7),(5,6)])])] [(42,[([1,0,1,1],⟨[2,3],[],[],[(.l 3,.box (.agg Bk [.d (.int .u32),.d (.int .u64),.d (.arr 2 (.int .u64)),.d (.arr 2 (.int .u64)),(.ts 64 DQ)]))],[],[]⟩),
  ([4,1,0,1,1],⟨[2,3,16,17],[(18,.d (.int .i64))],[],[(.l 3,.box (.agg Bk [.d (.int .u32),.d (.int .u64),.d (.arr 2 (.int .u64)),.d (.arr 2 (.int .u64)),(.ts 64 DQ)]))],[],[]⟩),
  ([9],⟨[],[(2,.as (.ptr (.l 2) [] Bk))],[],[(.l 2,.box (.d Bk))],[],[]⟩)])] (fun _ _=>xY)
def dZ (a0:C) (k1:KD R):Option R:=Rw N (ax a0 0) (fun d1 m1=>(Oi N (ax (ax a0 1) (aq 0)) (fun d2 m2=>(Oi N (ax (ax a0 1) (aq 1)) (fun d3 m3=>(k1 [dh [dk d1 0,ct (ct (AJ (cq 2 Cd)) 0 (dk d2 0)) 1 (dk d3 0)]] []))))))
def LC:=lid "" (@dZ R N)
def yB {R N a0 k}:@LC R N a0 k=dZ N a0 k:=by unfold LC;rw[AW]
def q8g:OvG R:=Af [EE] (Bs (LC N)) (BD EE)
def q8h:okX 13 (@q8g R N):=Ai (AH (q8c N) <| AH (q7Y N) <| AZ) N [(13,[(0,[(1,5)]),(1,[(5,7),(9,7),(13,7)])])] [(13,[([9],⟨[],[(2,.as (.ptr (.l 2) [] EE))],[],[(.l 2,.box (.d EE))],[],[]⟩)])] (fun _ _=>yB)
def dV {R:Type} (N:Nat) (a0:C) (k1:KD R):Option R:=k1 [ct (ct (ct (ct (ct (dh [aw 0,aw 0,aw 0,dh (ay 32 (aw 0)),aw 0]) 0 (ax a0 0)) 1 (ax a0 1)) 2 (ax a0 2)) 3 (ax a0 3)) 4 (ax a0 4)] []
def Rt:=lid "" (@dV R N)
def xV {R N a0 k}:@Rt R N a0 k=dV N a0 k:=by unfold Rt;rw[AW]
def q7Z:OvG R:=Af [DQ] (Bs (Rt N)) (BD DQ)
def q73:okX 46 (@q7Z R N):=Ai AZ N [(46,[(0,[(1,5)])])] [(46,[([9],⟨[],[(2,.as (.ptr (.l 2) [] DQ))],[],[(.l 2,.box (.d DQ))],[],[]⟩)])] (fun _ _=>xV)
def WZ (k2:KD R):KD R->KD R:=fun k3 d1 m1=>(bif decide (aj (dk d1 2)<aj (dk d1 1))then(if 0<=aj (dk d1 2)/\aj (dk d1 2)<(↑(ak (ao (dk d1 0))):Int)then(Rt N (bj (ao (dk d1 0)) (aq (aj (dk d1 2))) du) (fun d2 m2=>(bif bw (ak (ao (dk d1 7))) (ak (ao (dk d1 7)))then(if(ak (ao (dk d1 7))+1)*64<=140737488355328/\ak (ao (dk d1 7))+1<=9223372036854775807 then(bif bw (ak (ao (dk d1 7))+1) (ak (ao (dk d1 7)++[dk d2 0]))then(k3 [dk d1 0,dk d1 1,aw (al ar (aj (dk d1 2)+1)),dk d1 3,dk d1 4,dk d1 5,dk d1 6,bc (ao (dk d1 7)++[dk d2 0]),dk d1 8] [])else none)else none)else none)))else none)else(k2 [dk d1 3,dk d1 4,dk d1 5,dk d1 6,bc (ao (dk d1 7)),dk d1 8] []))
def dX (a0:C) (k1:KD R):Option R:=jn (fun d1 m1=>(k1 [dh [dk d1 0,dk d1 1,dk d1 2,dk d1 3,bc (ao (dk d1 4))]] [])) (fun k2=>(Ae N (WZ N k2) [ax a0 4,aw (↑(ak (ao (ax a0 4))):Int),aw 0,ax a0 0,ax a0 1,ax a0 2,ax a0 3,bc [],dh [AJ (bn cf),AJ (bn av),AJ (cq 2 (bn av)),AJ (cq 2 (bn av)),bc []]] []))
def Rv:=lid "" (@dX R N)
def xX {R N a0 k}:@Rv R N a0 k=dX N a0 k:=by unfold Rv;rw[AW]
def q77:OvG R:=Af [Bk] (Bs (Rv N)) (BD Bk)
def q79:okX 17 (@q77 R N):=Ai (AH (q73 N) <| AZ) N [(17,[(0,[(1,5)]),(5,[(25,7),(5,6)])])] [(17,[([1,0,1,1],⟨[2,3],[],[],[(.l 3,.box (.agg Bk [.d (.int .u32),.d (.int .u64),.d (.arr 2 (.int .u64)),.d (.arr 2 (.int .u64)),(.ts 64 DQ)]))],[],[]⟩),
  ([4,1,0,1,1],⟨[2,3,16,17],[(18,.d (.int .i64))],[],[(.l 3,.box (.agg Bk [.d (.int .u32),.d (.int .u64),.d (.arr 2 (.int .u64)),.d (.arr 2 (.int .u64)),(.ts 64 DQ)]))],[],[]⟩),
  ([9],⟨[],[(2,.as (.ptr (.l 2) [] Bk))],[],[(.l 2,.box (.d Bk))],[],[]⟩)])] (fun _ _=>xX)
def X4 {R:Type} (N:Nat) (a0:C) (k1:KD R):Option R:=k1 [dh [a0,AJ (bn av),AJ (cq 2 (bn av)),AJ (cq 2 (bn av)),bc []]] []
def PN:=lid "" (@X4 R N)
def X5 {R N a0 k}:@PN R N a0 k=X4 N a0 k:=by unfold PN;rw[AW]
def z0S:OvG R:=Af [.int .u32] (Bs (PN N)) (BD Bk)
def X3:okX 35 (@z0S R N):=Ai AZ N [] [(35,[([9],⟨[],[(2,.as (.ptr (.l 2) [] Bk))],[],[(.l 2,.box (.d Bk))],[],[]⟩)])] (fun _ _=>X5)
def q1S {R:Type} (N:Nat) (k1:KD R) (k2:KD R):KD R->KD R:=fun k3 d1 m1=>(bif decide (aj (dk d1 3)<aj (dk d1 2))then(if 0<=aj (dk d1 3)/\aj (dk d1 3)<(↑(ak (ao (dk d1 0))):Int)then(if 0<=aj (dk d1 3)/\aj (dk d1 3)<(↑(ak (ao (dk d1 1))):Int)then(bif !mz (bj (ao (dk d1 0)) (aq (aj (dk d1 3))) du) (bj (ao (dk d1 1)) (aq (aj (dk d1 3))) du)then(k1 [cd false] [])else(k3 [dk d1 0,dk d1 1,dk d1 2,aw (al ar (aj (dk d1 3)+1))] []))else none)else none)else(k2 [] []))
def mU (a0 a1:C) (k1:KD R):Option R:=bif !decide ((↑(ak (ao a0)):Int)=(↑(ak (ao a1)):Int))then(k1 [cd false] [])else(jn (fun d1 m1=>(k1 [cd true] [])) (fun k2=>(Ae N (q1S N k1 k2) [a0,a1,aw (↑(ak (ao a0)):Int),aw 0] [])))
def Ud:=lid "" (@mU R N)
def q1T {R N a0 a1 k}:@Ud R N a0 a1 k=mU N a0 a1 k:=by unfold Ud;rw[AW]
def z4k:OvG R:=Af [.slice 64 DQ,.slice 64 DQ] (Bl (Ud N)) Ev
def z4l:okX 111 (@z4k R N):=Ai AZ N [] [(111,[([1,0,1,1],(Ah [])),
  ([4,1,0,1,1],(AY [0,1,12] [(13,.d (.int .i64))])),
  ([9],(Ah [(4,.d .bool)]))])] (fun _ _=>q1T)
def iG (a0 a1:C) (k1:KD R):Option R:=jn (fun d1 m1=>(k1 [cd (cz (dk d1 0))] [])) (fun k2=>(bif decide (aj (ax a0 0)=aj (ax a1 0))then(bif decide (aj (ax a0 1)=aj (ax a1 1))then(bif mz (ax a0 2) (ax a1 2)then(bif mz (ax a0 3) (ax a1 3)then(Ud N (ax a0 4) (ax a1 4) (fun d1 m1=>(k2 [cd (cz (dk d1 0))] [])))else(k2 [cd false] []))else(k2 [cd false] []))else(k2 [cd false] []))else(k2 [cd false] [])))
def Sx:=lid "" (@iG R N)
def X7 {R N a0 a1 k}:@Sx R N a0 a1 k=iG N a0 a1 k:=by unfold Sx;rw[AW]
def z0V:OvG R:=Af [Bk,Bk] (Bl (Sx N)) Ev
def z0W:okX 90 (@z0V R N):=Ai (AH (z4l N) <| AZ) N [(90,[(0,[(2,5),(3,5)])])] [(90,[([0,1],(Ah [(4,.d .bool)])),
  ([9],(Ah [(4,.d .bool)]))])] (fun _ _=>X7)
def aZ {R:Type} (N:Nat) (a0:C) (k1:KD R):Option R:=k1 [aw (al cf (if 2147483648<aj a0 then 2147483648 else aj a0))] []
def Qx:=lid "" (@aZ R N)
def sG {R N a0 k}:@Qx R N a0 k=aZ N a0 k:=by unfold Qx;rw[AW]
def q5g:OvG R:=Af [.int .u64] (Bs (Qx N)) (BD (bn cf))
def q5h:okX 113 (@q5g R N):=Ai AZ N [] [(113,[([9],(Ah [(2,.d (.int .u32))]))])] (fun _ _=>sG)
def aW (a0 a1 a2 a3:C) (k1:KD R):Option R:=jn (fun d1 m1=>(bif cz (dk d1 4)then(k1 [cd false] [])else(if 0<=aj (dk d1 0)/\aj (dk d1 0)<2 then(Qx N (ax (dk d1 2) 1) (fun d2 m2=>(Qw N (dk d1 2) (fun d3 m3=>(UU N (dk d1 3) (ax (ax (dk d1 1) 0) (aq (aj (dk d1 0)))) (ax (dk d1 1) 1) (dk d2 0) (dk d3 0) (fun d4 m4=>(k1 [cd (cz (dk d4 0))] [])))))))else none))) (fun k2=>(bif !decide (aj a1=0)then(k2 [a1,a0,a2,a3,cd !decide (aj a1=1)] [])else(k2 [a1,a0,a2,a3,cd false] [])))
def Nw:=lid "" (@aW R N)
def sB {R N a0 a1 a2 a3 k}:@Nw R N a0 a1 a2 a3 k=aW N a0 a1 a2 a3 k:=by unfold Nw;rw[AW]
def q5a:OvG R:=Af [Gu,.int .i64,Bk,Cd] (fun a=>Nw N (a 0) (a 1) (a 2) (a 3)) Ev
def q5b:okX 91 (@q5a R N):=Ai (AH (z3u N) <| AH (q5h N) <| AH (q5f N) <| AZ) N [(91,[(0,[(4,5),(6,5),(7,5)]),(3,[(24,7),(26,7),(27,7)])])] [(91,[([0,0,1],(AY [1,4,6,7] [(14,.d .bool)])),
  ([9],(Ah [(8,.d .bool)]))])] (fun _ _=>sB)
def aX (a0 a1 a2:C) (k1:KD R):Option R:=bif !decide (aj (ax (ax a1 0) 0)=aj a2)then(k1 [cd false] [])else(bif decide (aj (ax (ax a1 0) 1)=0)then(PN N a2 (fun d1 m1=>(Sx N (ax a1 0) (dk d1 0) (fun d2 m2=>(k1 [cd (cz (dk d2 0))] [])))))else(jn (fun d1 m1=>(k1 [cd (cz (dk d1 0))] [])) (fun k2=>(Nw N a0 (aw 0) (ax a1 0) (ax (ax a1 1) (aq 0)) (fun d1 m1=>(bif cz (dk d1 0)then(Nw N a0 (aw 1) (ax a1 0) (ax (ax a1 1) (aq 1)) (fun d2 m2=>(k2 [cd (cz (dk d2 0))] [])))else(k2 [cd false] [])))))))
def JQ:=lid "" (@aX R N)
def sC {R N a0 a1 a2 k}:@JQ R N a0 a1 a2 k=aX N a0 a1 a2 k:=by unfold JQ;rw[AW]
def q5c:OvG R:=Af [Gu,EE,.int .u32] (Ds (JQ N)) Ev
def q5d:okX 65 (@q5c R N):=Ai (AH (X3 N) <| AH (z0W N) <| AH (q5b N) <| AZ) N [(65,[(0,[(3,5),(4,5)]),(4,[(19,7),(20,7)])])] [(65,[([0,1,1,1],(Ah [(6,.d .bool)])),
  ([9],(Ah [(6,.d .bool)]))])] (fun _ _=>sC)
section
variable {R:Type} {N:Nat}
end
def fU {R:Type} (N:Nat) (a0 a1:C) (k1:KD R):Option R:=bif !decide ((aj a0+aj a1) / 18446744073709551616=0)then(k1 [aw 0,aw 11] [])else(k1 [aw ((aj a0+aj a1)%18446744073709551616),aw 0] [])
def Jc:=lid "" (@fU R N)
def x5 {R N a0 a1 k}:@Jc R N a0 a1 k=fU N a0 a1 k:=by unfold Jc;rw[AW]
def q9D:OvG R:=Af [.int .u64,.int .u64] (Bl (Jc N)) fun a K d1 m1=>K (ou [V.d (bn av) (dk d1 0),V.d (bn ar) (dk d1 1)]) []
def Wt:okX 37 (@q9D R N):=Ai AZ N [] [(37,[([9],(Ah [(4,.d (.int .u64)),(5,.d (.int .i64))]))])] (fun _ _=>x5)
def fX {R:Type} (N:Nat) (a0 a1:C) (k1:KD R):Option R:=bif decide (aj a0<aj a1)then(k1 [aw 0,aw 12] [])else(k1 [aw (al av (aj a0-aj a1)),aw 0] [])
def Mh:=lid "" (@fX R N)
def x7 {R N a0 a1 k}:@Mh R N a0 a1 k=fX N a0 a1 k:=by unfold Mh;rw[AW]
def q9G:OvG R:=Af [.int .u64,.int .u64] (Bl (Mh N)) fun a K d1 m1=>K (ou [V.d (bn av) (dk d1 0),V.d (bn ar) (dk d1 1)]) []
def fW:okX 85 (@q9G R N):=Ai AZ N [] [(85,[([9],(Ah [(4,.d (.int .u64)),(5,.d (.int .i64))]))])] (fun _ _=>x7)
def Wu (k1:KD R) (k2:KD R):KD R->KD R:=fun k3 d1 m1=>(bif decide (aj (dk d1 3)<aj (dk d1 1))then(if 0<=aj (dk d1 3)/\aj (dk d1 3)<(↑(ak (ao (dk d1 0))):Int)then(Jc N (dk d1 2) (bj (ao (dk d1 0)) (aq (aj (dk d1 3))) du) (fun d2 m2=>(bif !decide (aj (dk d2 1)=0)then(k1 [aw 0,dk d2 1] [])else(k3 [dk d1 0,dk d1 1,dk d2 0,aw (al ar (aj (dk d1 3)+1))] []))))else none)else(k2 [dk d1 2] []))
def fZ (a0:C) (k1:KD R):Option R:=jn (fun d1 m1=>(k1 [dk d1 0,aw 0] [])) (fun k2=>(Ae N (Wu N k1 k2) [a0,aw (↑(ak (ao a0)):Int),aw 0,aw 0] []))
def Mi:=lid "" (@fZ R N)
def x8 {R N a0 k}:@Mi R N a0 k=fZ N a0 k:=by unfold Mi;rw[AW]
def q9H:OvG R:=Af [.slice 8 (.int .u64)] (Bs (Mi N)) fun a K d1 m1=>K (ou [V.d (bn av) (dk d1 0),V.d (bn ar) (dk d1 1)]) []
def fY:okX 38 (@q9H R N):=Ai (AH (Wt N) <| AZ) N [] [(38,[([1,0,1,1],(Ah [(4,.d (.int .u64))])),
  ([4,1,0,1,1],(AY [8,9] [(4,.d (.int .u64)),(10,.d (.int .i64))])),
  ([9],(Ah [(2,.d (.int .u64)),(3,.d (.int .i64))]))])] (fun _ _=>x8)
section
variable {R:Type} {N:Nat}
def Ap (a b:Int):Int × Int:=if(a+b) / 18446744073709551616=0 then((a+b)%18446744073709551616,0)else(0,11)
def BT (a b:Int):Int × Int:=if a<b then(0,12)else(IntKind.u64.wrap (a-b),0)
def add_eq (a b:C) (k:KD R):Jc N a b k=k [.int (Ap a.toInt b.toInt).1,.int (Ap a.toInt b.toInt).2] []:=by rw[x5];unfold fU Ap;by_cases h:(a.toInt+b.toInt) / 18446744073709551616=0 <;> simp[h]
def sub_eq (a b:C) (k:KD R):Mh N a b k=k [.int (BT a.toInt b.toInt).1,.int (BT a.toInt b.toInt).2] []:=by rw[x7];unfold fX BT;by_cases h:a.toInt<b.toInt <;> simp[h]
def ZK {a b:Int} (h:0<=a) (h2:0<=b) (h3:a+b<18446744073709551616):Ap a b=(a+b,0):=by unfold Ap;rw[if_pos (by omega),Int.emod_eq_of_lt (by omega) (by omega)]
def pC {a b:Int} (h:18446744073709551616<=a+b):Ap a b=(0,11):=by unfold Ap;rw[if_neg (by omega)]
def Gh (_:Nat) (s:Int) (c:C):Int ⊕ Int:=if(Ap s c.toInt).2=0 then .inl (Ap s c.toInt).1 else .inr (Ap s c.toInt).2
def Jk:Int ⊕ Int->Int × Int
 | .inl s=>(s,0)| .inr e=>(0,e)
def CM (l:List C):Int × Int:=Jk (Ax Gh 0 0 l)
def nF (c:C) (hl:c.elems.length<2199023255552) (hN:2199023255552<N) (k:KD R):Mi N c k=k [.int (CM c.elems).1,.int (CM c.elems).2] []:=by
 rw[x8];unfold fZ;rw[AP];refine(Hz (F:=Wu N k _) (fun i (s:Int)=>[c,.int c.elems.length,.int s,.int i]) (fun _ _=>[]) c.elems Gh (fun s=>k [.int s,.int 0] []) (fun e=>k [.int 0,.int e] []) ?_ ?_ (by omega)).trans ?_
 ·intro i s x hx hi rec;have h1:(i:Int)<(c.elems.length:Int):=by omega
  unfold Wu Gh;simp only[go_sem,AB,h1,add_eq,BK (show i<4611686018427387904 by omega),bq,and_self,if_true,HK hx];by_cases h:(Ap s x.toInt).2=0 <;> simp[h]
 ·intro s rec;unfold Wu;simp only[go_sem,AB,fa,if_false]
 ·unfold CM EI Jk;cases Ax Gh 0 0 c.elems <;> rfl
end
def XW {R:Type} (N:Nat) (a0:C) (k1:KD R):Option R:=jn (fun d1 m1=>(k1 [cd (cz (dk d1 0))] [])) (fun k2=>(bif decide (aj a0=0)then(k2 [cd true] [])else(k2 [cd (decide (aj a0=1))] [])))
def PR:=lid "" (@XW R N)
def iK {R N a0 k}:@PR R N a0 k=XW N a0 k:=by unfold PR;rw[AW]
def z01:OvG R:=Af [.int .i64] (Bs (PR N)) Ev
def W4:okX 92 (@z01 R N):=Ai AZ N [] [(92,[([0,1],(Ah [(2,.d .bool)])),
  ([9],(Ah [(2,.d .bool)]))])] (fun _ _=>iK)
def XS {R:Type} (N:Nat) (k2:KD R):KD R->KD R:=fun k3 d1 m1=>(bif decide (aj (dk d1 4)<aj (dk d1 2))then(if 0<=aj (dk d1 4)/\aj (dk d1 4)<(↑(ak (ao (dk d1 1))):Int)then(jn (fun d2 m2=>(bif bw (ak (ao (dk d2 4))) (ak (ao (dk d2 4)))then(k3 [dk d2 0,dk d2 1,dk d2 2,bc (ao (dk d2 4)),aw (al ar (aj (dk d2 3)+1))] [])else none)) (fun k4=>(bif decide (aj (ax (bj (ao (dk d1 1)) (aq (aj (dk d1 4))) du) 1)=aj (dk d1 0))then(bif bw (ak (ao (dk d1 3))) (ak (ao (dk d1 3)))then(if(ak (ao (dk d1 3))+1)*8<=140737488355328/\ak (ao (dk d1 3))+1<=9223372036854775807 then(bif bw (ak (ao (dk d1 3))+1) (ak (ao (dk d1 3)++[ax (bj (ao (dk d1 1)) (aq (aj (dk d1 4))) du) 2]))then(k4 [dk d1 0,dk d1 1,dk d1 2,dk d1 4,bc (ao (dk d1 3)++[ax (bj (ao (dk d1 1)) (aq (aj (dk d1 4))) du) 2])] [])else none)else none)else none)else(bif bw (ak (ao (dk d1 3))) (ak (ao (dk d1 3)))then(k4 [dk d1 0,dk d1 1,dk d1 2,dk d1 4,bc (ao (dk d1 3))] [])else none))))else none)else(bif bw (ak (ao (dk d1 3))) (ak (ao (dk d1 3)))then(k2 [bc (ao (dk d1 3))] [])else none))
def iC (a0 a1:C) (k1:KD R):Option R:=jn (fun d1 m1=>(Mi N (bc (ao (dk d1 0))) (fun d2 m2=>(k1 [dk d2 0,dk d2 1] [])))) (fun k2=>(Ae N (XS N k2) [a1,ax a0 4,aw (↑(ak (ao (ax a0 4))):Int),bc [],aw 0] []))
def Sw:=lid "" (@iC R N)
def X1 {R N a0 a1 k}:@Sw R N a0 a1 k=iC N a0 a1 k:=by unfold Sw;rw[AW]
def z0Q:OvG R:=Af [Bk,.int .i64] (Bl (Sw N)) fun a K d1 m1=>K (ou [V.d (bn av) (dk d1 0),V.d (bn ar) (dk d1 1)]) []
def z0R:okX 108 (@z0Q R N):=Ai (AH (fY N) <| AZ) N [(108,[(0,[(2,5)])])] [(108,[([1,0,1,1],(Ah [(6,.sl 8 (.int .u64) 5006)])),
  ([4,1,0,1,1],(AY [1,10,11] [(6,.sl 8 (.int .u64) 5006),(12,.d (.int .i64))])),
  ([1,1,4,0,1,1,5,4,1,0,1,1],(AY [1,10,11,12] [(6,.sl 8 (.int .u64) 5006)])),
  ([9],(Ah [(4,.d (.int .u64)),(5,.d (.int .i64))]))])] (fun _ _=>X1)
def iE {R:Type} (N:Nat) (a0:C) (k1:KD R):Option R:=k1 [aw (al ar (1-aj a0))] []
def XT:=lid "" (@iE R N)
def X6 {R N a0 k}:@XT R N a0 k=iE N a0 k:=by unfold XT;rw[AW]
def z0T:OvG R:=Af [.int .i64] (Bs (XT N)) (BD (bn ar))
def z0U:okX 109 (@z0T R N):=Ai AZ N [] [(109,[([9],(Ah [(2,.d (.int .i64))]))])] (fun _ _=>X6)
def XR (k1:KD R) (k2:KD R):KD R->KD R:=fun k3 d5 m5=>(bif decide (aj (dk d5 3)<aj (dk d5 1))then(if 0<=aj (dk d5 3)/\aj (dk d5 3)<(↑(ak (ao (dk d5 0))):Int)then(Mh N (dk d5 2) (bj (ao (dk d5 0)) (aq (aj (dk d5 3))) du) (fun d6 m6=>(bif !decide (aj (dk d6 1)=0)then(k1 [aw 0,dk d6 1] [])else(k3 [dk d5 0,dk d5 1,dk d6 0,aw (al ar (aj (dk d5 3)+1))] []))))else none)else(k2 [dk d5 2] []))
def iB (a0 a1 a2:C) (k1:KD R):Option R:=PR N a2 (fun d1 m1=>(bif !cz (dk d1 0)then(k1 [aw 0,aw 1] [])else(Sw N a0 a2 (fun d2 m2=>(bif !decide (aj (dk d2 1)=0)then(k1 [aw 0,dk d2 1] [])else(if 0<=aj a2/\aj a2<2 then(XT N a2 (fun d3 m3=>(if 0<=aj (dk d3 0)/\aj (dk d3 0)<2 then(Mi N (bc [ax a1 (aq (aj a2)),ax (ax a0 2) (aq (aj (dk d3 0)))]) (fun d4 m4=>(bif !decide (aj (dk d4 1)=0)then(k1 [aw 0,dk d4 1] [])else(if 0<=aj a2/\aj a2<2 then(if 0<=aj a2/\aj a2<2 then(jn (fun d5 m5=>(k1 [dk d5 0,aw 0] [])) (fun k2=>(Ae N (XR N k1 k2) [bc [ax (ax a0 2) (aq (aj a2)),ax (ax a0 3) (aq (aj a2)),dk d2 0],aw (↑3:Int),dk d4 0,aw 0] [])))else none)else none))))else none)))else none))))))
def PM:=lid "" (@iB R N)
def Y9 {R N a0 a1 a2 k}:@PM R N a0 a1 a2 k=iB N a0 a1 a2 k:=by unfold PM;rw[AW]
def z0P:OvG R:=Af [Bk,.arr 2 (.int .u64),.int .i64] (Ds (PM N)) fun a K d1 m1=>K (ou [V.d (bn av) (dk d1 0),V.d (bn ar) (dk d1 1)]) []
def Y8:okX 84 (@z0P R N):=Ai (AH (fY N) <| AH (fW N) <| AH (W4 N) <| AH (z0R N) <| AH (z0U N) <| AZ) N [(84,[(0,[(3,5),(4,5)]),(6,[(30,7),(35,7)])])] [(84,[([1,0,1,1,1,1,1,1],(Ah [(10,.d (.int .u64))])),
  ([4,1,0,1,1,1,1,1,1],(AY [50,51] [(10,.d (.int .u64)),(52,.d (.int .i64))])),
  ([9],(Ah [(6,.d (.int .u64)),(7,.d (.int .i64))]))])] (fun _ _=>Y9)
def XQ {R:Type} (N:Nat) (a1:C) (k2:KD R) (k3:KD R):KD R->KD R:=fun k4 d1 m1=>(bif decide (aj (dk d1 2)<aj (dk d1 1))then(if 0<=aj (dk d1 2)/\aj (dk d1 2)<(↑(ak (ao (dk d1 0))):Int)then(jn (fun d2 m2=>(bif cz (dk d2 0)then(k2 [dk d1 2] [])else(k4 [dk d1 0,dk d1 1,aw (al ar (aj (dk d1 2)+1))] []))) (fun k5=>(k5 [cd (decide (aj (ax (bj (ao (dk d1 0)) (aq (aj (dk d1 2))) du) 0)=aj a1))] [])))else none)else(k3 [] []))
def iA (a0 a1:C) (k1:KD R):Option R:=jn (fun d1 m1=>(k1 [dk d1 0] [])) (fun k2=>(jn (fun d1 m1=>(k2 [aw (-1)] [])) (fun k3=>(Ae N (XQ N a1 k2 k3) [ax a0 4,aw (↑(ak (ao (ax a0 4))):Int),aw 0] []))))
def Sv:=lid "" (@iA R N)
def Y7 {R N a0 a1 k}:@Sv R N a0 a1 k=iA N a0 a1 k:=by unfold Sv;rw[AW]
def z0N:OvG R:=Af [Bk,.int .u64] (Bl (Sv N)) (BD (bn ar))
def z0O:okX 93 (@z0N R N):=Ai AZ N [(93,[(0,[(2,5)])]),(116,[(0,[(2,5)])])] [(93,[([9],(Ah [(4,.d (.int .i64))]))]),(115,[([1,0,1],⟨[],[],[],[],[.g (.l 3)],[]⟩),([4,1,0,1],⟨[0,1,7],[(8,.d (.int .i64))],[],[],[.g (.l 3)],[]⟩),([9],⟨[],[(4,.d (.int .i64))],[],[],[.g (.l 3)],[]⟩)]),(116,[([9],(Ah [(3,.d .bool)]))])] (fun _ _=>Y7)
def Sy (k1:KD R) (k2:KD R):KD R->KD R:=fun k3 d3 m3=>(bif decide (aj (dk d3 3)<2)then(if 0<=aj (dk d3 3)/\aj (dk d3 3)<2 then(PM N (dk d3 0) (dk d3 1) (ax (dk d3 2) (aq (aj (dk d3 3)))) (fun d4 m4=>(bif !decide (aj (dk d4 1)=0)then(k1 [dk d4 1] [])else(k3 [dk d3 0,dk d3 1,dk d3 2,aw (al ar (aj (dk d3 3)+1))] []))))else none)else(k2 [] []))
def XU (k1:KD R) (k2:KD R):KD R->KD R:=fun k3 d2 m2=>(bif decide (aj (dk d2 4)<aj (dk d2 3))then(if 0<=aj (dk d2 4)/\aj (dk d2 4)<(↑(ak (ao (dk d2 2))):Int)then(jn (fun d3 m3=>(bif cz (dk d3 6)then(k1 [aw 1] [])else(Sv N (dk d3 0) (ax (dk d3 7) 0) (fun d4 m4=>(bif !decide (aj (dk d4 0)=aj (dk d3 2))then(k1 [aw 7] [])else(k3 [dk d3 0,dk d3 1,dk d3 3,dk d3 4,aw (al ar (aj (dk d3 5)+1))] [])))))) (fun k4=>(PR N (ax (bj (ao (dk d2 2)) (aq (aj (dk d2 4))) du) 1) (fun d3 m3=>(bif !cz (dk d3 0)then(k4 [dk d2 0,dk d2 1,dk d2 4,dk d2 2,dk d2 3,dk d2 4,cd true,bj (ao (dk d2 2)) (aq (aj (dk d2 4))) du] [])else(k4 [dk d2 0,dk d2 1,dk d2 4,dk d2 2,dk d2 3,dk d2 4,cd (decide (aj (ax (bj (ao (dk d2 2)) (aq (aj (dk d2 4))) du) 2)=0)),bj (ao (dk d2 2)) (aq (aj (dk d2 4))) du] []))))))else none)else(k2 [dk d2 0,dk d2 1] []))
def iH (a0 a1:C) (k1:KD R):Option R:=jn (fun d1 m1=>(bif cz (dk d1 2)then(k1 [aw 8] [])else(jn (fun d2 m2=>(jn (fun d3 m3=>(k1 [aw 0] [])) (fun k2=>(Ae N (Sy N k1 k2) [dk d2 0,dk d2 1,ct (ct (AJ (cq 2 (bn ar))) 0 (aw 0)) 1 (aw 1),aw 0] [])))) (fun k2=>(Ae N (XU N k1 k2) [dk d1 0,dk d1 1,ax (dk d1 0) 4,aw (↑(ak (ao (ax (dk d1 0) 4))):Int),aw 0] []))))) (fun k2=>(bif decide (200<aj (ax a0 1))then(k2 [a0,a1,cd true] [])else(k2 [a0,a1,cd (decide (8<(↑(ak (ao (ax a0 4))):Int)))] [])))
def PO:=lid "" (@iH R N)
def X9 {R N a0 a1 k}:@PO R N a0 a1 k=iH N a0 a1 k:=by unfold PO;rw[AW]
def z0X:OvG R:=Af [Bk,.arr 2 (.int .u64)] (Bl (PO N)) (BD (bn ar))
def X8:okX 66 (@z0X R N):=Ai (AH (Y8 N) <| AH (W4 N) <| AH (z0O N) <| AZ) N [(66,[(0,[(2,5),(3,5)])])] [(66,[([0,0,1],(AY [2,3] [(19,.d .bool)])),
  ([1,0,1,1],(AY [2,3] [])),
  ([4,1,0,1,1],(AY [2,3,21,22] [(23,.d (.int .i64))])),
  ([0,4,1,4,0,1,1,5,4,1,0,1,1],(AY [2,3,5,6,21,22,23] [(28,.d .bool)])),
  ([1,0,1,1,1],(Ah [])),
  ([4,1,0,1,1,1],(AY [2,3,46] [(47,.d (.int .i64))])),
  ([9],(Ah [(4,.d (.int .i64))]))])] (fun _ _=>X9)
def Sz {R:Type} (N:Nat) (k4:KD R):KD R->KD R:=fun k5 d5 m5=>(bif decide (aj (dk d5 9)<aj (dk d5 7))then(if 0<=aj (dk d5 9)/\aj (dk d5 9)<(↑(ak (ao (dk d5 6))):Int)then(if 0<=aj (dk d5 9)/\aj (dk d5 9)<(↑(ak (ao (dk d5 0))):Int)then(jn (fun d6 m6=>(bif bw (ak (ao (dk d6 9))) (ak (ao (dk d6 9)))then(k5 [dk d6 0,dk d6 1,dk d6 2,dk d6 3,dk d6 4,dk d6 5,dk d6 6,dk d6 7,bc (ao (dk d6 9)),aw (al ar (aj (dk d6 8)+1)),dk d6 10,dk d6 11] [])else none)) (fun k6=>(bif !decide (aj (ax (bj (ao (dk d5 6)) (aq (aj (dk d5 9))) du) 1)=aj (dk d5 4))==cz (bj (ao (dk d5 0)) (aq (aj (dk d5 9))) du)then(bif bw (ak (ao (dk d5 8))) (ak (ao (dk d5 8)))then(if(ak (ao (dk d5 8))+1)*8<=140737488355328/\ak (ao (dk d5 8))+1<=9223372036854775807 then(bif bw (ak (ao (dk d5 8))+1) (ak (ao (dk d5 8)++[ax (bj (ao (dk d5 6)) (aq (aj (dk d5 9))) du) 2]))then(k6 [dk d5 0,dk d5 1,dk d5 2,dk d5 3,dk d5 4,dk d5 5,dk d5 6,dk d5 7,dk d5 9,bc (ao (dk d5 8)++[ax (bj (ao (dk d5 6)) (aq (aj (dk d5 9))) du) 2]),dk d5 10,dk d5 11] [])else none)else none)else none)else(bif bw (ak (ao (dk d5 8))) (ak (ao (dk d5 8)))then(k6 [dk d5 0,dk d5 1,dk d5 2,dk d5 3,dk d5 4,dk d5 5,dk d5 6,dk d5 7,dk d5 9,bc (ao (dk d5 8)),dk d5 10,dk d5 11] [])else none))))else none)else none)else(bif bw (ak (ao (dk d5 8))) (ak (ao (dk d5 8)))then(k4 [dk d5 0,dk d5 1,dk d5 2,dk d5 3,dk d5 4,dk d5 5,bc (ao (dk d5 8)),dk d5 10,dk d5 11] [])else none))
def XV (k1:KD R) (k2:KD R):KD R->KD R:=fun k3 d2 m2=>(bif decide (aj (dk d2 4)<2)then(PM N (dk d2 1) (dk d2 2) (dk d2 4) (fun d3 m3=>(if 0<=aj (dk d2 4)/\aj (dk d2 4)<2 then(if 0<=aj (dk d2 4)/\aj (dk d2 4)<2 then(Mh N (ax (ax (dk d2 1) 3) (aq (aj (dk d2 4)))) (ax (dk d2 3) (aq (aj (dk d2 4)))) (fun d4 m4=>(bif !decide (aj (dk d4 1)=0)then(k1 [dk d4 1,AJ (cq 2 (bn av))] [])else(jn (fun d5 m5=>(Mi N (bc (ao (dk d5 6))) (fun d6 m6=>(if 0<=aj (dk d5 4)/\aj (dk d5 4)<2 then(bif !decide (aj (dk d6 1)=0)then(k1 [dk d6 1,AJ (cq 2 (bn av))] [])else(k3 [dk d5 0,dk d5 1,dk d5 2,dk d5 3,aw (al ar (aj (dk d5 5)+1)),dk d5 7,ct (dk d5 8) (aq (aj (dk d5 4))) (dk d6 0)] []))else none)))) (fun k4=>(Ae N (Sz N k4) [dk d2 0,dk d2 1,dk d2 2,dk d2 3,dk d2 4,dk d2 4,ax (dk d2 1) 4,aw (↑(ak (ao (ax (dk d2 1) 4))):Int),bc [dk d3 0,dk d4 0],aw 0,dk d2 5,dk d2 6] []))))))else none)else none)))else(k2 [dk d2 5,dk d2 6] []))
def iI (a0 a1 a2 a3:C) (k1:KD R):Option R:=PO N a0 a1 (fun d1 m1=>(bif !decide (aj (dk d1 0)=0)then(k1 [dk d1 0,AJ (cq 2 (bn av))] [])else(bif !decide ((↑(ak (ao a3)):Int)=(↑(ak (ao (ax a0 4))):Int))then(k1 [aw 1,AJ (cq 2 (bn av))] [])else(jn (fun d2 m2=>(k1 [aw 0,dk d2 1] [])) (fun k2=>(Ae N (XV N k1 k2) [a3,a0,a1,a2,aw 0,AJ (cq 2 (bn av)),AJ (cq 2 (bn av))] []))))))
def TA:=lid "" (@iI R N)
def W0 {R N a0 a1 a2 a3 k}:@TA R N a0 a1 a2 a3 k=iI N a0 a1 a2 a3 k:=by unfold TA;rw[AW]
def z0Y:OvG R:=Af [Bk,.arr 2 (.int .u64),.arr 2 (.int .u64),.slice 1 .bool] (fun a=>TA N (a 0) (a 1) (a 2) (a 3)) fun a K d1 m1=>K (ou [V.d (cq 2 (bn av)) (dk d1 1),V.d (bn ar) (dk d1 0)]) []
def z0Z:okX 58 (@z0Y R N):=Ai (AH (fY N) <| AH (X8 N) <| AH (Y8 N) <| AH (fW N) <| AZ) N [(58,[(0,[(4,5),(5,5),(6,5)]),(14,[(61,4)]),(11,[(52,7)]),(18,[(19,6)])])] [(58,[([1,0,1,1,1,1],(AY [8,11] [])),
  ([4,1,0,1,1,1,1],(AY [3,4,5,6,8,11] [(34,.d (.int .i64))])),
  ([1,0,1,1,1,1,1,4,0,1,1,5,4,1,0,1,1,1,1],(AY [3,4,5,6,8,11,12,34] [(17,.sl 8 (.int .u64) 5017)])),
  ([4,1,0,1,1,1,1,1,4,0,1,1,5,4,1,0,1,1,1,1],(AY [3,4,5,6,8,11,12,34,63,64] [(17,.sl 8 (.int .u64) 5017),(65,.d (.int .i64))])),
  ([1,1,4,0,1,1,5,4,1,0,1,1,1,1,1,4,0,1,1,5,4,1,0,1,1,1,1],(AY [3,4,5,6,8,11,12,34,63,64,65] [(17,.sl 8 (.int .u64) 5017)])),
  ([9],⟨[],[(8,.as (.ptr (.l 8) [] (.arr 2 (.int .u64)))),(9,.d (.int .i64))],[],[(.l 8,.box (.d (.arr 2 (.int .u64))))],[],[]⟩)])] (fun _ _=>W0)
section
variable {R:Type} {N:Nat}
def q7s (a:C) (k:KD R):PR N a k=k [.bool (decide (a.toInt=0\/a.toInt=1))] []:=by rw[iK];unfold XW;by_cases h:a.toInt=0 <;> simp[h,go_sem,Ag]
def AU (s:C):List C:=(s.get 4).elems
def DW (side:Int) (l:List C):List C:=(l.filter fun c=>decide ((c.get 1).toInt=side)).map fun c=>c.get 2
def EW (s:C) (side:Int):Int × Int:=CM (DW side (AU s))
def q7f {side:Int} {l:List C} {i:Nat} {c:C} (h:l[i]? =some c):DW side (l.take (i+1))=DW side (l.take i)++(if(c.get 1).toInt=side then[c.get 2]else[]):=by unfold DW;rw[List.take_add_one,h,Option.toList_some,List.filter_append,List.map_append];by_cases hs:(c.get 1).toInt=side <;> simp[hs]
def wQ {side:Int} {l:List C} {i:Nat}:(DW side (l.take i)).length<=i:=by unfold DW;rw[List.length_map];exact Nat.le_trans (List.length_filter_le _ _) (by rw[List.length_take];omega)
def q7e (s side:C) (hl:(AU s).length<1099511627776) (hN:2199023255552<N) (k:KD R):Sw N s side k=k [.int (EW s side.toInt).1,.int (EW s side.toInt).2] []:=by
 rw[X1];unfold iC;rw[AP];refine DX (F:=XS N _) (fun i=>[side,s.get 4,.int (AU s).length,.slice (DW side.toInt ((AU s).take i)),.int i]) (fun _=>[]) (AU s).length _ ?_ ?_ (by omega)
 ·intro i hi rec;have hc:(AU s)[i]? =some (AU s)[i]:=List.getElem?_eq_getElem hi;have h1:(i:Int)<((AU s).length:Int):=by omega
  have h2:=wQ (side:=side.toInt) (l:=AU s) (i:=i);have h3:((DW side.toInt ((AU s).take i)).length+1)*8<=140737488355328/\(DW side.toInt ((AU s).take i)).length+1<=9223372036854775807:=by omega
  have hd:(s.get 4).elems.getD i .nil=(AU s)[i]:=HK hc;have hs:(s.get 4).elems.length=(AU s).length:=rfl;unfold XS;simp only[go_sem,AB,AI,hs,h1,hd,BK (show i<4611686018427387904 by omega),bq,and_self,AE,h3,br,q7f hc];by_cases h:((AU s)[i].get 1).toInt=side.toInt;{simp[h]};{simp[h]}
 ·intro rec;unfold XS;simp only[go_sem,AB,AI,fa,AE,br,iu];have h2:=wQ (side:=side.toInt) (l:=AU s) (i:=(AU s).length);rw[iu]at h2;rw[nF _ (by rw[AI];omega) hN];rfl
def JB (_:Nat) (s:Int) (c:C):Int ⊕ Int:=if(BT s c.toInt).2=0 then .inl (BT s c.toInt).1 else .inr (BT s c.toInt).2
def Bw (s put:C) (side:Int):Int × Int:=
 if side≠0/\side≠1 then(0,1)else if(EW s side).2≠0 then(0,(EW s side).2)else
  if(CM [put.get side.toNat,(s.get 2).get (1-side).toNat]).2≠0 then(0,(CM [put.get side.toNat,(s.get 2).get (1-side).toNat]).2)else
   Jk (Ax JB 0 (CM [put.get side.toNat,(s.get 2).get (1-side).toNat]).1 [(s.get 2).get side.toNat,(s.get 3).get side.toNat,.int (EW s side).1])
def vS (s put side:C) (hl:(AU s).length<1099511627776) (hN:2199023255552<N) (k:KD R):PM N s put side k=k [.int (Bw s put side.toInt).1,.int (Bw s put side.toInt).2] []:=by
 rw[Y9];unfold iB Bw;rw[iK];unfold XW;by_cases hs:side.toInt≠0/\side.toInt≠1;{simp[hs.1,hs.2,go_sem,AB,Ag]}
 ·have hs':side.toInt=0\/side.toInt=1:=by omega
  have h2:0<=side.toInt/\side.toInt<2:=by omega
  have h3:0<=(1-side.toInt)/\(1-side.toInt)<2:=by omega
  have w:IntKind.i64.wrap (1-side.toInt)=1-side.toInt:=IntWalk.i64_in _ (by omega);have hb:(bif decide (side.toInt=0)then true else decide (side.toInt=1))=true:=by rcases hs' with h|h <;> simp[h]
  have e:∀K:KD R,(bif decide (side.toInt=0)then K [.bool true] []else K [.bool (decide (side.toInt=1))] [])=K [.bool true] []:=fun K=>by rcases hs' with h|h <;> simp[h]
  rw[if_neg hs];simp only[go_sem,AB,Ag,e,q7e s side hl hN,AE,h2,and_self,X6,iE,w,h3];by_cases h4:(EW s side.toInt).2=0
  ·simp only[h4,AE,ne_eq,not_true];rw[nF _ (by simp[ao]) hN];simp only[go_sem,AB,AI];by_cases h5:(CM [put.get side.toInt.toNat,(s.get 2).get (1-side.toInt).toNat]).2=0
   ·simp only[h5,AE,ne_eq,not_true]
    refine(Hz (F:=XR N k _) (fun i (x:Int)=>[.slice [(s.get 2).get side.toInt.toNat,(s.get 3).get side.toInt.toNat,.int (EW s side.toInt).1],.int 3,.int x,.int i]) (fun _ _=>[])
     [(s.get 2).get side.toInt.toNat,(s.get 3).get side.toInt.toNat,.int (EW s side.toInt).1] JB (fun s=>k [.int s,.int 0] []) (fun e=>k [.int 0,.int e] []) ?_ ?_ (by simp;omega)).trans ?_
    ·intro i x c hx hi rec;have hi3:i<3:=hi;have h1:(i:Int)<3:=by omega
     have hlen:(i:Int)<((0+1+1+1:Nat):Int):=by omega
     unfold XR JB;simp only[go_sem,AB,AI,h1,sub_eq,BK (show i<4611686018427387904 by omega),bq,and_self,if_true,HK hx,cg,de,hlen];by_cases h:(BT x c.toInt).2=0 <;> simp[h]
    ·intro x rec;unfold XR;simp only[go_sem,AB,AI];simp
    ·unfold EI Jk;cases Ax JB 0 (CM [put.get side.toInt.toNat,(s.get 2).get (1-side.toInt).toNat]).1 [(s.get 2).get side.toInt.toNat,(s.get 3).get side.toInt.toNat,.int (EW s side.toInt).1] <;> rfl
   ·simp[h5]
  ·simp[h4]
def zz2:C:=.agg [.int 0,.int 1]
def findF (id:Int) (i:Nat) (_:Unit) (c:C):Unit ⊕ Nat:=if(c.get 0).toInt=id then .inr i else .inl ()
def XZ:Unit ⊕ Nat->Int
 | .inl _=>-1| .inr i=>i
def Fm (s:C) (id:Int):Int:=XZ (Ax (findF id) 0 () (AU s))
def find_eq (s id:C) (hl:(AU s).length<1099511627776) (hN:2199023255552<N) (k:KD R):Sv N s id k=k [.int (Fm s id.toInt)] []:=by
 rw[Y7];unfold iA;rw[AP,AP];refine(Hz (F:=XQ N id _ _) (fun i (_:Unit)=>[s.get 4,.int (AU s).length,.int i]) (fun _ _=>[]) (AU s) (findF id.toInt) (fun _=>k [.int (-1)] []) (fun i=>k [.int i] []) (s0:=()) ?_ ?_ (by omega)).trans ?_
 ·intro i _ c hx hi rec;have h1:(i:Int)<((AU s).length:Int):=by omega
  have hd:(s.get 4).elems.getD i .nil=c:=HK hx;have hs:(s.get 4).elems.length=(AU s).length:=rfl;unfold XQ findF;simp only[go_sem,AB,Ag,hs,h1,hd,BK (show i<4611686018427387904 by omega),bq,and_self,if_true];by_cases h:(c.get 0).toInt=id.toInt <;> simp[h]
 ·intro _ rec;unfold XQ;simp only[go_sem,AB,fa,if_false]
 ·unfold Fm EI XZ;cases Ax (findF id.toInt) 0 () (AU s) <;> rfl
def Hj (s:C) (i:Nat) (_:Unit) (c:C):Unit ⊕ Int:=
 if((c.get 1).toInt≠0/\(c.get 1).toInt≠1)\/(c.get 2).toInt=0 then .inr 1 else if Fm s (c.get 0).toInt=i then .inl ()else .inr 7
def Hv (s put:C) (_:Nat) (_:Unit) (side:Int):Unit ⊕ Int:=if(Bw s put side).2=0 then .inl ()else .inr (Bw s put side).2
def okE:Unit ⊕ Int->Int
 | .inl _=>0| .inr e=>e
def ED (s put:C):Int:=
 if 200<(s.get 1).toInt\/8<(AU s).length then 8 else match Ax (Hj s) 0 () (AU s)with| .inl _=>okE (Ax (Hv s put) 0 () [0,1])| .inr e=>e
def q1X (s put:C) (hN:2199023255552<N) (k:KD R):PO N s put k=k [.int (ED s put)] []:=by
 rw[X9];have hz:ct (ct (AJ (cq 2 (bn ar))) 0 (aw 0)) 1 (aw 1)=zz2:=rfl;unfold iH ED;rw[hz];by_cases h1:200<(s.get 1).toInt;{simp[h1,go_sem,AB,Ag]};have h8e:((8:Int)<(((s.get 4).elems.length:Nat):Int))=(8<(AU s).length):=by show((8:Int)<(((AU s).length:Nat):Int))=_;exact propext ⟨fun h=>by omega,fun h=>by omega⟩
 by_cases h2:8<(AU s).length;{simp only[h1,h2,go_sem,AB,Ag,h8e,or_true,if_true]};have hl:(AU s).length<1099511627776:=by omega
 have key:∀k':KD R,Ae N (Sy N k k') [s,put,zz2,.int 0] []=EI (fun _=>k' [] []) (fun e=>k [.int e] []) (Ax (Hv s put) 0 () [0,1]):=by
  intro k';refine Hz (F:=Sy N k k') (fun i (_:Unit)=>[s,put,zz2,.int i]) (fun _ _=>[]) [0,1] (Hv s put) (fun _=>k' [] []) (fun e=>k [.int e] []) (s0:=()) ?_ ?_ (by simp;omega)
  ·intro i _ c hx hi rec;have hi2:i<2:=hi;have h1:(i:Int)<2:=by omega
   have hc:zz2.get i= .int c:=by
    have:i=0\/i=1:=by omega
    rcases this with rfl|rfl <;> simp at hx <;> subst hx <;> rfl
   unfold Sy Hv;simp only[go_sem,AB,h1,hc,vS s put _ hl hN,BK (show i<4611686018427387904 by omega),bq,and_self,if_true];by_cases h:(Bw s put c).2=0 <;> simp[h]
  ·intro _ rec;unfold Sy;simp[go_sem,AB]
 have hor:¬(200<(s.get 1).toInt\/8<(AU s).length):=by omega
 rw[if_neg hor];simp only[h1,h2,go_sem,AB,Ag,h8e,AE];refine(Hz (F:=XU N k _) (fun i (_:Unit)=>[s,put,s.get 4,.int (AU s).length,.int i]) (fun _ _=>[]) (AU s) (Hj s) (fun _=>k [.int (okE (Ax (Hv s put) 0 () [0,1]))] []) (fun e=>k [.int e] []) (s0:=()) ?_ ?_ (by omega)).trans ?_
 ·intro i _ c hx hi rec;have h1:(i:Int)<((AU s).length:Int):=by omega
  have hd:(s.get 4).elems.getD i .nil=c:=HK hx;have hs:(s.get 4).elems.length=(AU s).length:=rfl;unfold XU Hj;simp only[go_sem,AB,Ag,hs,h1,hd,BK (show i<4611686018427387904 by omega),bq,and_self,if_true,find_eq s _ hl hN,q7s];by_cases h3:(c.get 1).toInt=0;{by_cases h4:(c.get 2).toInt=0;{simp[h3,h4]};{by_cases h5:Fm s (c.get 0).toInt=i <;> simp[h3,h4,h5]}};{by_cases h3':(c.get 1).toInt=1;{by_cases h4:(c.get 2).toInt=0;{simp[h3',h4]};{by_cases h5:Fm s (c.get 0).toInt=i <;> simp[h3',h4,h5]}};{simp[h3,h3']}}
 ·intro _ rec;unfold XU;simp only[go_sem,AB,fa,AE,key];unfold EI okE;cases Ax (Hv s put) 0 () [0,1] <;> rfl
 ·unfold EI;cases Ax (Hj s) 0 () (AU s) <;> rfl
def q1Z {s put:C} (h:ED s put=0):(AU s).length<=8/\(s.get 1).toInt<=200:=by unfold ED at h;split at h;{cases h};{omega}
def Gt (done:List C) (side:Int) (j:Nat) (acc:List C) (c:C):List C ⊕ Unit:=.inl (if(!(decide ((c.get 1).toInt=side)==(done.getD j .nil).toBool))=true then acc++[c.get 2]else acc)
def JZ:List C ⊕ Unit->List C
 | .inl l=>l| .inr _=>[]
def JA (done:List C) (side:Int) (acc l:List C):List C:=JZ (Ax (Gt done side) 0 acc l)
def q1q {α σ:Type} {f:Nat->σ->α->σ ⊕ Unit} (g:Nat->σ->α->σ) (h:∀i s c,f i s c= .inl (g i s c)):∀(l:List α) (i:Nat) (s:σ),∃s',Ax f i s l= .inl s'
 | [],_,s=>⟨s,rfl⟩|c::l,i,s=>by simp only[Ax,h];exact q1q g h l _ _
def z4v {done:List C} {s:C} (hd:done.length=(AU s).length) (hl:(AU s).length<=8) (hN:2199023255552<N) (sd:C) (hsd:sd= .slice done) (put yi a b out:C) (side:Nat) (acc:List C) (z8s:acc.length<=2) (k4:KD R):
  Ae N (Sz N k4) [sd,s,put,yi,.int side,.int side,s.get 4,.int (AU s).length,.slice acc,.int 0,b,out] []=k4 [sd,s,put,yi,.int side,.int side,.slice (JA done side acc (AU s)),b,out] []:=by
 subst hsd
 refine(Ot (F:=Sz N k4) (fun j (x:List C)=>[.slice done,s,put,yi,.int side,.int side,s.get 4,.int (AU s).length,.slice x,.int j,b,out]) (fun _ _=>[]) (AU s) (Gt done side)
  (fun x=>k4 [.slice done,s,put,yi,.int side,.int side,.slice x,b,out] []) (fun _=>none) (fun j x=>x.length<=j+2) z8s ?_ ?_ (by omega)).trans ?_
 ·intro j x c hx hP;have hj:j<(AU s).length:=(bu.1 hx).1;refine⟨fun rec=>?_,fun x' hx'=>?_⟩
  ·have h1:(j:Int)<((AU s).length:Int):=by omega
   have h1d:(j:Int)<(done.length:Int):=by omega
   have hg:(s.get 4).elems.getD j .nil=c:=HK hx;have hs:(s.get 4).elems.length=(AU s).length:=rfl;have h3:(x.length+1)*8<=140737488355328/\x.length+1<=9223372036854775807:=by omega
   unfold Sz Gt;simp only[go_sem,AB,Ag,AI,hs,h1,h1d,hg,BK (show j<4611686018427387904 by omega),bq,and_self,AE,br,h3,bt,cg,de];cases h:(!(decide ((c.get 1).toInt=(side:Int))==(done.getD j .nil).toBool)) <;> simp only[AE,Bool.false_eq_true]
  ·unfold Gt at hx';simp only[wh]at hx';subst hx';split;{simp;omega};{omega}
 ·intro x hP rec;unfold Sz;simp only[go_sem,AB,AI,fa,AE,br]
 ·obtain⟨x,hx⟩:=q1q (f:=Gt done side) _ (fun _ _ _=>rfl) (AU s) 0 acc;unfold JA;rw[hx];rfl
def Le (done:List C) (s put yi:C) (_:Nat) (out:C) (side:Nat):C ⊕ Int:=
 if(BT ((s.get 3).get side).toInt (yi.get side).toInt).2≠0 then .inr (BT ((s.get 3).get side).toInt (yi.get side).toInt).2 else
  if(CM (JA done side [.int (Bw s put side).1,.int (BT ((s.get 3).get side).toInt (yi.get side).toInt).1] (AU s))).2≠0 then .inr (CM (JA done side [.int (Bw s put side).1,.int (BT ((s.get 3).get side).toInt (yi.get side).toInt).1] (AU s))).2
  else .inl (out.set side (.int (CM (JA done side [.int (Bw s put side).1,.int (BT ((s.get 3).get side).toInt (yi.get side).toInt).1] (AU s))).1))
def zz:C:=.agg [.int 0,.int 0]
def mQ:C ⊕ Int->Int × C
 | .inl out=>(0,out)| .inr e=>(e,zz)
def Ci (s put yi:C) (done:List C):Int × C:=
 if ED s put≠0 then(ED s put,zz)else if done.length≠(AU s).length then(1,zz)else mQ (Ax (Le done s put yi) 0 zz [0,1])
def q10 {done} {side:Int}:∀(l:List C) (i:Nat) (acc:List C),(JZ (Ax (Gt done side) i acc l)).length<=acc.length+l.length
 | [],_,acc=>by simp[Ax,JZ]
 |c::l,i,acc=>by simp only[Ax,Gt];refine Nat.le_trans (q10 l _ _) ?_;split <;> simp <;> omega
def z4w (s put yi:C) (done:C) (hd:done= .slice done.elems) (hN:2199023255552<N) (k:KD R):TA N s put yi done k=k [.int (Ci s put yi done.elems).1,(Ci s put yi done.elems).2] []:=by
 rw[W0];have hz:AJ (cq 2 (bn av))=zz:=rfl;unfold iI Ci;rw[hz,q1X s put hN];by_cases h1:ED s put=0
 case neg=>simp[h1,go_sem,AB]
 by_cases h2:done.elems.length=(AU s).length
 case neg=>
  have h2':¬((done.elems.length:Int)=((s.get 4).elems.length:Int)):=fun h=>h2 (by show _=(s.get 4).elems.length;omega);simp only[h1,h2,h2',go_sem,AB,AE,ne_eq,not_true,not_false_iff]
 have hs:(s.get 4).elems.length=(AU s).length:=rfl;simp only[h1,h2,hs,go_sem,AB,AE,ne_eq,not_true];obtain⟨hl,_⟩:=q1Z h1;refine(Hz (F:=XV N k _) (fun i (out:C)=>[done,s,put,yi,.int i,zz,out]) (fun _ _=>[]) ([0,1]:List Nat) (Le done.elems s put yi) (fun out=>k [.int 0,out] []) (fun e=>k [.int e,zz] []) ?_ ?_ (show 2<N by omega)).trans ?_
 ·intro i out c hx hi rec;have hi2:i<2:=hi;have h1:(i:Int)<2:=by omega
  have hc:c=i:=by
   have:i=0\/i=1:=by omega
   rcases this with rfl|rfl <;> simp at hx <;> exact hx.symm
  subst hc;unfold XV Le;simp only[go_sem,AB,h1,vS s put _ (by omega) hN,BK (show c<4611686018427387904 by omega),bq,and_self,if_true,sub_eq];by_cases h3:(BT ((s.get 3).get c).toInt (yi.get c).toInt).2=0
  case neg=>simp[h3,hz]
  have:=fun(b out:C) (k4:KD R)=>z4v (N:=N) (s:=s) h2 hl hN done hd put yi zz b out c [.int (Bw s put c).1,.int (BT ((s.get 3).get c).toInt (yi.get c).toInt).1] (by simp) k4;simp only[h3,AE,ne_eq,not_true];rw[hs,this];have hlen:=q10 (done:=done.elems) (side:=(c:Int)) (AU s) 0 [.int (Bw s put c).1,.int (BT ((s.get 3).get c).toInt (yi.get c).toInt).1];rw[nF _ (by simp only[go_sem,AI];unfold JA;simp at hlen;omega) hN];simp only[go_sem,AB,AI,h1,bq,and_self,if_true,BK (show c<4611686018427387904 by omega)];by_cases h4:(CM (JA done.elems c [.int (Bw s put c).1,.int (BT ((s.get 3).get c).toInt (yi.get c).toInt).1] (AU s))).2=0 <;> simp[h4,hz]
 ·intro out rec;unfold XV;simp[go_sem,AB]
 ·unfold EI mQ;cases Ax (Le done.elems s put yi) 0 zz [0,1] <;> rfl
end
def q4F:List Sh:=[.as (.ptr (.g (.l 1)) [] Gc),.d (.int .i64)]
def q4H:List (Key × OSh):=[(.l 1,.box (.agg Gc [.vec (.g (.l 2)) 8 (.int .u64),.d (.int .i64)])),(.l 2,.box (.arr (.int .u64)))]
def aA {R:Type} (N:Nat) (a0 b0 b1 b2:C) (k1:KD R):Option R:=jn (fun d1 m1=>(if ak (ao (dk d1 3))=ak (ao (dk d1 3))then(k1 [aw (↑(aq (aj (dk d1 0))):Int),dk d1 1,aw (↑(aq (aj (dk d1 2))):Int),dk d1 3] [])else none)) (fun k2=>(bif decide (aj b1=0)then(if ak (ao b2)=ak (ao b2)then(k2 [aw (↑(aq (aj b0)):Int),a0,aw (↑(ak (ao b2)):Int),b2] [])else none)else(if ak (ao b2)=ak (ao b2)then(k2 [aw (↑(aq (aj b0)):Int),b1,aw (↑(ak (ao b2)):Int),b2] [])else none)))
def Ig:=lid "" (@aA R N)
def rK {R N a0 b0 b1 b2 k}:@Ig R N a0 b0 b1 b2 k=aA N a0 b0 b1 b2 k:=by unfold Ig;rw[AW]
def q4G:OvG R:=Cf q4F q4H (fun ds ms=>Ig N (dk ds 0) (dk ds 1) (dk ds 2) (dk ds 3)) fun ds ms K d1 m1=>K (ou []) [(Key.g (Key.l 1),
  O.box
   (V.agg Gc
    [V.sr (Key.l 1000000000074) [] 0 (aq (aj (dk d1 0))) none 8 (bn av),
     V.d (bn ar) (dk d1 1)])),
 (Key.g (Key.l 2),O.dead (cq (aq (aj (dk d1 2))) (bn av))),
 (Key.l 1000000000074,O.box (V.d (cq (ak (ao (dk d1 3))) (bn av)) (dk d1 3)))]
def Zz:okX 117 (@q4G R N):=Cq AZ N [] [(117,[([1],⟨[0],[],[.g (.l 1),.g (.l 2)],[],[],[(.int .u64)]⟩),
  ([9],⟨[],[],[.g (.l 1),.g (.l 2)],[],[],[(.int .u64)]⟩)])] (fun _ _ _=>rK)
end Go.Proofs.YtgdonkaoajbclaaGreatDoor
