/-
 What the functions on the way compute, part 2.
 Conditions: none.
-/
import Derived.Test.YtpemdagggddcfaaGreatDoorKa
set_option linter.all false
noncomputable section
set_option maxRecDepth 100000
set_option maxHeartbeats 4000000
open BitVec renaming ofInt->jc
open Go.BinOp renaming and->fv
open Go.E.C renaming beq->qw,bool->dw,elems->bq,get->cd,int->br,nil->gm,set->dt,slice->cz,toBool->ez,toInt->bp
open Go.E.Key renaming g->ei,l->df
open Go.E.Ty renaming arr->dc,int->cg
open Go.E.V renaming tup->rj
open Go.IntKind renaming i64->ca,u32->dj,u64->bw,u8->de,wrap->bu
open Int renaming fdiv->ft,lt_irrefl->fw,natCast_nonneg->db,tdiv->tv,tmod->ee,toNat->bo,toNat_natCast->bx
open List renaming append_assoc->jh,drop->fm,getD->dr,getElem?_eq_getElem->cr,length->bn,length_append->da,length_cons->dp,length_nil->dx,mem_cons->iu,mem_singleton->gh,not_mem_nil->pw,take->ed,take_add_one->qm,take_length->ej
open Nat renaming beq->di,beq_refl->cm
namespace Go.Proofs.YtpemdagggddcfaaGreatDoor
open Go Go.E
variable {R:Type} (N:Nat)
def q36:List Sh:=[.ts 1 (.int .u8),.d (.slice 4 (.int .u32))]
def q38:List (Key × OSh):=[]
def Uz (k2:KD R):KD R->KD R:=fun k3 d1 m1=>(bif decide (bp (dk d1 3)<bp (dk d1 1))then(if 0<=bp (dk d1 3)/\bp (dk d1 3)<(↑(bn (bq (dk d1 0))):Int)then(bif di (bn (bq (dk d1 2))) (bn (bq (dk d1 2)))then(OG N (cz (bq (dk d1 2))) (br (bu bw (bp (dr (bq (dk d1 0)) (bo (bp (dk d1 3))) gm)))) (br 4) (fun d2 m2=>(bif di (bn (bq (dk d2 0))) (bn (bq (dk d2 0)))then(k3 [dk d1 0,dk d1 1,cz (bq (dk d2 0)),br (bu ca (bp (dk d1 3)+1))] [])else none)))else none)else none)else(bif di (bn (bq (dk d1 2))) (bn (bq (dk d1 2)))then(k2 [cz (bq (dk d1 2))] [])else none))
def Zy (a0 a1:C) (k1:KD R):Option R:=jn (fun d1 m1=>(bif di (bn (bq (dk d1 0))) (bn (bq (dk d1 0)))then(k1 [cz (bq (dk d1 0))] [])else none)) (fun k2=>(bif di (bn (bq a0)) (bn (bq a0))then(BP N (Uz N k2) [a1,br (↑(bn (bq a1)):Int),cz (bq a0),br 0] [])else none))
def Kt:=lid "" (@Zy R N)
theorem rG {R N a0 a1 k}:@Kt R N a0 a1 k=Zy N a0 a1 k:=by unfold Kt;rw[Ao]
def q37:OvG R:=Ca q36 q38 (fun ds ms=>Kt N (dk ds 0) (dk ds 1)) fun ds ms K d1 m1=>K (V.ts 1 (cg de) (bq (dk d1 0))) []
theorem rF:okX 199 (@q37 R N):=Cc (AR (rL N) <| Aq) N [(199,[(4,[(16,1)])])] [(199,[([1,0,1],(Bh [(0,.sl 1 (.int .u8) 5000)])),
  ([4,1,0,1],(Bv [7,8] [(0,.sl 1 (.int .u8) 5000),(9,.d (.int .i64))])),
  ([9],(Bh [(4,.sl 1 (.int .u8) 5004)]))])] (fun _ _ _=>rG) fun ds ms K=>(show _=jn (fun d1 m1=>(bif di (bn (bq (dk d1 0))) (bn (bq (dk d1 0)))then
  (K (V.ts 1 (cg de) (bq (dk d1 0))) [])
 else
  none)) _ by kernel_rfl).trans (congrArg (fun k=>jn k _) (funext fun _=>funext fun _=>by simp only[cm,cond_true]))
def q4c:List Sh:=[.ts 1 (.int .u8),.d (.slice 32 (.arr 32 (.int .u8)))]
def q4f:List (Key × OSh):=[]
def rJ {R:Type} (N:Nat) (k2:KD R):KD R->KD R:=fun k3 d1 m1=>(bif decide (bp (dk d1 3)<bp (dk d1 1))then(if 0<=bp (dk d1 3)/\bp (dk d1 3)<(↑(bn (bq (dk d1 0))):Int)then(bif di (bn (bq (dk d1 2))) (bn (bq (dk d1 2)))then(if(bn (bq (dk d1 2))+bn (ed 32 (fm 0 (bq (dr (bq (dk d1 0)) (bo (bp (dk d1 3))) gm)))))*1<=140737488355328/\bn (bq (dk d1 2))+bn (ed 32 (fm 0 (bq (dr (bq (dk d1 0)) (bo (bp (dk d1 3))) gm))))<=9223372036854775807 then(bif di (bn (bq (dk d1 2))+bn (ed 32 (fm 0 (bq (dr (bq (dk d1 0)) (bo (bp (dk d1 3))) gm))))) (bn (bq (dk d1 2)++ed 32 (fm 0 (bq (dr (bq (dk d1 0)) (bo (bp (dk d1 3))) gm)))))then(k3 [dk d1 0,dk d1 1,cz (bq (dk d1 2)++ed 32 (fm 0 (bq (dr (bq (dk d1 0)) (bo (bp (dk d1 3))) gm)))),br (bu ca (bp (dk d1 3)+1))] [])else none)else none)else none)else none)else(bif di (bn (bq (dk d1 2))) (bn (bq (dk d1 2)))then(k2 [cz (bq (dk d1 2))] [])else none))
def aA (a0 a1 a2:C) (k1:KD R):Option R:=jn (fun d1 m1=>(bif di (bn (bq (dk d1 0))) (bn (bq (dk d1 0)))then(k1 [cz (bq (dk d1 0))] [])else none)) (fun k2=>(bif di (bn (bq a0)) (bn (bq a0))then(BP N (rJ N k2) [a1,br (↑(bn (bq a1)):Int),cz (bq a0),br 0] [])else none))
def Ra:=lid "" (@aA R N)
theorem rK {R N a0 a1 a2 k}:@Ra R N a0 a1 a2 k=aA N a0 a1 a2 k:=by unfold Ra;rw[Ao]
def q4d:OvG R:=Ca q4c q4f (fun ds ms=>Ra N (dk ds 0) (dk ds 1) (dk ds 2)) fun ds ms K d1 m1=>K (V.ts 1 (cg de) (bq (dk d1 0))) []
theorem q4e:okX 212 (@q4d R N):=Cc Aq N [] [(212,[([1,0,1],(Bh [(0,.sl 1 (.int .u8) 5000)])),
  ([4,1,0,1],(Bv [7,8] [(0,.sl 1 (.int .u8) 5000),(9,.d (.int .i64))])),
  ([9],(Bh [(4,.sl 1 (.int .u8) 5004)]))])] (fun _ _ _=>rK) fun ds ms K=>(show _=jn (fun d1 m1=>(bif di (bn (bq (dk d1 0))) (bn (bq (dk d1 0)))then
  (K (V.ts 1 (cg de) (bq (dk d1 0))) [])
 else
  none)) _ by kernel_rfl).trans (congrArg (fun k=>jn k _) (funext fun _=>funext fun _=>by simp only[cm,cond_true]))
section
variable {R:Type} {N:Nat}
def Fe:Nat->Int->List C
 |0,_=>[]|k+1,n=>Fe k (n / 256)++[.int (n%256)]
theorem JI:∀(k:Nat) (n:Int),(Fe k n).length=k
 |0,_=>rfl|k+1,n=>by simp[Fe,JI k]
theorem qX:∀(k:Nat) (n:Int),Fe (k+1) n= .int (n / 256^k%256)::Fe k n
 |0,n=>by simp[Fe]
 |k+1,n=>by
  have e:n / 256 / 256^k=n / 256^(k+1):=by rw[Int.ediv_ediv_of_nonneg (by omega),Int.pow_succ,Int.mul_comm]
  rw[Fe,qX k (n / 256),e];rfl
theorem sP (k2:KD R) (c:C) (hc:0<=c.toInt):∀(m:Nat) (out:List C) (N':Nat),m<=8->m<N'->out.length+m<=1000000000000->
  BP N' (Rb N k2) [c,.slice out,.int ((m:Int)-1)] []=k2 [.slice (out++Fe m c.toInt)] []
 |0,out,N',_,hN,_=>by obtain⟨n,rfl⟩:∃n,N'=n+1:=⟨N'-1,by omega⟩;rw[Dt];unfold Rb;simp[go_sem,AF,Ac,Fe]
 |m+1,out,N',hm,hN,hl=>by
  obtain⟨n,rfl⟩:∃n,N'=n+1:=⟨N'-1,by omega⟩;have e0:((m+1:Nat):Int)-1=m:=by omega
  have e1:IntKind.i64.wrap (8*(m:Int))=8*m:=wrap_i64 (by omega) (by omega);have e2:IntKind.i64.wrap ((m:Int)-1)=m-1:=wrap_i64 (by omega) (by omega);have e3:min (8*(m:Int)).toNat 64=8*m:=by omega
  have e4:ft c.toInt (2^(8*m))=c.toInt / 256^m:=by rw[Int.fdiv_eq_ediv_of_nonneg _ (Int.pow_nonneg (by omega)),Int.pow_mul];rfl
  have h1:(0:Int)<=8*m:=by omega
  have h2:(out.length+1)*1<=140737488355328/\out.length+1<=9223372036854775807:=by omega
  have hb:∀rec:KD R,Rb N k2 rec [c,.slice out,.int m] []=rec [c,.slice (out++[.int (c.toInt / 256^m%256)]),.int ((m:Int)-1)] []:=by intro rec;unfold Rb;simp only[AI,AL,AP,AF,Ac,e1,e2,e3,e4,wrap_u8,h1,h2,and_self,AG,db,cm,da,dp,dx,Nat.zero_add]
  rw[Dt,e0,hb];rw[sP k2 c hc m _ n (by omega) (by omega) (by simp;omega),qX];simp
theorem sN (out:List C) (c:C) (hc:0<=c.toInt) (m:Nat) (hm:m<=8) (hl:out.length+m<=1000000000000) (hN:100<N) (k:KD R):
  OG N (.slice out) c (.int m) k=k [.slice (out++Fe m c.toInt)] []:=by
 rw[rM];unfold aB;simp only[AY,AF,Ac,AI,cm,cond_true];rw[wrap_i64 (by omega) (by omega),sP _ c hc m out N hm (by omega) hl];rfl
theorem sM (out l:List C) (hl:out.length+l.length<=1000000000000) (k:KD R):MH N (.slice out) (.slice l) k=k [.slice (out++l)] []:=by rw[rI];unfold Zz;simp only[Ac,cm,cond_true,da];rw[if_pos (by omega)]
def Dj (k:Nat) (l:List C):List C:=l.flatMap fun c=>Fe k c.toInt
theorem qZ {k:Nat} {l:List C} {i:Nat} (h:i<l.length):Dj k (l.take (i+1))=Dj k (l.take i)++Fe k (l.getD i .nil).toInt:=by
 have:l.take (i+1)=l.take i++[l.getD i .nil]:=by rw[qm,cr h,List.getD_eq_getElem?_getD,cr h];rfl
 rw[this];simp[Dj]
theorem Zu (k:Nat):∀l:List C,(Dj k l).length=k*l.length
 | []=>rfl|c::l=>by have:=Zu k l;simp only[Dj,List.flatMap_cons,da,JI,dp]at this ⊢;rw[this,Nat.mul_succ];omega
theorem VE (out l:List C) (hc:∀c∈l,0<=c.toInt) (hl:out.length+8*l.length<=1000000000000) (hN:l.length+100<N) (k:KD R):
  Jx N (.slice out) (.slice l) k=k [.slice (out++Dj 8 l)] []:=by
 rw[rD];unfold Zx;simp only[AY,AF,Ac,AI,cm,cond_true];have key:=Km (F:=Uy N fun d1 m1=>k [.slice (dk d1 0).elems] []) (fun i=>[.slice l,.int l.length,.slice (out++Dj 8 (l.take i)),.int i]) (fun _=>[]) l.length (k [.slice (out++Dj 8 l)] []) ?_ ?_ (N:=N) (by omega);{simpa[Dj]using key}
 ·intro i hi rec;have h1:(i:Int)<(l.length:Int):=by omega
  unfold Uy;simp only[AI,AL,AP,AU,AF,Ac,h1,AG,db,and_self,cm,bx];rw[show br 8=br ((8:Nat):Int) from rfl,sN _ _ (hc _ (IU hi)) 8 (by omega) (by simp[Zu];omega) (by omega)];simp only[AI,Ac,cm,cond_true,qZ hi,CZ (show i<4611686018427387904 by omega),jh]
 ·intro rec;unfold Uy;simp only[AI,AL,AP,AU,AF,Ac,fw,AG,cm,ej]
theorem sL (out l:List C) (hc:∀c∈l,0<=c.toInt/\c.toInt<18446744073709551616) (hl:out.length+4*l.length<=1000000000000) (hN:l.length+100<N) (k:KD R):
  Kt N (.slice out) (.slice l) k=k [.slice (out++Dj 4 l)] []:=by
 rw[rG];unfold Zy;simp only[AY,AF,Ac,AI,cm,cond_true];have key:=Km (F:=Uz N fun d1 m1=>k [.slice (dk d1 0).elems] []) (fun i=>[.slice l,.int l.length,.slice (out++Dj 4 (l.take i)),.int i]) (fun _=>[]) l.length (k [.slice (out++Dj 4 l)] []) ?_ ?_ (N:=N) (by omega);{simpa[Dj]using key}
 ·intro i hi rec;have h1:(i:Int)<(l.length:Int):=by omega
  have h2:=hc _ (IU hi);unfold Uz;simp only[AI,AL,AP,AU,AF,Ac,h1,AG,db,and_self,cm,bx];rw[wrap_u64 h2.1 h2.2,show br 4=br ((4:Nat):Int) from rfl,sN _ _ (by simpa[AF]using h2.1) 4 (by omega) (by simp[Zu];omega) (by omega)];simp only[AI,AF,Ac,cm,cond_true,qZ hi,CZ (show i<4611686018427387904 by omega),jh]
 ·intro rec;unfold Uz;simp only[AI,AL,AP,AU,AF,Ac,fw,AG,cm,ej]
theorem q4v (out:List C) (c x:C) (hc:c.elems.length=32) (hl:out.length+32<=1000000000000) (hN:100<N) (k:KD R):
  Ra N (.slice out) (.slice [c]) x k=k [.slice (out++c.elems)] []:=by
 obtain⟨n,rfl⟩:∃n,N=n+2:=⟨N-2,by omega⟩;have e1:c.elems.take 32=c.elems:=by rw[List.take_of_length_le (by omega)]
 have w1:IntKind.i64.wrap (0+1)=1:=by decide
 rw[rK];unfold aA;simp only[AY,AF,Ac,AI,cm,cond_true];rw[Dt];unfold rJ;simp only[AI,AL,AP,AU,AF,Ac,dp,dx,Nat.zero_add,List.getD_cons_zero,Int.toNat_zero,List.drop_zero,e1,hc,cm,cond_true,da,w1];rw[if_pos (by omega),Dt];simp[go_sem,AF,Ac];intro h;omega
end
def U0:List Sh:=[.ts 1 (.int .u8),.d CV]
def U3:List (Key × OSh):=[]
def Xf (a0 a1:C) (k1:KD R):Option R:=bif di (bn (bq a0)) (bn (bq a0))then(Jx N (cz (bq a0)) (cz [cd a1 0]) (fun d1 m1=>(bif di (bn (bq (dk d1 0))) (bn (bq (dk d1 0)))then(MH N (cz (bq (dk d1 0))) (cz [br (bu de (bp (cd a1 1)))]) (fun d2 m2=>(bif di (bn (bq (dk d2 0))) (bn (bq (dk d2 0)))then(Jx N (cz (bq (dk d2 0))) (cz [cd a1 2]) (fun d3 m3=>(bif di (bn (bq (dk d3 0))) (bn (bq (dk d3 0)))then(Ra N (cz (bq (dk d3 0))) (cz [cd a1 3]) gm (fun d4 m4=>(bif di (bn (bq (dk d4 0))) (bn (bq (dk d4 0)))then(Jx N (cz (bq (dk d4 0))) (cz [cd a1 4]) (fun d5 m5=>(bif di (bn (bq (dk d5 0))) (bn (bq (dk d5 0)))then(k1 [cz (bq (dk d5 0))] [])else none)))else none)))else none)))else none)))else none)))else none
def Pr:=lid "" (@Xf R N)
theorem iQ {R N a0 a1 k}:@Pr R N a0 a1 k=Xf N a0 a1 k:=by unfold Pr;rw[Ao]
def U1:OvG R:=Ca U0 U3 (fun ds ms=>Pr N (dk ds 0) (dk ds 1)) fun ds ms K d1 m1=>K (V.ts 1 (cg de) (bq (dk d1 0))) []
theorem U2:okX 211 (@U1 R N):=Cc (AR (rC N) <| AR (rH N) <| AR (q4e N) <| Aq) N [(211,[(0,[(3,5)]),(1,[(9,1),(14,1),(18,1),(22,1),(26,1)])])] [(211,[([9],(Bh [(4,.sl 1 (.int .u8) 5004)]))])] (fun _ _ _=>iQ) fun ds ms K=>(show _=jn (fun d1 m1=>(bif di (bn (bq (dk d1 0))) (bn (bq (dk d1 0)))then
  (K (V.ts 1 (cg de) (bq (dk d1 0))) [])
 else
  none)) _ by kernel_rfl).trans (congrArg (fun k=>jn k _) (funext fun _=>funext fun _=>by simp only[cm,cond_true]))
section
variable {R:Type} {N:Nat}
structure Si (c:C):Prop where
 id:W64 (c.get 0).toInt
 am:W64 (c.get 2).toInt
 hash:(c.get 3).elems.length=32
 exp:W64 (c.get 4).toInt
def PV (c:C):List C:=Fe 8 (c.get 0).toInt++[.int ((c.get 1).toInt%256)]++Fe 8 (c.get 2).toInt++(c.get 3).elems++Fe 8 (c.get 4).toInt
theorem j4 {c:C} (h:Si c):(PV c).length=57:=by simp[PV,JI,h.hash]
theorem RY (k:Nat) (c:C):Dj k [c]=Fe k c.toInt:=by simp[Dj]
theorem aI {c:C} (h:W64 c.toInt):∀x∈[c],0<=x.toInt:=by intro x hx;simp at hx;subst hx;exact h.1
theorem q2w (out:List C) (c:C) (h:Si c) (hl:out.length<=100000000) (hN:200<N) (k:KD R):Pr N (.slice out) c k=k [.slice (out++PV c)] []:=by rw[iQ];unfold Xf;simp only[Ac,cm,cond_true];rw[VE _ _ (aI h.id) (by simp;omega) (by simp;omega)];simp only[AI,Ac,cm,cond_true,wrap_u8,RY];rw[sM _ _ (by simp[JI];omega)];simp only[AI,Ac,cm,cond_true];rw[VE _ _ (aI h.am) (by simp[JI];omega) (by simp;omega)];simp only[AI,Ac,cm,cond_true,RY];rw[q4v _ _ _ h.hash (by simp[JI];omega) (by omega)];simp only[AI,Ac,cm,cond_true];rw[VE _ _ (aI h.exp) (by simp[JI,h.hash];omega) (by simp;omega)];simp only[AI,Ac,cm,cond_true,RY,PV,jh]
end
section
variable {R:Type} {N:Nat}
structure StW (s:C):Prop where
 ch:W64 (s.get 0).toInt
 rd:W64 (s.get 1).toInt
 p0:W64 ((s.get 2).get 0).toInt
 p1:W64 ((s.get 2).get 1).toInt
 q0:W64 ((s.get 3).get 0).toInt
 q1:W64 ((s.get 3).get 1).toInt
 cs:∀c∈(s.get 4).elems,Si c
 ln:(s.get 4).elems.length<=12
end
def sX {R:Type} (N:Nat) (a0:C) (k1:KD R):Option R:=k1 [C.agg [a0,AO (cg bw),AO (dc 2 (cg bw)),AO (dc 2 (cg bw)),cz []]] []
def OM:=lid "" (@sX R N)
theorem sY {R N a0 k}:@OM R N a0 k=sX N a0 k:=by unfold OM;rw[Ao]
def q4B:OvG R:=BW [.int .u32] (DR (OM N)) (Cf Bg)
theorem sW:okX 127 (@q4B R N):=Bf Aq N [] [(127,[([9],⟨[],[(2,.as (.ptr (.l 2) [] Bg))],[],[(.l 2,.box (.d Bg))],[],[]⟩)])] (fun _ _=>sY)
def vV {R:Type} (N:Nat) (k1:KD R) (k2:KD R):KD R->KD R:=fun k3 d1 m1=>(bif decide (bp (dk d1 3)<bp (dk d1 2))then(if 0<=bp (dk d1 3)/\bp (dk d1 3)<(↑(bn (bq (dk d1 0))):Int)then(if 0<=bp (dk d1 3)/\bp (dk d1 3)<(↑(bn (bq (dk d1 1))):Int)then(bif !qw (dr (bq (dk d1 0)) (bo (bp (dk d1 3))) gm) (dr (bq (dk d1 1)) (bo (bp (dk d1 3))) gm)then(k1 [dw false] [])else(k3 [dk d1 0,dk d1 1,dk d1 2,br (bu ca (bp (dk d1 3)+1))] []))else none)else none)else(k2 [] []))
def cJ (a0 a1:C) (k1:KD R):Option R:=bif !decide ((↑(bn (bq a0)):Int)=(↑(bn (bq a1)):Int))then(k1 [dw false] [])else(jn (fun d1 m1=>(k1 [dw true] [])) (fun k2=>(BP N (vV N k1 k2) [a0,a1,br (↑(bn (bq a0)):Int),br 0] [])))
def SM:=lid "" (@cJ R N)
theorem vW {R N a0 a1 k}:@SM R N a0 a1 k=cJ N a0 a1 k:=by unfold SM;rw[Ao]
def q51:OvG R:=BW [.slice 64 CV,.slice 64 CV] (De (SM N)) HY
theorem q52:okX 178 (@q51 R N):=Bf Aq N [] [(178,[([1,0,1,1],(Bh [])),
  ([4,1,0,1,1],(Bv [0,1,12] [(13,.d (.int .i64))])),
  ([9],(Bh [(4,.d .bool)]))])] (fun _ _=>vW)
def aR (a0 a1:C) (k1:KD R):Option R:=jn (fun d1 m1=>(k1 [dw (ez (dk d1 0))] [])) (fun k2=>(bif decide (bp (cd a0 0)=bp (cd a1 0))then(bif decide (bp (cd a0 1)=bp (cd a1 1))then(bif qw (cd a0 2) (cd a1 2)then(bif qw (cd a0 3) (cd a1 3)then(SM N (cd a0 4) (cd a1 4) (fun d1 m1=>(k2 [dw (ez (dk d1 0))] [])))else(k2 [dw false] []))else(k2 [dw false] []))else(k2 [dw false] []))else(k2 [dw false] [])))
def Rh:=lid "" (@aR R N)
theorem tA {R N a0 a1 k}:@Rh R N a0 a1 k=aR N a0 a1 k:=by unfold Rh;rw[Ao]
def q4E:OvG R:=BW [Bg,Bg] (De (Rh N)) HY
theorem q4F:okX 162 (@q4E R N):=Bf (AR (q52 N) <| Aq) N [(162,[(0,[(2,5),(3,5)])])] [(162,[([0,1],(Bh [(4,.d .bool)])),
  ([9],(Bh [(4,.d .bool)]))])] (fun _ _=>tA)
def Yj {R:Type} (N:Nat) (a0 a1:C) (k1:KD R):Option R:=if 0<=bu ca (tv (bp a1) 8)/\bu ca (tv (bp a1) 8)<32 then(if 0<=bu ca (7-ee (bp a1) 8)then(k1 [br (CU fv de (ft (bp (cd a0 (bo (bu ca (tv (bp a1) 8))))) (2^min (bo (bu ca (7-ee (bp a1) 8))) 8)) 1)] [])else none)else none
def Qd:=lid "" (@Yj R N)
theorem nK {R N a0 a1 k}:@Qd R N a0 a1 k=Yj N a0 a1 k:=by unfold Qd;rw[Ao]
def q13:OvG R:=BW [.arr 32 (.int .u8),.int .i64] (De (Qd N)) (Cf (cg de))
theorem q15:okX 205 (@q13 R N):=Bf Aq N [(205,[(0,[(2,5)])])] [(205,[([9],(Bh [(4,.d (.int .u8))]))])] (fun _ _=>nK)
def Yk (a0:C) (k1:KD R):Option R:=Jt N (br 5) (cz [cz (cut (bq a0) 0 16)]) (fun d1 m1=>(if 16<=bn (ed 16 (fm 0 (bq (dk d1 0))))then(k1 [C.agg (ed 16 (ed 16 (fm 0 (bq (dk d1 0)))))] [])else none))
def Qe:=lid "" (@Yk R N)
theorem nL {R N a0 k}:@Qe R N a0 k=Yk N a0 k:=by unfold Qe;rw[Ao]
def q16:OvG R:=BW [.arr 16 (.int .u8)] (DR (Qe N)) (Cf (dc 16 (cg de)))
theorem q17:okX 206 (@q16 R N):=Bf (AR (Qz N) <| Aq) N [(206,[(0,[(1,5)]),(2,[(8,100)])])] [(206,[([9],⟨[],[(2,.as (.ptr (.l 2) [] (.arr 16 (.int .u8))))],[],[(.l 2,.box (.d (.arr 16 (.int .u8))))],[],[]⟩)])] (fun _ _=>nL)
def UJ {R:Type} (N:Nat) (k2:KD R):KD R->KD R:=fun k3 d1 m1=>(bif decide (bp (dk d1 2)<32)then(if 0<=bp (dk d1 2)/\bp (dk d1 2)<32 then(bif di (bn (bq (dk d1 1))) (bn (bq (dk d1 1)))then(if(bn (bq (dk d1 1))+bn (ed 16 (fm (bo 0) (bq (cd (cd (dk d1 0) (bo (bp (dk d1 2)))) (bo 0))))))*1<=140737488355328/\bn (bq (dk d1 1))+bn (ed 16 (fm (bo 0) (bq (cd (cd (dk d1 0) (bo (bp (dk d1 2)))) (bo 0)))))<=9223372036854775807 then(bif di (bn (bq (dk d1 1))+bn (ed 16 (fm (bo 0) (bq (cd (cd (dk d1 0) (bo (bp (dk d1 2)))) (bo 0)))))) (bn (bq (dk d1 1)++ed 16 (fm (bo 0) (bq (cd (cd (dk d1 0) (bo (bp (dk d1 2)))) (bo 0))))))then(if(bn (bq (dk d1 1)++ed 16 (fm (bo 0) (bq (cd (cd (dk d1 0) (bo (bp (dk d1 2)))) (bo 0)))))+bn (ed 16 (fm (bo 0) (bq (cd (cd (dk d1 0) (bo (bp (dk d1 2)))) (bo 1))))))*1<=140737488355328/\bn (bq (dk d1 1)++ed 16 (fm (bo 0) (bq (cd (cd (dk d1 0) (bo (bp (dk d1 2)))) (bo 0)))))+bn (ed 16 (fm (bo 0) (bq (cd (cd (dk d1 0) (bo (bp (dk d1 2)))) (bo 1)))))<=9223372036854775807 then(bif di (bn (bq (dk d1 1)++ed 16 (fm (bo 0) (bq (cd (cd (dk d1 0) (bo (bp (dk d1 2)))) (bo 0)))))+bn (ed 16 (fm (bo 0) (bq (cd (cd (dk d1 0) (bo (bp (dk d1 2)))) (bo 1)))))) (bn (bq (dk d1 1)++ed 16 (fm (bo 0) (bq (cd (cd (dk d1 0) (bo (bp (dk d1 2)))) (bo 0))))++ed 16 (fm (bo 0) (bq (cd (cd (dk d1 0) (bo (bp (dk d1 2)))) (bo 1))))))then(k3 [dk d1 0,cz (bq (dk d1 1)++ed 16 (fm (bo 0) (bq (cd (cd (dk d1 0) (bo (bp (dk d1 2)))) (bo 0))))++ed 16 (fm (bo 0) (bq (cd (cd (dk d1 0) (bo (bp (dk d1 2)))) (bo 1))))),br (bu ca (bp (dk d1 2)+1)),dk d1 3] [])else none)else none)else none)else none)else none)else none)else(bif di (bn (bq (dk d1 1))) (bn (bq (dk d1 1)))then(k2 [cz (bq (dk d1 1)),dk d1 3] [])else none))
def Yl (a0:C) (k1:KD R):Option R:=jn (fun d1 m1=>(Jt N (br 2) (cz [cz (bq (dk d1 0))]) (fun d2 m2=>(k1 [dk d2 0] [])))) (fun k2=>(BP N (UJ N k2) [a0,cz [],br 0,AO (dc 32 (cg de))] []))
def Qf:=lid "" (@Yl R N)
theorem nM {R N a0 k}:@Qf R N a0 k=Yl N a0 k:=by unfold Qf;rw[Ao]
def q18:OvG R:=BW [.arr 32 (.arr 2 (.arr 16 (.int .u8)))] (DR (Qf N)) (Cf (dc 32 (cg de)))
theorem q19:okX 207 (@q18 R N):=Bf (AR (Qz N) <| Aq) N [(207,[(0,[(1,5)])])] [(207,[([1,0,1,1],(Bv [2] [(3,.sl 1 (.int .u8) 5003)])),
  ([4,1,0,1,1],(Bv [2,6] [(3,.sl 1 (.int .u8) 5003),(7,.d (.int .i64))])),
  ([9],⟨[],[(2,.as (.ptr (.l 2) [] (.arr 32 (.int .u8))))],[],[(.l 2,.box (.d (.arr 32 (.int .u8))))],[],[]⟩)])] (fun _ _=>nM)
def UI (k2:KD R):KD R->KD R:=fun k3 d1 m1=>(bif decide (bp (dk d1 2)<32)then(Qd N (dk d1 1) (dk d1 2) (fun d2 m2=>(if 0<=bp (dk d1 2)/\bp (dk d1 2)<32 then(Qe N (cd (cd (dk d1 0) 0) (bo (bp (dk d1 2)))) (fun d3 m3=>(if 0<=bp (dk d1 2)/\bp (dk d1 2)<32 then(if 0<=bp (dk d2 0)/\bp (dk d2 0)<2 then(if 0<=bp (dk d1 2)/\bp (dk d1 2)<32 then(if 0<=bp (dk d1 2)/\bp (dk d1 2)<32 then(if 0<=bu de (1-bp (dk d2 0))/\bu de (1-bp (dk d2 0))<2 then(k3 [dk d1 0,dk d1 1,br (bu ca (bp (dk d1 2)+1)),dk d1 3,dt (dt (dk d1 4) (bo (bp (dk d1 2))) (dt (cd (dk d1 4) (bo (bp (dk d1 2)))) (bo (bp (dk d2 0))) (dk d3 0))) (bo (bp (dk d1 2))) (dt (cd (dt (dk d1 4) (bo (bp (dk d1 2))) (dt (cd (dk d1 4) (bo (bp (dk d1 2)))) (bo (bp (dk d2 0))) (dk d3 0))) (bo (bp (dk d1 2)))) (bo (bu de (1-bp (dk d2 0)))) (cd (cd (dk d1 0) 1) (bo (bp (dk d1 2)))))] [])else none)else none)else none)else none)else none)))else none)))else(k2 [dk d1 3,dk d1 4] []))
def Yi (a0 a1:C) (k1:KD R):Option R:=jn (fun d1 m1=>(Qf N (dk d1 1) (fun d2 m2=>(k1 [dk d2 0] [])))) (fun k2=>(BP N (UI N k2) [a0,a1,br 0,AO (dc 32 (cg de)),AO (dc 32 (dc 2 (dc 16 (cg de))))] []))
def Nt:=lid "" (@Yi R N)
theorem nJ {R N a0 a1 k}:@Nt R N a0 a1 k=Yi N a0 a1 k:=by unfold Nt;rw[Ao]
def q11:OvG R:=BW [DG,.arr 32 (.int .u8)] (De (Nt N)) (Cf (dc 32 (cg de)))
theorem q12:okX 197 (@q11 R N):=Bf (AR (q15 N) <| AR (q17 N) <| AR (q19 N) <| Aq) N [(197,[(0,[(2,5),(3,5)]),(6,[(20,7)])])] [(197,[([1,0,1,1],(Bv [4,5] [])),
  ([4,1,0,1,1],(Bv [2,3,4,5] [(8,.d (.int .i64))])),
  ([9],⟨[],[(4,.as (.ptr (.l 4) [] (.arr 32 (.int .u8))))],[],[(.l 4,.box (.d (.arr 32 (.int .u8))))],[],[]⟩)])] (fun _ _=>nJ)
def bR (a0 a1:C) (k1:KD R):Option R:=Jt N (br 3) (cz [cz (cut (bq a0) 0 32),cz (cut (bq a1) 0 32)]) (fun d1 m1=>(k1 [dk d1 0] []))
def SH:=lid "" (@bR R N)
theorem uV {R N a0 a1 k}:@SH R N a0 a1 k=bR N a0 a1 k:=by unfold SH;rw[Ao]
def q5q:OvG R:=BW [.arr 32 (.int .u8),.arr 32 (.int .u8)] (De (SH N)) (Cf (dc 32 (cg de)))
theorem q5r:okX 198 (@q5q R N):=Bf (AR (Qz N) <| Aq) N [(198,[(0,[(2,5),(3,5)]),(1,[(8,7)])])] [(198,[([9],⟨[],[(4,.as (.ptr (.l 4) [] (.arr 32 (.int .u8))))],[],[(.l 4,.box (.d (.arr 32 (.int .u8))))],[],[]⟩)])] (fun _ _=>uV)
def Oi (k2:KD R):KD R->KD R:=fun k3 d3 m3=>(bif decide (bp (dk d3 4)<bp (dk d3 2))then(if 0<=bp (dk d3 4)/\bp (dk d3 4)<(↑(bn (bq (dk d3 1))):Int)then(jn (fun d4 m4=>(SH N (dk d4 5) (dk d4 6) (fun d5 m5=>(k3 [dk d4 0,dk d4 2,dk d4 3,br (ft (bp (dk d4 1)) (2^min (bo 1) 32)),br (bu ca (bp (dk d4 4)+1)),dk d5 0] [])))) (fun k4=>(bif decide (CU fv dj (bp (dk d3 3)) 1=1)then(k4 [dk d3 0,dk d3 3,dk d3 1,dk d3 2,dk d3 4,dr (bq (dk d3 1)) (bo (bp (dk d3 4))) gm,dk d3 5] [])else(k4 [dk d3 0,dk d3 3,dk d3 1,dk d3 2,dk d3 4,dk d3 5,dr (bq (dk d3 1)) (bo (bp (dk d3 4))) gm] []))))else none)else(k2 [dk d3 0,dk d3 5] []))
def Kw (a0 a1 a2 a3 a4:C) (k1:KD R):Option R:=jn (fun d1 m1=>(bif ez (dk d1 4)then(k1 [dw false] [])else(Nt N (cd (dk d1 1) 0) (dk d1 3) (fun d2 m2=>(jn (fun d3 m3=>(k1 [dw (qw (dk d3 1) (dk d3 0))] [])) (fun k2=>(BP N (Oi N k2) [dk d1 2,cd (dk d1 1) 2,br (↑(bn (bq (cd (dk d1 1) 2))):Int),dk d1 0,br 0,dk d2 0] []))))))) (fun k2=>(bif decide (bp a2<0)then(k2 [a3,a0,a1,a4,dw true] [])else(bif !decide ((↑(bn (bq (cd a0 2))):Int)=bp a2)then(k2 [a3,a0,a1,a4,dw true] [])else(bif !decide (bp (cd a0 1)=bp a3)then(k2 [a3,a0,a1,a4,dw true] [])else(bif decide (bp a2<32)then(if 0<=bp a2 then(k2 [a3,a0,a1,a4,dw !decide (ft (bp a3) (2^min (bo (bp a2)) 32)=0)] [])else none)else(k2 [a3,a0,a1,a4,dw false] []))))))
def SG:=lid "" (@Kw R N)
theorem MP {R N a0 a1 a2 a3 a4 k}:@SG R N a0 a1 a2 a3 a4 k=Kw N a0 a1 a2 a3 a4 k:=by unfold SG;rw[Ao]
def q5o:OvG R:=BW [Cn,.arr 32 (.int .u8),.int .i64,.int .u32,.arr 32 (.int .u8)] (fun a=>SG N (a 0) (a 1) (a 2) (a 3) (a 4)) HY
theorem q5p:okX 179 (@q5o R N):=Bf (AR (q12 N) <| AR (q5r N) <| Aq) N [(179,[(0,[(5,5),(6,5),(9,5)])])] [(179,[([0,0,1],(Bv [3,5,6,9] [(39,.d .bool)])),
  ([1,0,1,1,1],(Bv [6,11] [])),
  ([4,1,0,1,1,1],(Bv [6,11,46,47] [(12,.d (.int .u32)),(48,.d (.int .i64))])),
  ([1,0,1,4,0,1,1,5,4,1,0,1,1,1],(Bv [6,11,12,14,46,47,48] [])),
  ([9],(Bh [(10,.d .bool)]))])] (fun _ _=>MP)
def iO {R:Type} (N:Nat) (a0:C) (k1:KD R):Option R:=k1 [br (bu dj (if 2147483648<bp a0 then 2147483648 else bp a0))] []
def Pq:=lid "" (@iO R N)
theorem iP {R N a0 k}:@Pq R N a0 k=iO N a0 k:=by unfold Pq;rw[Ao]
def W8:OvG R:=BW [.int .u64] (DR (Pq N)) (Cf (cg dj))
theorem W9:okX 180 (@W8 R N):=Bf Aq N [] [(180,[([9],(Bh [(2,.d (.int .u32))]))])] (fun _ _=>iP)
def X8:List Sh:=[.ts 1 (.int .u8),.d Bg]
def W1:List (Key × OSh):=[]
def TR (k2:KD R):KD R->KD R:=fun k3 d4 m4=>(bif decide (bp (dk d4 3)<bp (dk d4 1))then(if 0<=bp (dk d4 3)/\bp (dk d4 3)<(↑(bn (bq (dk d4 0))):Int)then(bif di (bn (bq (dk d4 2))) (bn (bq (dk d4 2)))then(Pr N (cz (bq (dk d4 2))) (dr (bq (dk d4 0)) (bo (bp (dk d4 3))) gm) (fun d5 m5=>(bif di (bn (bq (dk d5 0))) (bn (bq (dk d5 0)))then(k3 [dk d4 0,dk d4 1,cz (bq (dk d5 0)),br (bu ca (bp (dk d4 3)+1))] [])else none)))else none)else none)else(bif di (bn (bq (dk d4 2))) (bn (bq (dk d4 2)))then(k2 [cz (bq (dk d4 2))] [])else none))
def Xc (a0 a1:C) (k1:KD R):Option R:=bif di (bn (bq a0)) (bn (bq a0))then(Kt N (cz (bq a0)) (cz [cd a1 0]) (fun d1 m1=>(bif di (bn (bq (dk d1 0))) (bn (bq (dk d1 0)))then(Jx N (cz (bq (dk d1 0))) (cz [cd a1 1,cd (cd a1 2) (bo 0),cd (cd a1 2) (bo 1),cd (cd a1 3) (bo 0),cd (cd a1 3) (bo 1)]) (fun d2 m2=>(bif di (bn (bq (dk d2 0))) (bn (bq (dk d2 0)))then(MH N (cz (bq (dk d2 0))) (cz [br (bu de (↑(bn (bq (cd a1 4))):Int))]) (fun d3 m3=>(jn (fun d4 m4=>(bif di (bn (bq (dk d4 0))) (bn (bq (dk d4 0)))then(k1 [cz (bq (dk d4 0))] [])else none)) (fun k2=>(bif di (bn (bq (dk d3 0))) (bn (bq (dk d3 0)))then(BP N (TR N k2) [cd a1 4,br (↑(bn (bq (cd a1 4))):Int),cz (bq (dk d3 0)),br 0] [])else none)))))else none)))else none)))else none
def Pn:=lid "" (@Xc R N)
theorem iK {R N a0 a1 k}:@Pn R N a0 a1 k=Xc N a0 a1 k:=by unfold Pn;rw[Ao]
def X9:OvG R:=Ca X8 W1 (fun ds ms=>Pn N (dk ds 0) (dk ds 1)) fun ds ms K d1 m1=>K (V.ts 1 (cg de) (bq (dk d1 0))) []
theorem W0:okX 200 (@X9 R N):=Cc (AR (rF N) <| AR (rC N) <| AR (rH N) <| AR (U2 N) <| Aq) N [(200,[(0,[(3,5)]),(1,[(11,1),(27,1),(33,1)]),(5,[(43,1)])])] [(200,[([1,0,1,1],(Bh [(0,.sl 1 (.int .u8) 5000)])),
  ([4,1,0,1,1],(Bv [35,36] [(0,.sl 1 (.int .u8) 5000),(37,.d (.int .i64))])),
  ([9],(Bh [(4,.sl 1 (.int .u8) 5004)]))])] (fun _ _ _=>iK) fun ds ms K=>(show _=jn (fun d1 m1=>(bif di (bn (bq (dk d1 0))) (bn (bq (dk d1 0)))then
  (K (V.ts 1 (cg de) (bq (dk d1 0))) [])
 else
  none)) _ by kernel_rfl).trans (congrArg (fun k=>jn k _) (funext fun _=>funext fun _=>by simp only[cm,cond_true]))
def Xe (a0:C) (k1:KD R):Option R:=Kt N (cz []) (cz [cd a0 0]) (fun d1 m1=>(Pn N (cz []) a0 (fun d2 m2=>(Jt N (br 4) (cz [cz (bq (dk d1 0)),cz (bq (dk d2 0))]) (fun d3 m3=>(k1 [dk d3 0] []))))))
def Pp:=lid "" (@Xe R N)
theorem iM {R N a0 k}:@Pp R N a0 k=Xe N a0 k:=by unfold Pp;rw[Ao]
def W6:OvG R:=BW [Bg] (DR (Pp N)) (Cf (dc 32 (cg de)))
theorem W7:okX 181 (@W6 R N):=Bf (AR (Qz N) <| AR (rF N) <| AR (W0 N) <| Aq) N [(181,[(0,[(1,5)]),(1,[(7,1),(9,1),(11,7)])])] [(181,[([9],⟨[],[(2,.as (.ptr (.l 2) [] (.arr 32 (.int .u8))))],[],[(.l 2,.box (.d (.arr 32 (.int .u8))))],[],[]⟩)])] (fun _ _=>iM)
def Xd (a0 a1 a2 a3:C) (k1:KD R):Option R:=jn (fun d1 m1=>(bif ez (dk d1 4)then(k1 [dw false] [])else(if 0<=bp (dk d1 0)/\bp (dk d1 0)<2 then(Pq N (cd (dk d1 2) 1) (fun d2 m2=>(Pp N (dk d1 2) (fun d3 m3=>(SG N (dk d1 3) (cd (cd (dk d1 1) 0) (bo (bp (dk d1 0)))) (cd (dk d1 1) 1) (dk d2 0) (dk d3 0) (fun d4 m4=>(k1 [dw (ez (dk d4 0))] [])))))))else none))) (fun k2=>(bif !decide (bp a1=0)then(k2 [a1,a0,a2,a3,dw !decide (bp a1=1)] [])else(k2 [a1,a0,a2,a3,dw false] [])))
def NM:=lid "" (@Xd R N)
theorem iL {R N a0 a1 a2 a3 k}:@NM R N a0 a1 a2 a3 k=Xd N a0 a1 a2 a3 k:=by unfold NM;rw[Ao]
def W2:OvG R:=BW [Ci,.int .i64,Bg,Cn] (fun a=>NM N (a 0) (a 1) (a 2) (a 3)) HY
theorem W3:okX 163 (@W2 R N):=Bf (AR (q5p N) <| AR (W9 N) <| AR (W7 N) <| Aq) N [(163,[(0,[(4,5),(6,5),(7,5)]),(3,[(24,7),(26,7),(27,7)])])] [(163,[([0,0,1],(Bv [1,4,6,7] [(14,.d .bool)])),
  ([9],(Bh [(8,.d .bool)]))])] (fun _ _=>iL)
def Po (a0 a1 a2:C) (k1:KD R):Option R:=bif !decide (bp (cd (cd a1 0) 0)=bp a2)then(k1 [dw false] [])else(bif decide (bp (cd (cd a1 0) 1)=0)then(OM N a2 (fun d1 m1=>(Rh N (cd a1 0) (dk d1 0) (fun d2 m2=>(k1 [dw (ez (dk d2 0))] [])))))else(jn (fun d1 m1=>(k1 [dw (ez (dk d1 0))] [])) (fun k2=>(NM N a0 (br 0) (cd a1 0) (cd (cd a1 1) (bo 0)) (fun d1 m1=>(bif ez (dk d1 0)then(NM N a0 (br 1) (cd a1 0) (cd (cd a1 1) (bo 1)) (fun d2 m2=>(k2 [dw (ez (dk d2 0))] [])))else(k2 [dw false] [])))))))
def Jb:=lid "" (@Po R N)
theorem TS {R N a0 a1 a2 k}:@Jb R N a0 a1 a2 k=Po N a0 a1 a2 k:=by unfold Jb;rw[Ao]
def W4:OvG R:=BW [Ci,Ch,.int .u32] (Io (Jb N)) HY
theorem W5:okX 148 (@W4 R N):=Bf (AR (sW N) <| AR (q4F N) <| AR (W3 N) <| Aq) N [(148,[(0,[(3,5),(4,5)]),(4,[(19,7),(20,7)])])] [(148,[([0,1,1,1],(Bh [(6,.d .bool)])),
  ([9],(Bh [(6,.d .bool)]))])] (fun _ _=>TS)
section
variable {R:Type} {N:Nat}
theorem yY (x:Int):CU fv de x 1=0\/CU fv de x 1=1:=by
 have h:(jc 8 x&&&jc 8 1).toNat<=1:=by rw[BitVec.toNat_and];exact Nat.and_le_right
 show IntKind.u8.wrap ((jc 8 x&&&jc 8 1).toNat:Int)=0\/IntKind.u8.wrap ((jc 8 x&&&jc 8 1).toNat:Int)=1;generalize (jc 8 x&&&jc 8 1).toNat=a at*;rw[wrap_u8];omega
theorem zO (d:C) (i:Nat) (hi:i<32):∃v:Int,(v=0\/v=1)/\∀k:KD R,Qd N d (.int i) k=k [.int v] []:=by
 have r:=JP (i:Int) 8 (by omega) (by omega);have q:tv (i:Int) 8=(i:Int) / 8:=Int.tdiv_eq_ediv_of_nonneg (by omega);have q1:IntKind.i64.wrap ((i:Int) / 8)=(i:Int) / 8:=wrap_i64 (by omega) (by omega);have q2:IntKind.i64.wrap (7-ee (i:Int) 8)=7-ee (i:Int) 8:=wrap_i64 (by omega) (by omega);have c1:0<=(i:Int) / 8/\(i:Int) / 8<32:=by omega
 have c2:0<=7-ee (i:Int) 8:=by omega
 refine⟨CU fv de (ft (bp (cd d ((i:Int) / 8).toNat)) (2^min (7-ee (i:Int) 8).toNat 8)) 1,yY _,fun k=>?_⟩;rw[nK];unfold Yj;simp only[AF,q,q1,q2,c1,c2,and_self,if_true]
theorem Y7 (c:C) (hN:2000<N) (hN2:N<4611686018427387904):∃l:List C,l.length=16/\∀k:KD R,Qe N c k=k [.agg l] []:=by obtain⟨d,⟨l,rfl,hl⟩,h1⟩:=PD (R:=R) (N:=N) (.int 5) [cz (cut (bq c) 0 16)] 100 (fun x hx=>⟨_,gh.1 hx,by simp[cut];omega⟩) (by simp;omega) (by omega) hN2;refine⟨ed 16 (ed 16 (fm 0 l)),by simp;omega,fun k=>?_⟩;rw[nL];unfold Yk;simp only[h1,AI,Ak];exact if_pos (by simp;omega)
theorem q2y (a0:C) (hN:4000<N) (hN2:N<4611686018427387904):∃c,Dig c/\∀k:KD R,Qf N a0 k=k [c] []:=by
 obtain⟨d,⟨o,ho,rfl⟩,h⟩:=Gq (R:=R) (F:=fun k2=>UJ N k2) 32 (fun i st=>∃o:List C,o.length<=32*i/\st=[a0,.slice o,.int i,AO (.arr 32 (.int .u8))]) (fun d=>∃o:List C,o.length<=1024/\d=[.slice o,AO (.arr 32 (.int .u8))])
  (fun i st hi hst=>by
   obtain⟨o,ho,rfl⟩:=hst;have e1:(i:Int)<32:=by omega
   have l1:(ed 16 (fm (bo 0) (bq (cd (cd a0 i) (bo 0))))).length<=16:=by simp;omega
   have l2:(ed 16 (fm (bo 0) (bq (cd (cd a0 i) (bo 1))))).length<=16:=by simp;omega
   generalize hx:ed 16 (fm (bo 0) (bq (cd (cd a0 i) (bo 0))))=x at*;generalize hy:ed 16 (fm (bo 0) (bq (cd (cd a0 i) (bo 1))))=y at*;have g1:(o.length+x.length)*1<=140737488355328/\o.length+x.length<=9223372036854775807:=by omega
   have g2:(o.length+x.length+y.length)*1<=140737488355328/\o.length+x.length+y.length<=9223372036854775807:=by omega
   refine⟨_,⟨o++x++y,by simp;omega,rfl⟩,fun k rec=>?_⟩;unfold UJ;simp only[AI,AL,AP,AU,AF,Ac,e1,AG,db,and_self,bx,hx,hy,g1,g2,cm,da,CZ (show i<4611686018427387904 by omega)])
  (fun st hst=>by
   obtain⟨o,ho,rfl⟩:=hst;refine⟨_,⟨o,by omega,rfl⟩,fun k rec=>?_⟩;unfold UJ;have e:¬((32:Nat):Int)<32:=by decide
   simp only[AI,AL,AP,AU,AF,Ac,e,AG,cm])
  (N:=N) (by omega) (st:=[a0,.slice [],.int (0:Nat),AO (.arr 32 (.int .u8))]) ⟨[],by simp,rfl⟩
 obtain⟨c,hc,h2⟩:=PD (R:=R) (N:=N) (.int 2) [cz o] 1100 (fun x hx=>⟨_,gh.1 hx,by omega⟩) (by simp;omega) (by omega) hN2;refine⟨c,hc,fun k=>?_⟩;rw[nM];unfold Yl;simp only[AY];refine(h _).trans ?_;simp only[AI,Ac,h2]
theorem yL (a0 a1:C) (hN:4000<N) (hN2:N<4611686018427387904):∃c,Dig c/\∀k:KD R,Nt N a0 a1 k=k [c] []:=by
 obtain⟨d,⟨x,rfl⟩,h⟩:=Gq (R:=R) (F:=fun k2=>UI N k2) 32 (fun i st=>∃x:C,st=[a0,a1,.int i,AO (.arr 32 (.int .u8)),x]) (fun d=>∃x:C,d=[AO (.arr 32 (.int .u8)),x])
  (fun i st hi hst=>by
   obtain⟨x,rfl⟩:=hst;have e1:(i:Int)<32:=by omega
   obtain⟨v,hv,h1⟩:=zO (R:=R) (N:=N) a1 i hi;obtain⟨l,hl,h2⟩:=Y7 (R:=R) (N:=N) (cd (cd a0 0) i) (by omega) hN2;have c1:0<=v/\v<2:=by omega
   have c2:0<=IntKind.u8.wrap (1-v)/\IntKind.u8.wrap (1-v)<2:=by rw[wrap_u8];omega
   refine⟨_,⟨?x1,rfl⟩,fun k rec=>?eq1⟩
   case eq1=>
    unfold UI;simp only[AI,AL,AP,AU,Aa,AF,e1,h1,h2,c1,c2,AG,db,and_self,bx,CZ (show i<4611686018427387904 by omega)];rfl)
  (fun st hst=>by
   obtain⟨x,rfl⟩:=hst;refine⟨_,⟨x,rfl⟩,fun k rec=>?_⟩;unfold UI;have e:¬((32:Nat):Int)<32:=by decide
   simp only[AI,AL,AP,AU,Aa,AF,e,AG])
  (N:=N) (by omega) (st:=[a0,a1,.int (0:Nat),AO (.arr 32 (.int .u8)),AO (.arr 32 (.arr 2 (.arr 16 (.int .u8))))]) ⟨_,rfl⟩
 obtain⟨c,hc,h2⟩:=q2y (R:=R) (N:=N) x hN hN2;refine⟨c,hc,fun k=>?_⟩;rw[nJ];unfold Yi;simp only[AY];refine(h _).trans ?_;simp only[AI,AL,h2]
theorem eH (a b:C) (hN:4000<N) (hN2:N<4611686018427387904):∃c,Dig c/\∀k:KD R,SH N a b k=k [c] []:=by
 obtain⟨c,hc,h1⟩:=PD (R:=R) (N:=N) (.int 3) [cz (cut (bq a) 0 32),cz (cut (bq b) 0 32)] 100 (fun x hx=>by
  simp only[iu,pw,or_false]at hx;rcases hx with rfl|rfl;{exact⟨_,rfl,by simp[cut];omega⟩}
  ·exact⟨_,rfl,by simp[cut];omega⟩) (by simp;omega) (by omega) hN2
 refine⟨c,hc,fun k=>?_⟩;rw[uV];unfold bR;simp only[h1,AI]
theorem q5T (a0 a1 a2 a3 a4:C) (ha:a2.toInt<=1000) (hN:4000<N) (hN2:N<4611686018427387904):∃b:Bool,∀k:KD R,SG N a0 a1 a2 a3 a4 k=k [.bool b] []:=by
 have no:∀b:Bool,b=true->∀k:KD R,(bif b then k [dw false] []else none:Option R)=k [dw false] []:=fun b hb k=>by rw[hb];rfl
 by_cases z1:a2.toInt<0;{refine⟨false,fun k=>?_⟩;rw[MP];unfold Kw;simp only[AY,z1,AG,Aa,AX]};by_cases z2:((bq (cd a0 2)).length:Int)=a2.toInt
 case neg=>
  refine⟨false,fun k=>?_⟩;rw[MP];unfold Kw;simp only[AY,z1,z2,AG,Aa,AX]
 by_cases z3:(cd a0 1).toInt=a3.toInt
 case neg=>
  refine⟨false,fun k=>?_⟩;rw[MP];unfold Kw;simp only[AY,z1,z2,z3,AG,Aa,AX]
 obtain⟨d0,_,h0⟩:=yL (R:=R) (N:=N) (cd a0 0) a4 hN hN2;generalize hL:bq (cd a0 2)=L at*
 obtain⟨d,⟨y,rfl⟩,h⟩:=Gq (R:=R) (F:=fun k2=>Oi N k2) L.length (fun i st=>∃x y:C,st=[a1,cd a0 2,.int L.length,x,.int i,y]) (fun d=>∃y:C,d=[a1,y])
  (fun i st hi hst=>by
   obtain⟨x,y,rfl⟩:=hst;have e1:(i:Int)<(L.length:Int):=by omega
   by_cases z:CU fv dj (bp x) 1=1
   ·obtain⟨c,_,h1⟩:=eH (R:=R) (N:=N) (L.getD i .nil) y hN hN2;refine⟨_,⟨?x2,?y2,rfl⟩,fun k rec=>?eq2⟩
    case eq2=>
     unfold Oi;simp only[AY,AI,AL,AP,AU,Aa,Ag,Ah,AF,hL,e1,z,h1,AG,db,and_self,bx,CZ (show i<4611686018427387904 by omega)];rfl
   ·obtain⟨c,_,h1⟩:=eH (R:=R) (N:=N) y (L.getD i .nil) hN hN2;refine⟨_,⟨?x3,?y3,rfl⟩,fun k rec=>?eq3⟩
    case eq3=>
     unfold Oi;simp only[AY,AI,AL,AP,AU,Aa,Ag,Ah,AF,hL,e1,z,h1,AG,db,and_self,bx,CZ (show i<4611686018427387904 by omega)];rfl)
  (fun st hst=>by
   obtain⟨x,y,rfl⟩:=hst;refine⟨_,⟨y,rfl⟩,fun k rec=>?_⟩;unfold Oi;simp only[AI,AL,AP,AU,Aa,Ag,AF,fw,AG])
  (N:=N) (by omega) (st:=[a1,cd a0 2,.int L.length,a3,.int (0:Nat),d0]) ⟨_,_,rfl⟩
 have main:∀k:KD R,(Nt N (cd a0 0) a4 fun d2 m2=>BP N (Oi N fun d3 m3=>k [dw (qw (dk d3 1) (dk d3 0))] []) [a1,cd a0 2,br L.length,a3,br 0,dk d2 0] [])=k [dw (qw y a1)] []:=fun k=>by rw[h0];refine(h _).trans ?_;simp only[AI,AL]
 have hc:a2.toInt<32\/¬a2.toInt<32:=by omega
 by_cases z5:a2.toInt<32;{by_cases z4:ft (bp a3) (2^min (bo (bp a2)) 32)=0;{refine⟨qw y a1,fun k=>?_⟩;rw[MP];unfold Kw;simp only[AY,hL,z1,z2,z3,z5,z4,AG,AI,AL,AP,AU,Aa,AX];refine(if_pos (by omega)).trans ?_;rw[<-z2];exact main k};{refine⟨false,fun k=>?_⟩;rw[MP];unfold Kw;simp only[AY,hL,z1,z2,z3,z5,z4,AG,AI,AL,AP,AU,Aa,AX];exact if_pos (by omega)}};{refine⟨qw y a1,fun k=>?_⟩;rw[MP];unfold Kw;simp only[AY,hL,z1,z2,z3,z5,AG,AI,AL,AP,AU,Aa,AX];rw[<-z2];exact main k}
theorem yN (s:C) (h:StW s) (hN:4000<N):∃o:List C,o.length<=800/\∀k:KD R,Pn N (.slice []) s k=k [.slice o] []:=by
 generalize hcs:bq (cd s 4)=cs;have hl:cs.length<=12:=hcs ▸ h.ln;have hw:∀c∈cs,Si c:=fun c hc=>h.cs c (hcs ▸ hc);have four:∀k:KD R,Kt N (.slice []) (.slice [s.get 0]) k=k [.slice ([]++Dj 4 [s.get 0])] []:=fun k=>sL _ _ (fun c hc=>by rw[gh.1 hc];exact h.ch) (by simp) (by simp;omega) k;generalize hv:([cd s 1,cd (cd s 2) (bo 0),cd (cd s 2) (bo 1),cd (cd s 3) (bo 0),cd (cd s 3) (bo 1)]:List C)=v;have hv0:∀c∈v,0<=c.toInt:=by subst hv;intro c hc;simp only[iu,pw,or_false]at hc;rcases hc with rfl|rfl|rfl|rfl|rfl;{exact h.rd.1};{exact h.p0.1};{exact h.p1.1};{exact h.q0.1};{exact h.q1.1}
 have hvl:v.length=5:=by subst hv;rfl
 have ln4:([]++Dj 4 [s.get 0]:List C).length=4:=by simp[RY,JI]
 generalize ([]++Dj 4 [s.get 0]:List C)=o1 at*;have eight:∀k:KD R,Jx N (.slice o1) (.slice v) k=k [.slice (o1++Dj 8 v)] []:=fun k=>VE _ _ hv0 (by omega) (by omega) k;have ln8:(o1++Dj 8 v).length=44:=by subst hv;simp[Dj,JI,ln4]
 generalize (o1++Dj 8 v)=o2 at*;have one:∀k:KD R,MH N (.slice o2) (.slice [br (bu de (cs.length:Int))]) k=k [.slice (o2++[br (bu de (cs.length:Int))])] []:=fun k=>sM _ _ (by simp;omega) k
 obtain⟨d,⟨o,ho,rfl⟩,h1⟩:=Gq (R:=R) (F:=fun k2=>TR N k2) cs.length (fun i st=>∃o:List C,o.length<=45+57*i/\st=[cd s 4,.int cs.length,.slice o,.int i]) (fun d=>∃o:List C,o.length<=800/\d=[.slice o])
  (fun i st hi hst=>by
   obtain⟨o,ho,rfl⟩:=hst;have e1:(i:Int)<(cs.length:Int):=by omega
   have hcw:=hw _ (IU hi);have hl2:=j4 hcw;refine⟨_,⟨o++PV (cs.getD i .nil),by rw[da,hl2];omega,rfl⟩,fun k rec=>?_⟩;unfold TR;simp only[AI,AL,AP,AU,AF,Ac,hcs,e1,AG,db,and_self,bx,cm,q2w o _ hcw (by omega) (show 200<N by omega),CZ (show i<4611686018427387904 by omega)])
  (fun st hst=>by
   obtain⟨o,ho,rfl⟩:=hst;refine⟨_,⟨o,by omega,rfl⟩,fun k rec=>?_⟩;unfold TR;simp only[AI,AL,AP,AU,AF,Ac,fw,AG,cm])
  (N:=N) (by omega) (st:=[cd s 4,.int cs.length,.slice (o2++[br (bu de (cs.length:Int))]),.int (0:Nat)]) ⟨_,by simp;omega,rfl⟩
 refine⟨o,ho,fun k=>?_⟩;rw[iK];unfold Xc;simp only[AY,Ac,cm,cond_true,four,AI,hv,eight,hcs,one];refine(h1 _).trans ?_;simp only[AI,Ac,cm,cond_true]
theorem yQ (s:C) (h:StW s) (hN:4000<N) (hN2:N<4611686018427387904):∃c,Dig c/\∀k:KD R,Pp N s k=k [c] []:=by
 have four:∀k:KD R,Kt N (.slice []) (.slice [s.get 0]) k=k [.slice ([]++Dj 4 [s.get 0])] []:=fun k=>sL _ _ (fun c hc=>by rw[gh.1 hc];exact h.ch) (by simp) (by simp;omega) k;obtain⟨o,ho,h1⟩:=yN (R:=R) (N:=N) s h hN
 obtain⟨c,hc,h2⟩:=PD (R:=R) (N:=N) (.int 4) [cz ([]++Dj 4 [s.get 0]),cz o] 900 (fun x hx=>by
  simp only[iu,pw,or_false]at hx;rcases hx with rfl|rfl;{exact⟨_,rfl,by simp[RY,JI]⟩}
  ·exact⟨_,rfl,by omega⟩) (by simp;omega) (by omega) hN2
 refine⟨c,hc,fun k=>?_⟩;rw[iM];unfold Xe;simp only[four,AI,Ac,h1,h2]
theorem uW (a0 a2 a3:C) (side:Int) (hs:side=0\/side=1) (h:StW a2) (hd:(a0.get 1).toInt<=1000) (hN:4000<N) (hN2:N<4611686018427387904):∃b:Bool,∀k:KD R,NM N a0 (.int side) a2 a3 k=k [.bool b] []:=by obtain⟨key,hk⟩:∃c:C,∀k:KD R,Pq N (cd a2 1) k=k [c] []:=⟨_,fun k=>by rw[iP];rfl⟩;obtain⟨c,_,h1⟩:=yQ (R:=R) (N:=N) a2 h hN hN2;obtain⟨b,h2⟩:=q5T (R:=R) (N:=N) a3 (cd (cd a0 0) side.toNat) (cd a0 1) key c hd hN hN2;refine⟨b,fun k=>?_⟩;rw[iL];unfold Xd;rcases hs with rfl|rfl;{simp only[AY,AF,AX,AG,AI,AL,AP,AU,Aa];refine(if_pos (by omega)).trans ?_;simp only[hk,h1,AI,h2,AX]};{simp only[AY,AF,AX,AG,AI,AL,AP,AU,Aa,show ¬(1:Int)=0 by decide];refine(if_pos (by omega)).trans ?_;simp only[hk,h1,AI,h2,AX]}
end
def Zg {R:Type} (N:Nat) (a0 a1:C) (k1:KD R):Option R:=bif !decide ((bp a0+bp a1) / 18446744073709551616=0)then(k1 [br 0,br 11] [])else(k1 [br ((bp a0+bp a1)%18446744073709551616),br 0] [])
def JF:=lid "" (@Zg R N)
theorem qF {R N a0 a1 k}:@JF R N a0 a1 k=Zg N a0 a1 k:=by unfold JF;rw[Ao]
def q3s:OvG R:=BW [.int .u64,.int .u64] (De (JF N)) fun a K d1 m1=>K (rj [V.d (cg bw) (dk d1 0),V.d (cg ca) (dk d1 1)]) []
theorem Ul:okX 73 (@q3s R N):=Bf Aq N [] [(73,[([9],(Bh [(4,.d (.int .u64)),(5,.d (.int .i64))]))])] (fun _ _=>qF)
def Zi {R:Type} (N:Nat) (a0 a1:C) (k1:KD R):Option R:=bif decide (bp a0<bp a1)then(k1 [br 0,br 12] [])else(k1 [br (bu bw (bp a0-bp a1)),br 0] [])
def Ju:=lid "" (@Zi R N)
theorem qH {R N a0 a1 k}:@Ju R N a0 a1 k=Zi N a0 a1 k:=by unfold Ju;rw[Ao]
def q3v:OvG R:=BW [.int .u64,.int .u64] (De (Ju N)) fun a K d1 m1=>K (rj [V.d (cg bw) (dk d1 0),V.d (cg ca) (dk d1 1)]) []
theorem RN:okX 124 (@q3v R N):=Bf Aq N [] [(124,[([9],(Bh [(4,.d (.int .u64)),(5,.d (.int .i64))]))])] (fun _ _=>qH)
def Um (k1:KD R) (k2:KD R):KD R->KD R:=fun k3 d1 m1=>(bif decide (bp (dk d1 3)<bp (dk d1 1))then(if 0<=bp (dk d1 3)/\bp (dk d1 3)<(↑(bn (bq (dk d1 0))):Int)then(JF N (dk d1 2) (dr (bq (dk d1 0)) (bo (bp (dk d1 3))) gm) (fun d2 m2=>(bif !decide (bp (dk d2 1)=0)then(k1 [br 0,dk d2 1] [])else(k3 [dk d1 0,dk d1 1,dk d2 0,br (bu ca (bp (dk d1 3)+1))] []))))else none)else(k2 [dk d1 2] []))
def Zk (a0:C) (k1:KD R):Option R:=jn (fun d1 m1=>(k1 [dk d1 0,br 0] [])) (fun k2=>(BP N (Um N k1 k2) [a0,br (↑(bn (bq a0)):Int),br 0,br 0] []))
def MG:=lid "" (@Zk R N)
theorem qI {R N a0 k}:@MG R N a0 k=Zk N a0 k:=by unfold MG;rw[Ao]
def q3w:OvG R:=BW [.slice 8 (.int .u64)] (DR (MG N)) fun a K d1 m1=>K (rj [V.d (cg bw) (dk d1 0),V.d (cg ca) (dk d1 1)]) []
theorem Zj:okX 49 (@q3w R N):=Bf (AR (Ul N) <| Aq) N [] [(49,[([1,0,1,1],(Bh [(4,.d (.int .u64))])),
  ([4,1,0,1,1],(Bv [8,9] [(4,.d (.int .u64)),(10,.d (.int .i64))])),
  ([9],(Bh [(2,.d (.int .u64)),(3,.d (.int .i64))]))])] (fun _ _=>qI)
section
variable {R:Type} {N:Nat}
def Bp (a b:Int):Int × Int:=if(a+b) / 18446744073709551616=0 then((a+b)%18446744073709551616,0)else(0,11)
def DN (a b:Int):Int × Int:=if a<b then(0,12)else(IntKind.u64.wrap (a-b),0)
theorem add_eq (a b:C) (k:KD R):JF N a b k=k [.int (Bp a.toInt b.toInt).1,.int (Bp a.toInt b.toInt).2] []:=by rw[qF];unfold Zg Bp;by_cases h:(a.toInt+b.toInt) / 18446744073709551616=0 <;> simp[h]
theorem sub_eq (a b:C) (k:KD R):Ju N a b k=k [.int (DN a.toInt b.toInt).1,.int (DN a.toInt b.toInt).2] []:=by rw[qH];unfold Zi DN;by_cases h:a.toInt<b.toInt <;> simp[h]
def LQ (_:Nat) (s:Int) (c:C):Int ⊕ Int:=if(Bp s c.toInt).2=0 then .inl (Bp s c.toInt).1 else .inr (Bp s c.toInt).2
def Mb:Int ⊕ Int->Int × Int
 | .inl s=>(s,0)| .inr e=>(0,e)
def EU (l:List C):Int × Int:=Mb (CP LQ 0 0 l)
theorem cS (c:C) (hl:c.elems.length<2199023255552) (hN:2199023255552<N) (k:KD R):MG N c k=k [.int (EU c.elems).1,.int (EU c.elems).2] []:=by
 rw[qI];unfold Zk;rw[AY];refine(JD (F:=Um N k _) (fun i (s:Int)=>[c,.int c.elems.length,.int s,.int i]) (fun _ _=>[]) c.elems LQ (fun s=>k [.int s,.int 0] []) (fun e=>k [.int 0,.int e] []) ?_ ?_ (by omega)).trans ?_
 ·intro i s x hx hi rec;have h1:(i:Int)<(c.elems.length:Int):=by omega
  unfold Um LQ;simp only[go_sem,AF,h1,add_eq,CZ (show i<4611686018427387904 by omega),db,and_self,if_true,EW hx];by_cases h:(Bp s x.toInt).2=0 <;> simp[h]
 ·intro s rec;unfold Um;simp only[go_sem,AF,fw,if_false]
 ·unfold EU FX Mb;cases CP LQ 0 0 c.elems <;> rfl
end
def VM {R:Type} (N:Nat) (a0:C) (k1:KD R):Option R:=jn (fun d1 m1=>(k1 [dw (ez (dk d1 0))] [])) (fun k2=>(bif decide (bp a0=0)then(k2 [dw true] [])else(k2 [dw (decide (bp a0=1))] [])))
def OP:=lid "" (@VM R N)
theorem aZ {R N a0 k}:@OP R N a0 k=VM N a0 k:=by unfold OP;rw[Ao]
def q4K:OvG R:=BW [.int .i64] (DR (OP N)) HY
theorem tF:okX 164 (@q4K R N):=Bf Aq N [] [(164,[([0,1],(Bh [(2,.d .bool)])),
  ([9],(Bh [(2,.d .bool)]))])] (fun _ _=>aZ)
def VI {R:Type} (N:Nat) (k2:KD R):KD R->KD R:=fun k3 d1 m1=>(bif decide (bp (dk d1 4)<bp (dk d1 2))then(if 0<=bp (dk d1 4)/\bp (dk d1 4)<(↑(bn (bq (dk d1 1))):Int)then(jn (fun d2 m2=>(bif di (bn (bq (dk d2 4))) (bn (bq (dk d2 4)))then(k3 [dk d2 0,dk d2 1,dk d2 2,cz (bq (dk d2 4)),br (bu ca (bp (dk d2 3)+1))] [])else none)) (fun k4=>(bif decide (bp (cd (dr (bq (dk d1 1)) (bo (bp (dk d1 4))) gm) 1)=bp (dk d1 0))then(bif di (bn (bq (dk d1 3))) (bn (bq (dk d1 3)))then(if(bn (bq (dk d1 3))+1)*8<=140737488355328/\bn (bq (dk d1 3))+1<=9223372036854775807 then(bif di (bn (bq (dk d1 3))+1) (bn (bq (dk d1 3)++[cd (dr (bq (dk d1 1)) (bo (bp (dk d1 4))) gm) 2]))then(k4 [dk d1 0,dk d1 1,dk d1 2,dk d1 4,cz (bq (dk d1 3)++[cd (dr (bq (dk d1 1)) (bo (bp (dk d1 4))) gm) 2])] [])else none)else none)else none)else(bif di (bn (bq (dk d1 3))) (bn (bq (dk d1 3)))then(k4 [dk d1 0,dk d1 1,dk d1 2,dk d1 4,cz (bq (dk d1 3))] [])else none))))else none)else(bif di (bn (bq (dk d1 3))) (bn (bq (dk d1 3)))then(k2 [cz (bq (dk d1 3))] [])else none))
def aP (a0 a1:C) (k1:KD R):Option R:=jn (fun d1 m1=>(MG N (cz (bq (dk d1 0))) (fun d2 m2=>(k1 [dk d2 0,dk d2 1] [])))) (fun k2=>(BP N (VI N k2) [a1,cd a0 4,br (↑(bn (bq (cd a0 4))):Int),cz [],br 0] []))
def Rg:=lid "" (@aP R N)
theorem sU {R N a0 a1 k}:@Rg R N a0 a1 k=aP N a0 a1 k:=by unfold Rg;rw[Ao]
def q4z:OvG R:=BW [Bg,.int .i64] (De (Rg N)) fun a K d1 m1=>K (rj [V.d (cg bw) (dk d1 0),V.d (cg ca) (dk d1 1)]) []
theorem q4A:okX 176 (@q4z R N):=Bf (AR (Zj N) <| Aq) N [(176,[(0,[(2,5)])])] [(176,[([1,0,1,1],(Bh [(6,.sl 8 (.int .u64) 5006)])),
  ([4,1,0,1,1],(Bv [1,10,11] [(6,.sl 8 (.int .u64) 5006),(12,.d (.int .i64))])),
  ([1,1,4,0,1,1,5,4,1,0,1,1],(Bv [1,10,11,12] [(6,.sl 8 (.int .u64) 5006)])),
  ([9],(Bh [(4,.d (.int .u64)),(5,.d (.int .i64))]))])] (fun _ _=>sU)
def aQ {R:Type} (N:Nat) (a0:C) (k1:KD R):Option R:=k1 [br (bu ca (1-bp a0))] []
def VJ:=lid "" (@aQ R N)
theorem sZ {R N a0 k}:@VJ R N a0 k=aQ N a0 k:=by unfold VJ;rw[Ao]
def q4C:OvG R:=BW [.int .i64] (DR (VJ N)) (Cf (cg ca))
theorem q4D:okX 177 (@q4C R N):=Bf Aq N [] [(177,[([9],(Bh [(2,.d (.int .i64))]))])] (fun _ _=>sZ)
def VH (k1:KD R) (k2:KD R):KD R->KD R:=fun k3 d5 m5=>(bif decide (bp (dk d5 3)<bp (dk d5 1))then(if 0<=bp (dk d5 3)/\bp (dk d5 3)<(↑(bn (bq (dk d5 0))):Int)then(Ju N (dk d5 2) (dr (bq (dk d5 0)) (bo (bp (dk d5 3))) gm) (fun d6 m6=>(bif !decide (bp (dk d6 1)=0)then(k1 [br 0,dk d6 1] [])else(k3 [dk d5 0,dk d5 1,dk d6 0,br (bu ca (bp (dk d5 3)+1))] []))))else none)else(k2 [dk d5 2] []))
def aO (a0 a1 a2:C) (k1:KD R):Option R:=OP N a2 (fun d1 m1=>(bif !ez (dk d1 0)then(k1 [br 0,br 1] [])else(Rg N a0 a2 (fun d2 m2=>(bif !decide (bp (dk d2 1)=0)then(k1 [br 0,dk d2 1] [])else(if 0<=bp a2/\bp a2<2 then(VJ N a2 (fun d3 m3=>(if 0<=bp (dk d3 0)/\bp (dk d3 0)<2 then(MG N (cz [cd a1 (bo (bp a2)),cd (cd a0 2) (bo (bp (dk d3 0)))]) (fun d4 m4=>(bif !decide (bp (dk d4 1)=0)then(k1 [br 0,dk d4 1] [])else(if 0<=bp a2/\bp a2<2 then(if 0<=bp a2/\bp a2<2 then(jn (fun d5 m5=>(k1 [dk d5 0,br 0] [])) (fun k2=>(BP N (VH N k1 k2) [cz [cd (cd a0 2) (bo (bp a2)),cd (cd a0 3) (bo (bp a2)),dk d2 0],br (↑3:Int),dk d4 0,br 0] [])))else none)else none))))else none)))else none))))))
def OL:=lid "" (@aO R N)
theorem sT {R N a0 a1 a2 k}:@OL R N a0 a1 a2 k=aO N a0 a1 a2 k:=by unfold OL;rw[Ao]
def q4y:OvG R:=BW [Bg,.arr 2 (.int .u64),.int .i64] (Io (OL N)) fun a K d1 m1=>K (rj [V.d (cg bw) (dk d1 0),V.d (cg ca) (dk d1 1)]) []
theorem sS:okX 161 (@q4y R N):=Bf (AR (Zj N) <| AR (RN N) <| AR (tF N) <| AR (q4A N) <| AR (q4D N) <| Aq) N [(161,[(0,[(3,5),(4,5)]),(6,[(30,7),(35,7)])])] [(161,[([1,0,1,1,1,1,1,1],(Bh [(10,.d (.int .u64))])),
  ([4,1,0,1,1,1,1,1,1],(Bv [50,51] [(10,.d (.int .u64)),(52,.d (.int .i64))])),
  ([9],(Bh [(6,.d (.int .u64)),(7,.d (.int .i64))]))])] (fun _ _=>sT)
def VG {R:Type} (N:Nat) (a1:C) (k2:KD R) (k3:KD R):KD R->KD R:=fun k4 d1 m1=>(bif decide (bp (dk d1 2)<bp (dk d1 1))then(if 0<=bp (dk d1 2)/\bp (dk d1 2)<(↑(bn (bq (dk d1 0))):Int)then(jn (fun d2 m2=>(bif ez (dk d2 0)then(k2 [dk d1 2] [])else(k4 [dk d1 0,dk d1 1,br (bu ca (bp (dk d1 2)+1))] []))) (fun k5=>(k5 [dw (decide (bp (cd (dr (bq (dk d1 0)) (bo (bp (dk d1 2))) gm) 0)=bp a1))] [])))else none)else(k3 [] []))
def aL (a0 a1:C) (k1:KD R):Option R:=jn (fun d1 m1=>(k1 [dk d1 0] [])) (fun k2=>(jn (fun d1 m1=>(k2 [br (-1)] [])) (fun k3=>(BP N (VG N a1 k2 k3) [cd a0 4,br (↑(bn (bq (cd a0 4))):Int),br 0] []))))
def Rf:=lid "" (@aL R N)
theorem sR {R N a0 a1 k}:@Rf R N a0 a1 k=aL N a0 a1 k:=by unfold Rf;rw[Ao]
def q4w:OvG R:=BW [Bg,.int .u64] (De (Rf N)) (Cf (cg ca))
theorem q4x:okX 165 (@q4w R N):=Bf Aq N [(165,[(0,[(2,5)])]),(183,[(0,[(2,5)])])] [(165,[([9],(Bh [(4,.d (.int .i64))]))]),(182,[([1,0,1],⟨[],[],[],[],[.g (.l 3)],[]⟩),([4,1,0,1],⟨[0,1,7],[(8,.d (.int .i64))],[],[],[.g (.l 3)],[]⟩),([9],⟨[],[(4,.d (.int .i64))],[],[],[.g (.l 3)],[]⟩)]),(183,[([9],(Bh [(3,.d .bool)]))])] (fun _ _=>sR)
def Ri (k1:KD R) (k2:KD R):KD R->KD R:=fun k3 d3 m3=>(bif decide (bp (dk d3 3)<2)then(if 0<=bp (dk d3 3)/\bp (dk d3 3)<2 then(OL N (dk d3 0) (dk d3 1) (cd (dk d3 2) (bo (bp (dk d3 3)))) (fun d4 m4=>(bif !decide (bp (dk d4 1)=0)then(k1 [dk d4 1] [])else(k3 [dk d3 0,dk d3 1,dk d3 2,br (bu ca (bp (dk d3 3)+1))] []))))else none)else(k2 [] []))
def VK (k1:KD R) (k2:KD R):KD R->KD R:=fun k3 d2 m2=>(bif decide (bp (dk d2 4)<bp (dk d2 3))then(if 0<=bp (dk d2 4)/\bp (dk d2 4)<(↑(bn (bq (dk d2 2))):Int)then(jn (fun d3 m3=>(bif ez (dk d3 6)then(k1 [br 1] [])else(Rf N (dk d3 0) (cd (dk d3 7) 0) (fun d4 m4=>(bif !decide (bp (dk d4 0)=bp (dk d3 2))then(k1 [br 7] [])else(k3 [dk d3 0,dk d3 1,dk d3 3,dk d3 4,br (bu ca (bp (dk d3 5)+1))] [])))))) (fun k4=>(OP N (cd (dr (bq (dk d2 2)) (bo (bp (dk d2 4))) gm) 1) (fun d3 m3=>(bif !ez (dk d3 0)then(k4 [dk d2 0,dk d2 1,dk d2 4,dk d2 2,dk d2 3,dk d2 4,dw true,dr (bq (dk d2 2)) (bo (bp (dk d2 4))) gm] [])else(k4 [dk d2 0,dk d2 1,dk d2 4,dk d2 2,dk d2 3,dk d2 4,dw (decide (bp (cd (dr (bq (dk d2 2)) (bo (bp (dk d2 4))) gm) 2)=0)),dr (bq (dk d2 2)) (bo (bp (dk d2 4))) gm] []))))))else none)else(k2 [dk d2 0,dk d2 1] []))
def aU (a0 a1:C) (k1:KD R):Option R:=jn (fun d1 m1=>(bif ez (dk d1 2)then(k1 [br 8] [])else(jn (fun d2 m2=>(jn (fun d3 m3=>(k1 [br 0] [])) (fun k2=>(BP N (Ri N k1 k2) [dk d2 0,dk d2 1,dt (dt (AO (dc 2 (cg ca))) 0 (br 0)) 1 (br 1),br 0] [])))) (fun k2=>(BP N (VK N k1 k2) [dk d1 0,dk d1 1,cd (dk d1 0) 4,br (↑(bn (bq (cd (dk d1 0) 4))):Int),br 0] []))))) (fun k2=>(bif decide (200<bp (cd a0 1))then(k2 [a0,a1,dw true] [])else(k2 [a0,a1,dw (decide (8<(↑(bn (bq (cd a0 4))):Int)))] [])))
def OO:=lid "" (@aU R N)
theorem tC {R N a0 a1 k}:@OO R N a0 a1 k=aU N a0 a1 k:=by unfold OO;rw[Ao]
def q4G:OvG R:=BW [Bg,.arr 2 (.int .u64)] (De (OO N)) (Cf (cg ca))
theorem tB:okX 149 (@q4G R N):=Bf (AR (sS N) <| AR (tF N) <| AR (q4x N) <| Aq) N [(149,[(0,[(2,5),(3,5)])])] [(149,[([0,0,1],(Bv [2,3] [(19,.d .bool)])),
  ([1,0,1,1],(Bv [2,3] [])),
  ([4,1,0,1,1],(Bv [2,3,21,22] [(23,.d (.int .i64))])),
  ([0,4,1,4,0,1,1,5,4,1,0,1,1],(Bv [2,3,5,6,21,22,23] [(28,.d .bool)])),
  ([1,0,1,1,1],(Bh [])),
  ([4,1,0,1,1,1],(Bv [2,3,46] [(47,.d (.int .i64))])),
  ([9],(Bh [(4,.d (.int .i64))]))])] (fun _ _=>tC)
def Rj {R:Type} (N:Nat) (k4:KD R):KD R->KD R:=fun k5 d5 m5=>(bif decide (bp (dk d5 9)<bp (dk d5 7))then(if 0<=bp (dk d5 9)/\bp (dk d5 9)<(↑(bn (bq (dk d5 6))):Int)then(if 0<=bp (dk d5 9)/\bp (dk d5 9)<(↑(bn (bq (dk d5 0))):Int)then(jn (fun d6 m6=>(bif di (bn (bq (dk d6 9))) (bn (bq (dk d6 9)))then(k5 [dk d6 0,dk d6 1,dk d6 2,dk d6 3,dk d6 4,dk d6 5,dk d6 6,dk d6 7,cz (bq (dk d6 9)),br (bu ca (bp (dk d6 8)+1)),dk d6 10,dk d6 11] [])else none)) (fun k6=>(bif !decide (bp (cd (dr (bq (dk d5 6)) (bo (bp (dk d5 9))) gm) 1)=bp (dk d5 4))==ez (dr (bq (dk d5 0)) (bo (bp (dk d5 9))) gm)then(bif di (bn (bq (dk d5 8))) (bn (bq (dk d5 8)))then(if(bn (bq (dk d5 8))+1)*8<=140737488355328/\bn (bq (dk d5 8))+1<=9223372036854775807 then(bif di (bn (bq (dk d5 8))+1) (bn (bq (dk d5 8)++[cd (dr (bq (dk d5 6)) (bo (bp (dk d5 9))) gm) 2]))then(k6 [dk d5 0,dk d5 1,dk d5 2,dk d5 3,dk d5 4,dk d5 5,dk d5 6,dk d5 7,dk d5 9,cz (bq (dk d5 8)++[cd (dr (bq (dk d5 6)) (bo (bp (dk d5 9))) gm) 2]),dk d5 10,dk d5 11] [])else none)else none)else none)else(bif di (bn (bq (dk d5 8))) (bn (bq (dk d5 8)))then(k6 [dk d5 0,dk d5 1,dk d5 2,dk d5 3,dk d5 4,dk d5 5,dk d5 6,dk d5 7,dk d5 9,cz (bq (dk d5 8)),dk d5 10,dk d5 11] [])else none))))else none)else none)else(bif di (bn (bq (dk d5 8))) (bn (bq (dk d5 8)))then(k4 [dk d5 0,dk d5 1,dk d5 2,dk d5 3,dk d5 4,dk d5 5,cz (bq (dk d5 8)),dk d5 10,dk d5 11] [])else none))
def VL (k1:KD R) (k2:KD R):KD R->KD R:=fun k3 d2 m2=>(bif decide (bp (dk d2 4)<2)then(OL N (dk d2 1) (dk d2 2) (dk d2 4) (fun d3 m3=>(if 0<=bp (dk d2 4)/\bp (dk d2 4)<2 then(if 0<=bp (dk d2 4)/\bp (dk d2 4)<2 then(Ju N (cd (cd (dk d2 1) 3) (bo (bp (dk d2 4)))) (cd (dk d2 3) (bo (bp (dk d2 4)))) (fun d4 m4=>(bif !decide (bp (dk d4 1)=0)then(k1 [dk d4 1,AO (dc 2 (cg bw))] [])else(jn (fun d5 m5=>(MG N (cz (bq (dk d5 6))) (fun d6 m6=>(if 0<=bp (dk d5 4)/\bp (dk d5 4)<2 then(bif !decide (bp (dk d6 1)=0)then(k1 [dk d6 1,AO (dc 2 (cg bw))] [])else(k3 [dk d5 0,dk d5 1,dk d5 2,dk d5 3,br (bu ca (bp (dk d5 5)+1)),dk d5 7,dt (dk d5 8) (bo (bp (dk d5 4))) (dk d6 0)] []))else none)))) (fun k4=>(BP N (Rj N k4) [dk d2 0,dk d2 1,dk d2 2,dk d2 3,dk d2 4,dk d2 4,cd (dk d2 1) 4,br (↑(bn (bq (cd (dk d2 1) 4))):Int),cz [dk d3 0,dk d4 0],br 0,dk d2 5,dk d2 6] []))))))else none)else none)))else(k2 [dk d2 5,dk d2 6] []))
def aV (a0 a1 a2 a3:C) (k1:KD R):Option R:=OO N a0 a1 (fun d1 m1=>(bif !decide (bp (dk d1 0)=0)then(k1 [dk d1 0,AO (dc 2 (cg bw))] [])else(bif !decide ((↑(bn (bq a3)):Int)=(↑(bn (bq (cd a0 4))):Int))then(k1 [br 1,AO (dc 2 (cg bw))] [])else(jn (fun d2 m2=>(k1 [br 0,dk d2 1] [])) (fun k2=>(BP N (VL N k1 k2) [a3,a0,a1,a2,br 0,AO (dc 2 (cg bw)),AO (dc 2 (cg bw))] []))))))
def Rk:=lid "" (@aV R N)
theorem tD {R N a0 a1 a2 a3 k}:@Rk R N a0 a1 a2 a3 k=aV N a0 a1 a2 a3 k:=by unfold Rk;rw[Ao]
def q4H:OvG R:=BW [Bg,.arr 2 (.int .u64),.arr 2 (.int .u64),.slice 1 .bool] (fun a=>Rk N (a 0) (a 1) (a 2) (a 3)) fun a K d1 m1=>K (rj [V.d (dc 2 (cg bw)) (dk d1 1),V.d (cg ca) (dk d1 0)]) []
theorem q4I:okX 147 (@q4H R N):=Bf (AR (Zj N) <| AR (RN N) <| AR (tB N) <| AR (sS N) <| Aq) N [(147,[(0,[(4,5),(5,5),(6,5)]),(14,[(61,4)]),(11,[(52,7)]),(18,[(19,6)])])] [(147,[([1,0,1,1,1,1],(Bv [8,11] [])),
  ([4,1,0,1,1,1,1],(Bv [3,4,5,6,8,11] [(34,.d (.int .i64))])),
  ([1,0,1,1,1,1,1,4,0,1,1,5,4,1,0,1,1,1,1],(Bv [3,4,5,6,8,11,12,34] [(17,.sl 8 (.int .u64) 5017)])),
  ([4,1,0,1,1,1,1,1,4,0,1,1,5,4,1,0,1,1,1,1],(Bv [3,4,5,6,8,11,12,34,63,64] [(17,.sl 8 (.int .u64) 5017),(65,.d (.int .i64))])),
  ([1,1,4,0,1,1,5,4,1,0,1,1,1,1,1,4,0,1,1,5,4,1,0,1,1,1,1],(Bv [3,4,5,6,8,11,12,34,63,64,65] [(17,.sl 8 (.int .u64) 5017)])),
  ([9],⟨[],[(8,.as (.ptr (.l 8) [] (.arr 2 (.int .u64)))),(9,.d (.int .i64))],[],[(.l 8,.box (.d (.arr 2 (.int .u64))))],[],[]⟩)])] (fun _ _=>tD)
section
variable {R:Type} {N:Nat}
theorem q1K (a:C) (k:KD R):OP N a k=k [.bool (decide (a.toInt=0\/a.toInt=1))] []:=by rw[aZ];unfold VM;by_cases h:a.toInt=0 <;> simp[h,go_sem,AX]
def BO (s:C):List C:=(s.get 4).elems
def Jl (side:Int) (l:List C):List C:=(l.filter fun c=>decide ((c.get 1).toInt=side)).map fun c=>c.get 2
def Jm (s:C) (side:Int):Int × Int:=EU (Jl side (BO s))
theorem q1o {side:Int} {l:List C} {i:Nat} {c:C} (h:l[i]? =some c):Jl side (l.take (i+1))=Jl side (l.take i)++(if(c.get 1).toInt=side then[c.get 2]else[]):=by unfold Jl;rw[qm,h,Option.toList_some,List.filter_append,List.map_append];by_cases hs:(c.get 1).toInt=side <;> simp[hs]
theorem mI {side:Int} {l:List C} {i:Nat}:(Jl side (l.take i)).length<=i:=by unfold Jl;rw[List.length_map];exact Nat.le_trans (List.length_filter_le _ _) (by rw[List.length_take];omega)
theorem q1n (s side:C) (hl:(BO s).length<1099511627776) (hN:2199023255552<N) (k:KD R):Rg N s side k=k [.int (Jm s side.toInt).1,.int (Jm s side.toInt).2] []:=by
 rw[sU];unfold aP;rw[AY];refine Km (F:=VI N _) (fun i=>[side,s.get 4,.int (BO s).length,.slice (Jl side.toInt ((BO s).take i)),.int i]) (fun _=>[]) (BO s).length _ ?_ ?_ (by omega)
 ·intro i hi rec;have hc:(BO s)[i]? =some (BO s)[i]:=cr hi;have h1:(i:Int)<((BO s).length:Int):=by omega
  have h2:=mI (side:=side.toInt) (l:=BO s) (i:=i);have h3:((Jl side.toInt ((BO s).take i)).length+1)*8<=140737488355328/\(Jl side.toInt ((BO s).take i)).length+1<=9223372036854775807:=by omega
  have hd:(s.get 4).elems.getD i .nil=(BO s)[i]:=EW hc;have hs:(s.get 4).elems.length=(BO s).length:=rfl;unfold VI;simp only[go_sem,AF,Ac,hs,h1,hd,CZ (show i<4611686018427387904 by omega),db,and_self,AG,h3,cm,q1o hc];by_cases h:((BO s)[i].get 1).toInt=side.toInt;{simp[h]};{simp[h]}
 ·intro rec;unfold VI;simp only[go_sem,AF,Ac,fw,AG,cm,ej];have h2:=mI (side:=side.toInt) (l:=BO s) (i:=(BO s).length);rw[ej]at h2;rw[cS _ (by rw[Ac];omega) hN];rfl
def Vs (_:Nat) (s:Int) (c:C):Int ⊕ Int:=if(DN s c.toInt).2=0 then .inl (DN s c.toInt).1 else .inr (DN s c.toInt).2
def Hc (s put:C) (side:Int):Int × Int:=
 if side≠0/\side≠1 then(0,1)else if(Jm s side).2≠0 then(0,(Jm s side).2)else
  if(EU [put.get side.toNat,(s.get 2).get (1-side).toNat]).2≠0 then(0,(EU [put.get side.toNat,(s.get 2).get (1-side).toNat]).2)else
   Mb (CP Vs 0 (EU [put.get side.toNat,(s.get 2).get (1-side).toNat]).1 [(s.get 2).get side.toNat,(s.get 3).get side.toNat,.int (Jm s side).1])
theorem lN (s put side:C) (hl:(BO s).length<1099511627776) (hN:2199023255552<N) (k:KD R):OL N s put side k=k [.int (Hc s put side.toInt).1,.int (Hc s put side.toInt).2] []:=by
 rw[sT];unfold aO Hc;rw[aZ];unfold VM;by_cases hs:side.toInt≠0/\side.toInt≠1;{simp[hs.1,hs.2,go_sem,AF,AX]}
 ·have hs':side.toInt=0\/side.toInt=1:=by omega
  have h2:0<=side.toInt/\side.toInt<2:=by omega
  have h3:0<=(1-side.toInt)/\(1-side.toInt)<2:=by omega
  have w:IntKind.i64.wrap (1-side.toInt)=1-side.toInt:=IntWalk.i64_in _ (by omega);have hb:(bif decide (side.toInt=0)then true else decide (side.toInt=1))=true:=by rcases hs' with h|h <;> simp[h]
  have e:∀K:KD R,(bif decide (side.toInt=0)then K [.bool true] []else K [.bool (decide (side.toInt=1))] [])=K [.bool true] []:=fun K=>by rcases hs' with h|h <;> simp[h]
  rw[if_neg hs];simp only[go_sem,AF,AX,e,q1n s side hl hN,AG,h2,and_self,sZ,aQ,w,h3];by_cases h4:(Jm s side.toInt).2=0
  ·simp only[h4,AG,ne_eq,not_true];rw[cS _ (by simp[bq]) hN];simp only[go_sem,AF,Ac];by_cases h5:(EU [put.get side.toInt.toNat,(s.get 2).get (1-side.toInt).toNat]).2=0
   ·simp only[h5,AG,ne_eq,not_true]
    refine(JD (F:=VH N k _) (fun i (x:Int)=>[.slice [(s.get 2).get side.toInt.toNat,(s.get 3).get side.toInt.toNat,.int (Jm s side.toInt).1],.int 3,.int x,.int i]) (fun _ _=>[])
     [(s.get 2).get side.toInt.toNat,(s.get 3).get side.toInt.toNat,.int (Jm s side.toInt).1] Vs (fun s=>k [.int s,.int 0] []) (fun e=>k [.int 0,.int e] []) ?_ ?_ (by simp;omega)).trans ?_
    ·intro i x c hx hi rec;have hi3:i<3:=hi;have h1:(i:Int)<3:=by omega
     have hlen:(i:Int)<((0+1+1+1:Nat):Int):=by omega
     unfold VH Vs;simp only[go_sem,AF,Ac,h1,sub_eq,CZ (show i<4611686018427387904 by omega),db,and_self,if_true,EW hx,dp,dx,hlen];by_cases h:(DN x c.toInt).2=0 <;> simp[h]
    ·intro x rec;unfold VH;simp only[go_sem,AF,Ac];simp
    ·unfold FX Mb;cases CP Vs 0 (EU [put.get side.toInt.toNat,(s.get 2).get (1-side.toInt).toNat]).1 [(s.get 2).get side.toInt.toNat,(s.get 3).get side.toInt.toNat,.int (Jm s side.toInt).1] <;> rfl
   ·simp[h5]
  ·simp[h4]
def zz2:C:=.agg [.int 0,.int 1]
def findF (id:Int) (i:Nat) (_:Unit) (c:C):Unit ⊕ Nat:=if(c.get 0).toInt=id then .inr i else .inl ()
def tN:Unit ⊕ Nat->Int
 | .inl _=>-1| .inr i=>i
def QK (s:C) (id:Int):Int:=tN (CP (findF id) 0 () (BO s))
theorem find_eq (s id:C) (hl:(BO s).length<1099511627776) (hN:2199023255552<N) (k:KD R):Rf N s id k=k [.int (QK s id.toInt)] []:=by
 rw[sR];unfold aL;rw[AY,AY];refine(JD (F:=VG N id _ _) (fun i (_:Unit)=>[s.get 4,.int (BO s).length,.int i]) (fun _ _=>[]) (BO s) (findF id.toInt) (fun _=>k [.int (-1)] []) (fun i=>k [.int i] []) (s0:=()) ?_ ?_ (by omega)).trans ?_
 ·intro i _ c hx hi rec;have h1:(i:Int)<((BO s).length:Int):=by omega
  have hd:(s.get 4).elems.getD i .nil=c:=EW hx;have hs:(s.get 4).elems.length=(BO s).length:=rfl;unfold VG findF;simp only[go_sem,AF,AX,hs,h1,hd,CZ (show i<4611686018427387904 by omega),db,and_self,if_true];by_cases h:(c.get 0).toInt=id.toInt <;> simp[h]
 ·intro _ rec;unfold VG;simp only[go_sem,AF,fw,if_false]
 ·unfold QK FX tN;cases CP (findF id.toInt) 0 () (BO s) <;> rfl
def Vo (s:C) (i:Nat) (_:Unit) (c:C):Unit ⊕ Int:=
 if((c.get 1).toInt≠0/\(c.get 1).toInt≠1)\/(c.get 2).toInt=0 then .inr 1 else if QK s (c.get 0).toInt=i then .inl ()else .inr 7
def Nk (s put:C) (_:Nat) (_:Unit) (side:Int):Unit ⊕ Int:=if(Hc s put side).2=0 then .inl ()else .inr (Hc s put side).2
def okE:Unit ⊕ Int->Int
 | .inl _=>0| .inr e=>e
def JM (s put:C):Int:=
 if 200<(s.get 1).toInt\/8<(BO s).length then 8 else match CP (Vo s) 0 () (BO s)with| .inl _=>okE (CP (Nk s put) 0 () [0,1])| .inr e=>e
theorem wD (s put:C) (hN:2199023255552<N) (k:KD R):OO N s put k=k [.int (JM s put)] []:=by
 rw[tC];have hz:dt (dt (AO (dc 2 (cg ca))) 0 (br 0)) 1 (br 1)=zz2:=rfl;unfold aU JM;rw[hz];by_cases h1:200<(s.get 1).toInt;{simp[h1,go_sem,AF,AX]};have h8e:((8:Int)<(((s.get 4).elems.length:Nat):Int))=(8<(BO s).length):=by show((8:Int)<(((BO s).length:Nat):Int))=_;exact propext ⟨fun h=>by omega,fun h=>by omega⟩
 by_cases h2:8<(BO s).length;{simp only[h1,h2,go_sem,AF,AX,h8e,or_true,if_true]};have hl:(BO s).length<1099511627776:=by omega
 have key:∀k':KD R,BP N (Ri N k k') [s,put,zz2,.int 0] []=FX (fun _=>k' [] []) (fun e=>k [.int e] []) (CP (Nk s put) 0 () [0,1]):=by
  intro k';refine JD (F:=Ri N k k') (fun i (_:Unit)=>[s,put,zz2,.int i]) (fun _ _=>[]) [0,1] (Nk s put) (fun _=>k' [] []) (fun e=>k [.int e] []) (s0:=()) ?_ ?_ (by simp;omega)
  ·intro i _ c hx hi rec;have hi2:i<2:=hi;have h1:(i:Int)<2:=by omega
   have hc:zz2.get i= .int c:=by
    have:i=0\/i=1:=by omega
    rcases this with rfl|rfl <;> simp at hx <;> subst hx <;> rfl
   unfold Ri Nk;simp only[go_sem,AF,h1,hc,lN s put _ hl hN,CZ (show i<4611686018427387904 by omega),db,and_self,if_true];by_cases h:(Hc s put c).2=0 <;> simp[h]
  ·intro _ rec;unfold Ri;simp[go_sem,AF]
 have hor:¬(200<(s.get 1).toInt\/8<(BO s).length):=by omega
 rw[if_neg hor];simp only[h1,h2,go_sem,AF,AX,h8e,AG];refine(JD (F:=VK N k _) (fun i (_:Unit)=>[s,put,s.get 4,.int (BO s).length,.int i]) (fun _ _=>[]) (BO s) (Vo s) (fun _=>k [.int (okE (CP (Nk s put) 0 () [0,1]))] []) (fun e=>k [.int e] []) (s0:=()) ?_ ?_ (by omega)).trans ?_
 ·intro i _ c hx hi rec;have h1:(i:Int)<((BO s).length:Int):=by omega
  have hd:(s.get 4).elems.getD i .nil=c:=EW hx;have hs:(s.get 4).elems.length=(BO s).length:=rfl;unfold VK Vo;simp only[go_sem,AF,AX,hs,h1,hd,CZ (show i<4611686018427387904 by omega),db,and_self,if_true,find_eq s _ hl hN,q1K];by_cases h3:(c.get 1).toInt=0;{by_cases h4:(c.get 2).toInt=0;{simp[h3,h4]};{by_cases h5:QK s (c.get 0).toInt=i <;> simp[h3,h4,h5]}};{by_cases h3':(c.get 1).toInt=1;{by_cases h4:(c.get 2).toInt=0;{simp[h3',h4]};{by_cases h5:QK s (c.get 0).toInt=i <;> simp[h3',h4,h5]}};{simp[h3,h3']}}
 ·intro _ rec;unfold VK;simp only[go_sem,AF,fw,AG,key];unfold FX okE;cases CP (Nk s put) 0 () [0,1] <;> rfl
 ·unfold FX;cases CP (Vo s) 0 () (BO s) <;> rfl
theorem q6a {s put:C} (h:JM s put=0):(BO s).length<=8/\(s.get 1).toInt<=200:=by unfold JM at h;split at h;{cases h};{omega}
def MS (done:List C) (side:Int) (j:Nat) (acc:List C) (c:C):List C ⊕ Unit:=.inl (if(!(decide ((c.get 1).toInt=side)==(done.getD j .nil).toBool))=true then acc++[c.get 2]else acc)
def ZA:List C ⊕ Unit->List C
 | .inl l=>l| .inr _=>[]
def MT (done:List C) (side:Int) (acc l:List C):List C:=ZA (CP (MS done side) 0 acc l)
theorem uY {α σ:Type} {f:Nat->σ->α->σ ⊕ Unit} (g:Nat->σ->α->σ) (h:∀i s c,f i s c= .inl (g i s c)):∀(l:List α) (i:Nat) (s:σ),∃s',CP f i s l= .inl s'
 | [],_,s=>⟨s,rfl⟩|c::l,i,s=>by simp only[CP,h];exact uY g h l _ _
theorem q6b {done:List C} {s:C} (hd:done.length=(BO s).length) (hl:(BO s).length<=8) (hN:2199023255552<N) (sd:C) (hsd:sd= .slice done) (put wj a b out:C) (side:Nat) (acc:List C) (z4I:acc.length<=2) (k4:KD R):
  BP N (Rj N k4) [sd,s,put,wj,.int side,.int side,s.get 4,.int (BO s).length,.slice acc,.int 0,b,out] []=k4 [sd,s,put,wj,.int side,.int side,.slice (MT done side acc (BO s)),b,out] []:=by
 subst hsd
 refine(ZQ (F:=Rj N k4) (fun j (x:List C)=>[.slice done,s,put,wj,.int side,.int side,s.get 4,.int (BO s).length,.slice x,.int j,b,out]) (fun _ _=>[]) (BO s) (MS done side)
  (fun x=>k4 [.slice done,s,put,wj,.int side,.int side,.slice x,b,out] []) (fun _=>none) (fun j x=>x.length<=j+2) z4I ?_ ?_ (by omega)).trans ?_
 ·intro j x c hx hP;have hj:j<(BO s).length:=(List.getElem?_eq_some_iff.1 hx).1;refine⟨fun rec=>?_,fun x' hx'=>?_⟩
  ·have h1:(j:Int)<((BO s).length:Int):=by omega
   have h1d:(j:Int)<(done.length:Int):=by omega
   have hg:(s.get 4).elems.getD j .nil=c:=EW hx;have hs:(s.get 4).elems.length=(BO s).length:=rfl;have h3:(x.length+1)*8<=140737488355328/\x.length+1<=9223372036854775807:=by omega
   unfold Rj MS;simp only[go_sem,AF,AX,Ac,hs,h1,h1d,hg,CZ (show j<4611686018427387904 by omega),db,and_self,AG,cm,h3,da,dp,dx];cases h:(!(decide ((c.get 1).toInt=(side:Int))==(done.getD j .nil).toBool)) <;> simp only[AG,Bool.false_eq_true]
  ·unfold MS at hx';simp only[Sum.inl.injEq]at hx';subst hx';split;{simp;omega};{omega}
 ·intro x hP rec;unfold Rj;simp only[go_sem,AF,Ac,fw,AG,cm]
 ·obtain⟨x,hx⟩:=uY (f:=MS done side) _ (fun _ _ _=>rfl) (BO s) 0 acc;unfold MT;rw[hx];rfl
def Vl (done:List C) (s put wj:C) (_:Nat) (out:C) (side:Nat):C ⊕ Int:=
 if(DN ((s.get 3).get side).toInt (wj.get side).toInt).2≠0 then .inr (DN ((s.get 3).get side).toInt (wj.get side).toInt).2 else
  if(EU (MT done side [.int (Hc s put side).1,.int (DN ((s.get 3).get side).toInt (wj.get side).toInt).1] (BO s))).2≠0 then .inr (EU (MT done side [.int (Hc s put side).1,.int (DN ((s.get 3).get side).toInt (wj.get side).toInt).1] (BO s))).2
  else .inl (out.set side (.int (EU (MT done side [.int (Hc s put side).1,.int (DN ((s.get 3).get side).toInt (wj.get side).toInt).1] (BO s))).1))
def zz:C:=.agg [.int 0,.int 0]
def vQ:C ⊕ Int->Int × C
 | .inl out=>(0,out)| .inr e=>(e,zz)
def Gy (s put wj:C) (done:List C):Int × C:=
 if JM s put≠0 then(JM s put,zz)else if done.length≠(BO s).length then(1,zz)else vQ (CP (Vl done s put wj) 0 zz [0,1])
theorem wF {done:List C} {side:Int}:∀(l:List C) (i:Nat) (acc:List C),(ZA (CP (MS done side) i acc l)).length<=acc.length+l.length
 | [],_,acc=>by simp[CP,ZA]
 |c::l,i,acc=>by simp only[CP,MS];refine Nat.le_trans (wF l _ _) ?_;split <;> simp <;> omega
theorem q6c (s put wj:C) (done:C) (hd:done= .slice done.elems) (hN:2199023255552<N) (k:KD R):Rk N s put wj done k=k [.int (Gy s put wj done.elems).1,(Gy s put wj done.elems).2] []:=by
 rw[tD];have hz:AO (dc 2 (cg bw))=zz:=rfl;unfold aV Gy;rw[hz,wD s put hN];by_cases h1:JM s put=0
 case neg=>simp[h1,go_sem,AF]
 by_cases h2:done.elems.length=(BO s).length
 case neg=>
  have h2':¬((done.elems.length:Int)=((s.get 4).elems.length:Int)):=fun h=>h2 (by show _=(s.get 4).elems.length;omega);simp only[h1,h2,h2',go_sem,AF,AG,ne_eq,not_true,not_false_iff]
 have hs:(s.get 4).elems.length=(BO s).length:=rfl;simp only[h1,h2,hs,go_sem,AF,AG,ne_eq,not_true];obtain⟨hl,_⟩:=q6a h1;refine(JD (F:=VL N k _) (fun i (out:C)=>[done,s,put,wj,.int i,zz,out]) (fun _ _=>[]) ([0,1]:List Nat) (Vl done.elems s put wj) (fun out=>k [.int 0,out] []) (fun e=>k [.int e,zz] []) ?_ ?_ (show 2<N by omega)).trans ?_
 ·intro i out c hx hi rec;have hi2:i<2:=hi;have h1:(i:Int)<2:=by omega
  have hc:c=i:=by
   have:i=0\/i=1:=by omega
   rcases this with rfl|rfl <;> simp at hx <;> exact hx.symm
  subst hc;unfold VL Vl;simp only[go_sem,AF,h1,lN s put _ (by omega) hN,CZ (show c<4611686018427387904 by omega),db,and_self,if_true,sub_eq];by_cases h3:(DN ((s.get 3).get c).toInt (wj.get c).toInt).2=0
  case neg=>simp[h3,hz]
  have:=fun(b out:C) (k4:KD R)=>q6b (N:=N) (s:=s) h2 hl hN done hd put wj zz b out c [.int (Hc s put c).1,.int (DN ((s.get 3).get c).toInt (wj.get c).toInt).1] (by simp) k4;simp only[h3,AG,ne_eq,not_true];rw[hs,this];have hlen:=wF (done:=done.elems) (side:=(c:Int)) (BO s) 0 [.int (Hc s put c).1,.int (DN ((s.get 3).get c).toInt (wj.get c).toInt).1];rw[cS _ (by simp only[go_sem,Ac];unfold MT;simp at hlen;omega) hN];simp only[go_sem,AF,Ac,h1,db,and_self,if_true,CZ (show c<4611686018427387904 by omega)];by_cases h4:(EU (MT done.elems c [.int (Hc s put c).1,.int (DN ((s.get 3).get c).toInt (wj.get c).toInt).1] (BO s))).2=0 <;> simp[h4,hz]
 ·intro out rec;unfold VL;simp[go_sem,AF]
 ·unfold FX vQ;cases CP (Vl done.elems s put wj) 0 zz [0,1] <;> rfl
end
def r7:List Sh:=[.as (.ptr (.g (.l 1)) [] DD),.d (.int .i64)]
def p8:List (Key × OSh):=[(.l 1,.box (.agg DD [.vec (.g (.l 2)) 8 (.int .u64),.d (.int .i64)])),(.l 2,.box (.arr (.int .u64)))]
def XI {R:Type} (N:Nat) (a0 b0 b1 b2:C) (k1:KD R):Option R:=jn (fun d1 m1=>(if bn (bq (dk d1 3))=bn (bq (dk d1 3))then(k1 [br (↑(bo (bp (dk d1 0))):Int),dk d1 1,br (↑(bo (bp (dk d1 2))):Int),dk d1 3] [])else none)) (fun k2=>(bif decide (bp b1=0)then(if bn (bq b2)=bn (bq b2)then(k2 [br (↑(bo (bp b0)):Int),a0,br (↑(bn (bq b2)):Int),b2] [])else none)else(if bn (bq b2)=bn (bq b2)then(k2 [br (↑(bo (bp b0)):Int),b1,br (↑(bn (bq b2)):Int),b2] [])else none)))
def IK:=lid "" (@XI R N)
theorem gY {R N a0 b0 b1 b2 k}:@IK R N a0 b0 b1 b2 k=XI N a0 b0 b1 b2 k:=by unfold IK;rw[Ao]
def r8:OvG R:=Ca r7 p8 (fun ds ms=>IK N (dk ds 0) (dk ds 1) (dk ds 2) (dk ds 3)) fun ds ms K d1 m1=>K (rj []) [(ei (df 1),
  O.box
   (V.agg DD
    [V.sr (df 1000000000074) [] 0 (bo (bp (dk d1 0))) none 8 (cg bw),
     V.d (cg ca) (dk d1 1)])),
 (ei (df 2),O.dead (dc (bo (bp (dk d1 2))) (cg bw))),
 (df 1000000000074,O.box (V.d (dc (bn (bq (dk d1 3))) (cg bw)) (dk d1 3)))]
theorem XH:okX 184 (@r8 R N):=Cc Aq N [] [(184,[([1],⟨[0],[],[.g (.l 1),.g (.l 2)],[],[],[(.int .u64)]⟩),
  ([9],⟨[],[],[.g (.l 1),.g (.l 2)],[],[],[(.int .u64)]⟩)])] (fun _ _ _=>gY)
def p9:List Sh:=[.as (.ptr (.g (.l 1)) [] DD)]
def o6:List (Key × OSh):=[(.l 1,.box (.agg DD [.vec (.g (.l 2)) 8 (.int .u64),.d (.int .i64)])),(.l 2,.box (.arr (.int .u64)))]
def TI (b0 b1 b2:C) (k1:KD R):Option R:=bif decide ((↑(bo (bp b0)):Int)=0)then(if bn (bq b2)=bn (bq b2)then(IK N (br 12) (br (↑(bo (bp b0)):Int)) b1 b2 (fun d1 m1=>(if bn (bq (dk d1 3))=bn (bq (dk d1 3))then(k1 [br 0,br (↑(bo (bp (dk d1 0))):Int),dk d1 1,br (↑(bo (bp (dk d1 2))):Int),dk d1 3] [])else none)))else none)else(if 0<=bu ca ((↑(bo (bp b0)):Int)-1)/\bu ca ((↑(bo (bp b0)):Int)-1)<(↑(bo (bp b0)):Int)then(if Int.ofNat 0<=0/\0<=bu ca ((↑(bo (bp b0)):Int)-1)/\bu ca ((↑(bo (bp b0)):Int)-1)<=(↑(bo (bp b0)):Int)then(if bn (bq b2)=bn (bq b2)then(k1 [cd b2 (0+bo (bu ca ((↑(bo (bp b0)):Int)-1))),br (↑(bo (bu ca ((↑(bo (bp b0)):Int)-1)-0)):Int),b1,br (↑(bn (bq b2)):Int),b2] [])else none)else none)else none)
def DZ:=lid "" (@TI R N)
theorem XJ {R N b0 b1 b2 k}:@DZ R N b0 b1 b2 k=TI N b0 b1 b2 k:=by unfold DZ;rw[Ao]
def o5:OvG R:=Ca p9 o6 (fun ds ms=>DZ N (dk ds 0) (dk ds 1) (dk ds 2)) fun ds ms K d1 m1=>K (V.d (cg bw) (dk d1 0)) [(ei (df 1),
  O.box
   (V.agg DD
    [V.sr (df 1000000000074) [] 0 (bo (bp (dk d1 1))) none 8 (cg bw),
     V.d (cg ca) (dk d1 2)])),
 (ei (df 2),O.dead (dc (bo (bp (dk d1 3))) (cg bw))),
 (df 1000000000074,O.box (V.d (dc (bn (bq (dk d1 4))) (cg bw)) (dk d1 4)))]
theorem gZ:okX 166 (@o5 R N):=Cc (AR (XH N) <| Aq) N [] [(166,[([9],⟨[],[(2,.d (.int .u64))],[.g (.l 1),.g (.l 2)],[],[],[(.int .u64)]⟩)])] (fun _ _ _=>XJ)
def o7:List Sh:=[.as (.ptr (.g (.l 1)) [] DD),.d (.slice 8 (.int .u64))]
def o9:List (Key × OSh):=[(.l 1,.box (.agg DD [.vec (.g (.l 2)) 8 (.int .u64),.d (.int .i64)])),(.l 2,.box (.arr (.int .u64)))]
def XK (k1:KD R) (k2:KD R):KD R->KD R:=fun k3 d1 m1=>(bif decide (bp (dk d1 2)<bp (dk d1 1))then(if 0<=bp (dk d1 2)/\bp (dk d1 2)<(↑(bn (bq (dk d1 0))):Int)then(bif decide (32<=(↑(bo (bp (dk d1 3))):Int))then(if bn (bq (dk d1 6))=bn (bq (dk d1 6))then(IK N (br 4) (br (↑(bo (bp (dk d1 3))):Int)) (dk d1 4) (dk d1 6) (fun d2 m2=>(if bn (bq (dk d2 3))=bn (bq (dk d2 3))then(k1 [br (↑(bo (bp (dk d2 0))):Int),dk d2 1,br (↑(bo (bp (dk d1 5))):Int),dk d2 3] [])else none)))else none)else(if(bo (bp (dk d1 3))+1)*8<=140737488355328/\bo (bp (dk d1 3))+1<=9223372036854775807 then(if bo (bp (dk d1 3))+1=bn (ed (bo (bp (dk d1 3))) (bq (dk d1 6))++[dr (bq (dk d1 0)) (bo (bp (dk d1 2))) gm])then(k3 [dk d1 0,dk d1 1,br (bu ca (bp (dk d1 2)+1)),br (↑(bo (bp (dk d1 3))+1):Int),dk d1 4,br (↑(bo (bp (dk d1 5))):Int),C.agg (ed (bo (bp (dk d1 3))) (bq (dk d1 6))++[dr (bq (dk d1 0)) (bo (bp (dk d1 2))) gm])] [])else none)else none))else none)else(if bn (bq (dk d1 6))=bn (bq (dk d1 6))then(k2 [br (↑(bo (bp (dk d1 3))):Int),dk d1 4,br (↑(bo (bp (dk d1 5))):Int),dk d1 6] [])else none))
def TJ (a0 b0 b1 b2:C) (k1:KD R):Option R:=jn (fun d1 m1=>(if bn (bq (dk d1 3))=bn (bq (dk d1 3))then(k1 [br (↑(bo (bp (dk d1 0))):Int),dk d1 1,br (↑(bo (bp (dk d1 2))):Int),dk d1 3] [])else none)) (fun k2=>(if bn (bq b2)=bn (bq b2)then(BP N (XK N k1 k2) [a0,br (↑(bn (bq a0)):Int),br 0,br (↑(bo (bp b0)):Int),b1,br (↑(bn (bq b2)):Int),b2] [])else none))
def Fq:=lid "" (@TJ R N)
theorem XL {R N a0 b0 b1 b2 k}:@Fq R N a0 b0 b1 b2 k=TJ N a0 b0 b1 b2 k:=by unfold Fq;rw[Ao]
def o8:OvG R:=Ca o7 o9 (fun ds ms=>Fq N (dk ds 0) (dk ds 1) (dk ds 2) (dk ds 3)) fun ds ms K d1 m1=>K (rj []) [(ei (df 1),
  O.box
   (V.agg DD
    [V.sr (df 1000000000074) [] 0 (bo (bp (dk d1 0))) none 8 (cg bw),
     V.d (cg ca) (dk d1 1)])),
 (ei (df 2),O.dead (dc (bo (bp (dk d1 2))) (cg bw))),
 (df 1000000000074,O.box (V.d (dc (bn (bq (dk d1 3))) (cg bw)) (dk d1 3)))]
theorem hC:okX 185 (@o8 R N):=Cc (AR (XH N) <| Aq) N [] [(185,[([1],⟨[0],[],[.g (.l 1),.g (.l 2)],[],[],[(.int .u64)]⟩),
  ([4,1],⟨[0,6,7],[(8,.d (.int .i64))],[.g (.l 1),.g (.l 2)],[],[],[(.int .u64)]⟩),
  ([9],⟨[],[],[.g (.l 1),.g (.l 2)],[],[],[(.int .u64)]⟩)])] (fun _ _ _=>XL)
end Go.Proofs.YtpemdagggddcfaaGreatDoor
