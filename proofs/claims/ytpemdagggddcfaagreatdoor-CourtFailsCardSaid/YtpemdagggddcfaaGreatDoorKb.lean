/-
 What the functions on the way compute, part 2.
 Conditions: none.
-/
import Derived.Test.YtpemdagggddcfaaGreatDoorKa
set_option linter.all false
noncomputable section
set_option maxRecDepth 100000
set_option maxHeartbeats 4000000
open BitVec renaming ofInt->jc
open Go.BinOp renaming and->fv
open Go.E.C renaming beq->te,bool->dv,elems->bq,get->cd,int->bt,nil->gj,set->dp,slice->cz,toBool->ek,toInt->bp
open Go.E.Key renaming g->ej,l->dg
open Go.E.Ty renaming arr->dc,int->cg
open Go.E.V renaming tup->qs
open Go.IntKind renaming i64->ca,u32->di,u64->bu,u8->df,wrap->bw
open Int renaming fdiv->fp,lt_irrefl->fq,natCast_nonneg->dd,tdiv->tv,tmod->dz,toNat->bo,toNat_natCast->bx
open List renaming append_assoc->jh,drop->fi,getD->dt,getElem?_eq_getElem->cq,length->bn,length_append->da,length_cons->dq,length_nil->dw,mem_cons->ja,mem_singleton->ft,not_mem_nil->px,take->dy,take_add_one->qn,take_length->ei
open Nat renaming beq->dj,beq_refl->ct
namespace Go.Proofs.YtpemdagggddcfaaGreatDoor
open Go Go.E
variable {R:Type} (N:Nat)
def q48:List Sh:=[.ts 1 (.int .u8),.d (.slice 32 (.arr 32 (.int .u8)))]
def q5b:List (Key × OSh):=[]
def sB {R:Type} (N:Nat) (k2:KD R):KD R->KD R:=fun k3 d1 m1=>(bif decide (bp (dk d1 3)<bp (dk d1 1))then(if 0<=bp (dk d1 3)/\bp (dk d1 3)<(↑(bn (bq (dk d1 0))):Int)then(bif dj (bn (bq (dk d1 2))) (bn (bq (dk d1 2)))then(if(bn (bq (dk d1 2))+bn (dy 32 (fi 0 (bq (dt (bq (dk d1 0)) (bo (bp (dk d1 3))) gj)))))*1<=140737488355328/\bn (bq (dk d1 2))+bn (dy 32 (fi 0 (bq (dt (bq (dk d1 0)) (bo (bp (dk d1 3))) gj))))<=9223372036854775807 then(bif dj (bn (bq (dk d1 2))+bn (dy 32 (fi 0 (bq (dt (bq (dk d1 0)) (bo (bp (dk d1 3))) gj))))) (bn (bq (dk d1 2)++dy 32 (fi 0 (bq (dt (bq (dk d1 0)) (bo (bp (dk d1 3))) gj)))))then(k3 [dk d1 0,dk d1 1,cz (bq (dk d1 2)++dy 32 (fi 0 (bq (dt (bq (dk d1 0)) (bo (bp (dk d1 3))) gj)))),bt (bw ca (bp (dk d1 3)+1))] [])else none)else none)else none)else none)else(bif dj (bn (bq (dk d1 2))) (bn (bq (dk d1 2)))then(k2 [cz (bq (dk d1 2))] [])else none))
def aP (a0 a1 a2:C) (k1:KD R):Option R:=jn (fun d1 m1=>(bif dj (bn (bq (dk d1 0))) (bn (bq (dk d1 0)))then(k1 [cz (bq (dk d1 0))] [])else none)) (fun k2=>(bif dj (bn (bq a0)) (bn (bq a0))then(BU N (sB N k2) [a1,bt (↑(bn (bq a1)):Int),cz (bq a0),bt 0] [])else none))
def Rj:=lid "" (@aP R N)
theorem sC {R N a0 a1 a2 k}:@Rj R N a0 a1 a2 k=aP N a0 a1 a2 k:=by unfold Rj;rw[Ag]
def q49:OvG R:=CP q48 q5b (fun ds ms=>Rj N (dk ds 0) (dk ds 1) (dk ds 2)) fun ds ms K d1 m1=>K (V.ts 1 (cg df) (bq (dk d1 0))) []
theorem q5a:okX 212 (@q49 R N):=CT Ah N [] [(212,[([1,0,1],(Bc [(0,.sl 1 (.int .u8) 5000)])),
  ([4,1,0,1],(Bm [7,8] [(0,.sl 1 (.int .u8) 5000),(9,.d (.int .i64))])),
  ([9],(Bc [(4,.sl 1 (.int .u8) 5004)]))])] (fun _ _ _=>sC) fun ds ms K=>(show _=jn (fun d1 m1=>(bif dj (bn (bq (dk d1 0))) (bn (bq (dk d1 0)))then
  (K (V.ts 1 (cg df) (bq (dk d1 0))) [])
 else
  none)) _ by kernel_rfl).trans (congrArg (fun k=>jn k _) (funext fun _=>funext fun _=>by simp only[ct,cond_true]))
section
variable {R:Type} {N:Nat}
def Fc:Nat->Int->List C
 |0,_=>[]|k+1,n=>Fc k (n / 256)++[.int (n%256)]
theorem JK:∀(k:Nat) (n:Int),(Fc k n).length=k
 |0,_=>rfl|k+1,n=>by simp[Fc,JK k]
theorem rQ:∀(k:Nat) (n:Int),Fc (k+1) n= .int (n / 256^k%256)::Fc k n
 |0,n=>by simp[Fc]
 |k+1,n=>by
  have e:n / 256 / 256^k=n / 256^(k+1):=by rw[Int.ediv_ediv_of_nonneg (by omega),Int.pow_succ,Int.mul_comm]
  rw[Fc,rQ k (n / 256),e];rfl
theorem tH (k2:KD R) (c:C) (hc:0<=c.toInt):∀(m:Nat) (out:List C) (N':Nat),m<=8->m<N'->out.length+m<=1000000000000->
  BU N' (Rk N k2) [c,.slice out,.int ((m:Int)-1)] []=k2 [.slice (out++Fc m c.toInt)] []
 |0,out,N',_,hN,_=>by obtain⟨n,rfl⟩:∃n,N'=n+1:=⟨N'-1,by omega⟩;rw[Eb];unfold Rk;simp[go_sem,AF,Ac,Fc]
 |m+1,out,N',hm,hN,hl=>by
  obtain⟨n,rfl⟩:∃n,N'=n+1:=⟨N'-1,by omega⟩;have e0:((m+1:Nat):Int)-1=m:=by omega
  have e1:IntKind.i64.wrap (8*(m:Int))=8*m:=wrap_i64 (by omega) (by omega);have e2:IntKind.i64.wrap ((m:Int)-1)=m-1:=wrap_i64 (by omega) (by omega);have e3:min (8*(m:Int)).toNat 64=8*m:=by omega
  have e4:fp c.toInt (2^(8*m))=c.toInt / 256^m:=by rw[Int.fdiv_eq_ediv_of_nonneg _ (Int.pow_nonneg (by omega)),Int.pow_mul];rfl
  have h1:(0:Int)<=8*m:=by omega
  have h2:(out.length+1)*1<=140737488355328/\out.length+1<=9223372036854775807:=by omega
  have hb:∀rec:KD R,Rk N k2 rec [c,.slice out,.int m] []=rec [c,.slice (out++[.int (c.toInt / 256^m%256)]),.int ((m:Int)-1)] []:=by intro rec;unfold Rk;simp only[AI,AQ,AR,AF,Ac,e1,e2,e3,e4,wrap_u8,h1,h2,and_self,AG,dd,ct,da,dq,dw,Nat.zero_add]
  rw[Eb,e0,hb];rw[tH k2 c hc m _ n (by omega) (by omega) (by simp;omega),rQ];simp
theorem tG (out:List C) (c:C) (hc:0<=c.toInt) (m:Nat) (hm:m<=8) (hl:out.length+m<=1000000000000) (hN:100<N) (k:KD R):
  OM N (.slice out) c (.int m) k=k [.slice (out++Fc m c.toInt)] []:=by
 rw[sG];unfold aQ;simp only[AZ,AF,Ac,AI,ct,cond_true];rw[wrap_i64 (by omega) (by omega),tH _ c hc m out N hm (by omega) hl];rfl
theorem tF (out l:List C) (hl:out.length+l.length<=1000000000000) (k:KD R):MM N (.slice out) (.slice l) k=k [.slice (out++l)] []:=by rw[sA];unfold aO;simp only[Ac,ct,cond_true,da];rw[if_pos (by omega)]
def Dj (k:Nat) (l:List C):List C:=l.flatMap fun c=>Fc k c.toInt
theorem rS {k:Nat} {l:List C} {i:Nat} (h:i<l.length):Dj k (l.take (i+1))=Dj k (l.take i)++Fc k (l.getD i .nil).toInt:=by
 have:l.take (i+1)=l.take i++[l.getD i .nil]:=by rw[qn,cq h,List.getD_eq_getElem?_getD,cq h];rfl
 rw[this];simp[Dj]
theorem aH (k:Nat):∀l:List C,(Dj k l).length=k*l.length
 | []=>rfl|c::l=>by have:=aH k l;simp only[Dj,List.flatMap_cons,da,JK,dq]at this ⊢;rw[this,Nat.mul_succ];omega
theorem VL (out l:List C) (hc:∀c∈l,0<=c.toInt) (hl:out.length+8*l.length<=1000000000000) (hN:l.length+100<N) (k:KD R):
  Jz N (.slice out) (.slice l) k=k [.slice (out++Dj 8 l)] []:=by
 rw[rW];unfold aK;simp only[AZ,AF,Ac,AI,ct,cond_true];have key:=Jt (F:=VF N fun d1 m1=>k [.slice (dk d1 0).elems] []) (fun i=>[.slice l,.int l.length,.slice (out++Dj 8 (l.take i)),.int i]) (fun _=>[]) l.length (k [.slice (out++Dj 8 l)] []) ?_ ?_ (N:=N) (by omega);{simpa[Dj]using key}
 ·intro i hi rec;have h1:(i:Int)<(l.length:Int):=by omega
  unfold VF;simp only[AI,AQ,AR,AV,AF,Ac,h1,AG,dd,and_self,ct,bx];rw[show bt 8=bt ((8:Nat):Int) from rfl,tG _ _ (hc _ (Hd hi)) 8 (by omega) (by simp[aH];omega) (by omega)];simp only[AI,Ac,ct,cond_true,rS hi,Ck (show i<4611686018427387904 by omega),jh]
 ·intro rec;unfold VF;simp only[AI,AQ,AR,AV,AF,Ac,fq,AG,ct,ei]
theorem tE (out l:List C) (hc:∀c∈l,0<=c.toInt/\c.toInt<18446744073709551616) (hl:out.length+4*l.length<=1000000000000) (hN:l.length+100<N) (k:KD R):
  Kw N (.slice out) (.slice l) k=k [.slice (out++Dj 4 l)] []:=by
 rw[rY];unfold aL;simp only[AZ,AF,Ac,AI,ct,cond_true];have key:=Jt (F:=VG N fun d1 m1=>k [.slice (dk d1 0).elems] []) (fun i=>[.slice l,.int l.length,.slice (out++Dj 4 (l.take i)),.int i]) (fun _=>[]) l.length (k [.slice (out++Dj 4 l)] []) ?_ ?_ (N:=N) (by omega);{simpa[Dj]using key}
 ·intro i hi rec;have h1:(i:Int)<(l.length:Int):=by omega
  have h2:=hc _ (Hd hi);unfold VG;simp only[AI,AQ,AR,AV,AF,Ac,h1,AG,dd,and_self,ct,bx];rw[wrap_u64 h2.1 h2.2,show bt 4=bt ((4:Nat):Int) from rfl,tG _ _ (by simpa[AF]using h2.1) 4 (by omega) (by simp[aH];omega) (by omega)];simp only[AI,AF,Ac,ct,cond_true,rS hi,Ck (show i<4611686018427387904 by omega),jh]
 ·intro rec;unfold VG;simp only[AI,AQ,AR,AV,AF,Ac,fq,AG,ct,ei]
theorem q5s (out:List C) (c x:C) (hc:c.elems.length=32) (hl:out.length+32<=1000000000000) (hN:100<N) (k:KD R):
  Rj N (.slice out) (.slice [c]) x k=k [.slice (out++c.elems)] []:=by
 obtain⟨n,rfl⟩:∃n,N=n+2:=⟨N-2,by omega⟩;have e1:c.elems.take 32=c.elems:=by rw[List.take_of_length_le (by omega)]
 have w1:IntKind.i64.wrap (0+1)=1:=by decide
 rw[sC];unfold aP;simp only[AZ,AF,Ac,AI,ct,cond_true];rw[Eb];unfold sB;simp only[AI,AQ,AR,AV,AF,Ac,dq,dw,Nat.zero_add,List.getD_cons_zero,Int.toNat_zero,List.drop_zero,e1,hc,ct,cond_true,da,w1];rw[if_pos (by omega),Eb];simp[go_sem,AF,Ac];intro h;omega
end
def q0k:List Sh:=[.ts 1 (.int .u8),.d Bz]
def q0n:List (Key × OSh):=[]
def Xn (a0 a1:C) (k1:KD R):Option R:=bif dj (bn (bq a0)) (bn (bq a0))then(Jz N (cz (bq a0)) (cz [cd a1 0]) (fun d1 m1=>(bif dj (bn (bq (dk d1 0))) (bn (bq (dk d1 0)))then(MM N (cz (bq (dk d1 0))) (cz [bt (bw df (bp (cd a1 1)))]) (fun d2 m2=>(bif dj (bn (bq (dk d2 0))) (bn (bq (dk d2 0)))then(Jz N (cz (bq (dk d2 0))) (cz [cd a1 2]) (fun d3 m3=>(bif dj (bn (bq (dk d3 0))) (bn (bq (dk d3 0)))then(Rj N (cz (bq (dk d3 0))) (cz [cd a1 3]) gj (fun d4 m4=>(bif dj (bn (bq (dk d4 0))) (bn (bq (dk d4 0)))then(Jz N (cz (bq (dk d4 0))) (cz [cd a1 4]) (fun d5 m5=>(bif dj (bn (bq (dk d5 0))) (bn (bq (dk d5 0)))then(k1 [cz (bq (dk d5 0))] [])else none)))else none)))else none)))else none)))else none)))else none
def Py:=lid "" (@Xn R N)
theorem jI {R N a0 a1 k}:@Py R N a0 a1 k=Xn N a0 a1 k:=by unfold Py;rw[Ag]
def q0l:OvG R:=CP q0k q0n (fun ds ms=>Py N (dk ds 0) (dk ds 1)) fun ds ms K d1 m1=>K (V.ts 1 (cg df) (bq (dk d1 0))) []
theorem q0m:okX 211 (@q0l R N):=CT (AP (rV N) <| AP (rZ N) <| AP (q5a N) <| Ah) N [(211,[(0,[(3,5)]),(1,[(9,1),(14,1),(18,1),(22,1),(26,1)])])] [(211,[([9],(Bc [(4,.sl 1 (.int .u8) 5004)]))])] (fun _ _ _=>jI) fun ds ms K=>(show _=jn (fun d1 m1=>(bif dj (bn (bq (dk d1 0))) (bn (bq (dk d1 0)))then
  (K (V.ts 1 (cg df) (bq (dk d1 0))) [])
 else
  none)) _ by kernel_rfl).trans (congrArg (fun k=>jn k _) (funext fun _=>funext fun _=>by simp only[ct,cond_true]))
section
variable {R:Type} {N:Nat}
structure Sp (c:C):Prop where
 id:W64 (c.get 0).toInt
 am:W64 (c.get 2).toInt
 hash:(c.get 3).elems.length=32
 exp:W64 (c.get 4).toInt
def Pg (c:C):List C:=Fc 8 (c.get 0).toInt++[.int ((c.get 1).toInt%256)]++Fc 8 (c.get 2).toInt++(c.get 3).elems++Fc 8 (c.get 4).toInt
theorem X6 {c:C} (h:Sp c):(Pg c).length=57:=by simp[Pg,JK,h.hash]
theorem Rh (k:Nat) (c:C):Dj k [c]=Fc k c.toInt:=by simp[Dj]
theorem aY {c:C} (h:W64 c.toInt):∀x∈[c],0<=x.toInt:=by intro x hx;simp at hx;subst hx;exact h.1
theorem q3s (out:List C) (c:C) (h:Sp c) (hl:out.length<=100000000) (hN:200<N) (k:KD R):Py N (.slice out) c k=k [.slice (out++Pg c)] []:=by rw[jI];unfold Xn;simp only[Ac,ct,cond_true];rw[VL _ _ (aY h.id) (by simp;omega) (by simp;omega)];simp only[AI,Ac,ct,cond_true,wrap_u8,Rh];rw[tF _ _ (by simp[JK];omega)];simp only[AI,Ac,ct,cond_true];rw[VL _ _ (aY h.am) (by simp[JK];omega) (by simp;omega)];simp only[AI,Ac,ct,cond_true,Rh];rw[q5s _ _ _ h.hash (by simp[JK];omega) (by omega)];simp only[AI,Ac,ct,cond_true];rw[VL _ _ (aY h.exp) (by simp[JK,h.hash];omega) (by simp;omega)];simp only[AI,Ac,ct,cond_true,Rh,Pg,jh]
end
section
variable {R:Type} {N:Nat}
structure StW (s:C):Prop where
 ch:W64 (s.get 0).toInt
 rd:W64 (s.get 1).toInt
 p0:W64 ((s.get 2).get 0).toInt
 p1:W64 ((s.get 2).get 1).toInt
 q0:W64 ((s.get 3).get 0).toInt
 q1:W64 ((s.get 3).get 1).toInt
 cs:∀c∈(s.get 4).elems,Sp c
 ln:(s.get 4).elems.length<=12
end
def tR {R:Type} (N:Nat) (a0:C) (k1:KD R):Option R:=k1 [C.agg [a0,AL (cg bu),AL (dc 2 (cg bu)),AL (dc 2 (cg bu)),cz []]] []
def OT:=lid "" (@tR R N)
theorem tS {R N a0 k}:@OT R N a0 k=tR N a0 k:=by unfold OT;rw[Ag]
def q5y:OvG R:=BS [.int .u32] (Cw (OT N)) (Ca BV)
theorem tQ:okX 127 (@q5y R N):=BW Ah N [] [(127,[([9],⟨[],[(2,.as (.ptr (.l 2) [] BV))],[],[(.l 2,.box (.d BV))],[],[]⟩)])] (fun _ _=>tS)
def wT {R:Type} (N:Nat) (k1:KD R) (k2:KD R):KD R->KD R:=fun k3 d1 m1=>(bif decide (bp (dk d1 3)<bp (dk d1 2))then(if 0<=bp (dk d1 3)/\bp (dk d1 3)<(↑(bn (bq (dk d1 0))):Int)then(if 0<=bp (dk d1 3)/\bp (dk d1 3)<(↑(bn (bq (dk d1 1))):Int)then(bif !te (dt (bq (dk d1 0)) (bo (bp (dk d1 3))) gj) (dt (bq (dk d1 1)) (bo (bp (dk d1 3))) gj)then(k1 [dv false] [])else(k3 [dk d1 0,dk d1 1,dk d1 2,bt (bw ca (bp (dk d1 3)+1))] []))else none)else none)else(k2 [] []))
def cY (a0 a1:C) (k1:KD R):Option R:=bif !decide ((↑(bn (bq a0)):Int)=(↑(bn (bq a1)):Int))then(k1 [dv false] [])else(jn (fun d1 m1=>(k1 [dv true] [])) (fun k2=>(BU N (wT N k1 k2) [a0,a1,bt (↑(bn (bq a0)):Int),bt 0] [])))
def SW:=lid "" (@cY R N)
theorem wU {R N a0 a1 k}:@SW R N a0 a1 k=cY N a0 a1 k:=by unfold SW;rw[Ag]
def q63:OvG R:=BS [.slice 64 Bz,.slice 64 Bz] (DY (SW N)) GN
theorem q64:okX 178 (@q63 R N):=BW Ah N [] [(178,[([1,0,1,1],(Bc [])),
  ([4,1,0,1,1],(Bm [0,1,12] [(13,.d (.int .i64))])),
  ([9],(Bc [(4,.d .bool)]))])] (fun _ _=>wU)
def bG (a0 a1:C) (k1:KD R):Option R:=jn (fun d1 m1=>(k1 [dv (ek (dk d1 0))] [])) (fun k2=>(bif decide (bp (cd a0 0)=bp (cd a1 0))then(bif decide (bp (cd a0 1)=bp (cd a1 1))then(bif te (cd a0 2) (cd a1 2)then(bif te (cd a0 3) (cd a1 3)then(SW N (cd a0 4) (cd a1 4) (fun d1 m1=>(k2 [dv (ek (dk d1 0))] [])))else(k2 [dv false] []))else(k2 [dv false] []))else(k2 [dv false] []))else(k2 [dv false] [])))
def Rp:=lid "" (@bG R N)
theorem tU {R N a0 a1 k}:@Rp R N a0 a1 k=bG N a0 a1 k:=by unfold Rp;rw[Ag]
def q5B:OvG R:=BS [BV,BV] (DY (Rp N)) GN
theorem q5C:okX 162 (@q5B R N):=BW (AP (q64 N) <| Ah) N [(162,[(0,[(2,5),(3,5)])])] [(162,[([0,1],(Bc [(4,.d .bool)])),
  ([9],(Bc [(4,.d .bool)]))])] (fun _ _=>tU)
def Ys {R:Type} (N:Nat) (a0 a1:C) (k1:KD R):Option R:=if 0<=bw ca (tv (bp a1) 8)/\bw ca (tv (bp a1) 8)<32 then(if 0<=bw ca (7-dz (bp a1) 8)then(k1 [bt (CH fv df (fp (bp (cd a0 (bo (bw ca (tv (bp a1) 8))))) (2^min (bo (bw ca (7-dz (bp a1) 8))) 8)) 1)] [])else none)else none
def Qm:=lid "" (@Ys R N)
theorem nZ {R N a0 a1 k}:@Qm R N a0 a1 k=Ys N a0 a1 k:=by unfold Qm;rw[Ag]
def q2S:OvG R:=BS [.arr 32 (.int .u8),.int .i64] (DY (Qm N)) (Ca (cg df))
theorem q2T:okX 205 (@q2S R N):=BW Ah N [(205,[(0,[(2,5)])])] [(205,[([9],(Bc [(4,.d (.int .u8))]))])] (fun _ _=>nZ)
def Yt (a0:C) (k1:KD R):Option R:=Jv N (bt 5) (cz [cz (cut (bq a0) 0 16)]) (fun d1 m1=>(if 16<=bn (dy 16 (fi 0 (bq (dk d1 0))))then(k1 [C.agg (dy 16 (dy 16 (fi 0 (bq (dk d1 0)))))] [])else none))
def Qn:=lid "" (@Yt R N)
theorem oA {R N a0 k}:@Qn R N a0 k=Yt N a0 k:=by unfold Qn;rw[Ag]
def q2U:OvG R:=BS [.arr 16 (.int .u8)] (Cw (Qn N)) (Ca (dc 16 (cg df)))
theorem q2V:okX 206 (@q2U R N):=BW (AP (RL N) <| Ah) N [(206,[(0,[(1,5)]),(2,[(8,100)])])] [(206,[([9],⟨[],[(2,.as (.ptr (.l 2) [] (.arr 16 (.int .u8))))],[],[(.l 2,.box (.d (.arr 16 (.int .u8))))],[],[]⟩)])] (fun _ _=>oA)
def UT {R:Type} (N:Nat) (k2:KD R):KD R->KD R:=fun k3 d1 m1=>(bif decide (bp (dk d1 2)<32)then(if 0<=bp (dk d1 2)/\bp (dk d1 2)<32 then(bif dj (bn (bq (dk d1 1))) (bn (bq (dk d1 1)))then(if(bn (bq (dk d1 1))+bn (dy 16 (fi (bo 0) (bq (cd (cd (dk d1 0) (bo (bp (dk d1 2)))) (bo 0))))))*1<=140737488355328/\bn (bq (dk d1 1))+bn (dy 16 (fi (bo 0) (bq (cd (cd (dk d1 0) (bo (bp (dk d1 2)))) (bo 0)))))<=9223372036854775807 then(bif dj (bn (bq (dk d1 1))+bn (dy 16 (fi (bo 0) (bq (cd (cd (dk d1 0) (bo (bp (dk d1 2)))) (bo 0)))))) (bn (bq (dk d1 1)++dy 16 (fi (bo 0) (bq (cd (cd (dk d1 0) (bo (bp (dk d1 2)))) (bo 0))))))then(if(bn (bq (dk d1 1)++dy 16 (fi (bo 0) (bq (cd (cd (dk d1 0) (bo (bp (dk d1 2)))) (bo 0)))))+bn (dy 16 (fi (bo 0) (bq (cd (cd (dk d1 0) (bo (bp (dk d1 2)))) (bo 1))))))*1<=140737488355328/\bn (bq (dk d1 1)++dy 16 (fi (bo 0) (bq (cd (cd (dk d1 0) (bo (bp (dk d1 2)))) (bo 0)))))+bn (dy 16 (fi (bo 0) (bq (cd (cd (dk d1 0) (bo (bp (dk d1 2)))) (bo 1)))))<=9223372036854775807 then(bif dj (bn (bq (dk d1 1)++dy 16 (fi (bo 0) (bq (cd (cd (dk d1 0) (bo (bp (dk d1 2)))) (bo 0)))))+bn (dy 16 (fi (bo 0) (bq (cd (cd (dk d1 0) (bo (bp (dk d1 2)))) (bo 1)))))) (bn (bq (dk d1 1)++dy 16 (fi (bo 0) (bq (cd (cd (dk d1 0) (bo (bp (dk d1 2)))) (bo 0))))++dy 16 (fi (bo 0) (bq (cd (cd (dk d1 0) (bo (bp (dk d1 2)))) (bo 1))))))then(k3 [dk d1 0,cz (bq (dk d1 1)++dy 16 (fi (bo 0) (bq (cd (cd (dk d1 0) (bo (bp (dk d1 2)))) (bo 0))))++dy 16 (fi (bo 0) (bq (cd (cd (dk d1 0) (bo (bp (dk d1 2)))) (bo 1))))),bt (bw ca (bp (dk d1 2)+1)),dk d1 3] [])else none)else none)else none)else none)else none)else none)else(bif dj (bn (bq (dk d1 1))) (bn (bq (dk d1 1)))then(k2 [cz (bq (dk d1 1)),dk d1 3] [])else none))
def Yu (a0:C) (k1:KD R):Option R:=jn (fun d1 m1=>(Jv N (bt 2) (cz [cz (bq (dk d1 0))]) (fun d2 m2=>(k1 [dk d2 0] [])))) (fun k2=>(BU N (UT N k2) [a0,cz [],bt 0,AL (dc 32 (cg df))] []))
def Qo:=lid "" (@Yu R N)
theorem oB {R N a0 k}:@Qo R N a0 k=Yu N a0 k:=by unfold Qo;rw[Ag]
def q2W:OvG R:=BS [.arr 32 (.arr 2 (.arr 16 (.int .u8)))] (Cw (Qo N)) (Ca (dc 32 (cg df)))
theorem q2X:okX 207 (@q2W R N):=BW (AP (RL N) <| Ah) N [(207,[(0,[(1,5)])])] [(207,[([1,0,1,1],(Bm [2] [(3,.sl 1 (.int .u8) 5003)])),
  ([4,1,0,1,1],(Bm [2,6] [(3,.sl 1 (.int .u8) 5003),(7,.d (.int .i64))])),
  ([9],⟨[],[(2,.as (.ptr (.l 2) [] (.arr 32 (.int .u8))))],[],[(.l 2,.box (.d (.arr 32 (.int .u8))))],[],[]⟩)])] (fun _ _=>oB)
def UR (k2:KD R):KD R->KD R:=fun k3 d1 m1=>(bif decide (bp (dk d1 2)<32)then(Qm N (dk d1 1) (dk d1 2) (fun d2 m2=>(if 0<=bp (dk d1 2)/\bp (dk d1 2)<32 then(Qn N (cd (cd (dk d1 0) 0) (bo (bp (dk d1 2)))) (fun d3 m3=>(if 0<=bp (dk d1 2)/\bp (dk d1 2)<32 then(if 0<=bp (dk d2 0)/\bp (dk d2 0)<2 then(if 0<=bp (dk d1 2)/\bp (dk d1 2)<32 then(if 0<=bp (dk d1 2)/\bp (dk d1 2)<32 then(if 0<=bw df (1-bp (dk d2 0))/\bw df (1-bp (dk d2 0))<2 then(k3 [dk d1 0,dk d1 1,bt (bw ca (bp (dk d1 2)+1)),dk d1 3,dp (dp (dk d1 4) (bo (bp (dk d1 2))) (dp (cd (dk d1 4) (bo (bp (dk d1 2)))) (bo (bp (dk d2 0))) (dk d3 0))) (bo (bp (dk d1 2))) (dp (cd (dp (dk d1 4) (bo (bp (dk d1 2))) (dp (cd (dk d1 4) (bo (bp (dk d1 2)))) (bo (bp (dk d2 0))) (dk d3 0))) (bo (bp (dk d1 2)))) (bo (bw df (1-bp (dk d2 0)))) (cd (cd (dk d1 0) 1) (bo (bp (dk d1 2)))))] [])else none)else none)else none)else none)else none)))else none)))else(k2 [dk d1 3,dk d1 4] []))
def Yr (a0 a1:C) (k1:KD R):Option R:=jn (fun d1 m1=>(Qo N (dk d1 1) (fun d2 m2=>(k1 [dk d2 0] [])))) (fun k2=>(BU N (UR N k2) [a0,a1,bt 0,AL (dc 32 (cg df)),AL (dc 32 (dc 2 (dc 16 (cg df))))] []))
def Nx:=lid "" (@Yr R N)
theorem nY {R N a0 a1 k}:@Nx R N a0 a1 k=Yr N a0 a1 k:=by unfold Nx;rw[Ag]
def q2Q:OvG R:=BS [DI,.arr 32 (.int .u8)] (DY (Nx N)) (Ca (dc 32 (cg df)))
theorem q2R:okX 197 (@q2Q R N):=BW (AP (q2T N) <| AP (q2V N) <| AP (q2X N) <| Ah) N [(197,[(0,[(2,5),(3,5)]),(6,[(20,7)])])] [(197,[([1,0,1,1],(Bm [4,5] [])),
  ([4,1,0,1,1],(Bm [2,3,4,5] [(8,.d (.int .i64))])),
  ([9],⟨[],[(4,.as (.ptr (.l 4) [] (.arr 32 (.int .u8))))],[],[(.l 4,.box (.d (.arr 32 (.int .u8))))],[],[]⟩)])] (fun _ _=>nY)
def cH (a0 a1:C) (k1:KD R):Option R:=Jv N (bt 3) (cz [cz (cut (bq a0) 0 32),cz (cut (bq a1) 0 32)]) (fun d1 m1=>(k1 [dk d1 0] []))
def SR:=lid "" (@cH R N)
theorem vQ {R N a0 a1 k}:@SR R N a0 a1 k=cH N a0 a1 k:=by unfold SR;rw[Ag]
def q6t:OvG R:=BS [.arr 32 (.int .u8),.arr 32 (.int .u8)] (DY (SR N)) (Ca (dc 32 (cg df)))
theorem q6u:okX 198 (@q6t R N):=BW (AP (RL N) <| Ah) N [(198,[(0,[(2,5),(3,5)]),(1,[(8,7)])])] [(198,[([9],⟨[],[(4,.as (.ptr (.l 4) [] (.arr 32 (.int .u8))))],[],[(.l 4,.box (.d (.arr 32 (.int .u8))))],[],[]⟩)])] (fun _ _=>vQ)
def Oq (k2:KD R):KD R->KD R:=fun k3 d3 m3=>(bif decide (bp (dk d3 4)<bp (dk d3 2))then(if 0<=bp (dk d3 4)/\bp (dk d3 4)<(↑(bn (bq (dk d3 1))):Int)then(jn (fun d4 m4=>(SR N (dk d4 5) (dk d4 6) (fun d5 m5=>(k3 [dk d4 0,dk d4 2,dk d4 3,bt (fp (bp (dk d4 1)) (2^min (bo 1) 32)),bt (bw ca (bp (dk d4 4)+1)),dk d5 0] [])))) (fun k4=>(bif decide (CH fv di (bp (dk d3 3)) 1=1)then(k4 [dk d3 0,dk d3 3,dk d3 1,dk d3 2,dk d3 4,dt (bq (dk d3 1)) (bo (bp (dk d3 4))) gj,dk d3 5] [])else(k4 [dk d3 0,dk d3 3,dk d3 1,dk d3 2,dk d3 4,dk d3 5,dt (bq (dk d3 1)) (bo (bp (dk d3 4))) gj] []))))else none)else(k2 [dk d3 0,dk d3 5] []))
def Kz (a0 a1 a2 a3 a4:C) (k1:KD R):Option R:=jn (fun d1 m1=>(bif ek (dk d1 4)then(k1 [dv false] [])else(Nx N (cd (dk d1 1) 0) (dk d1 3) (fun d2 m2=>(jn (fun d3 m3=>(k1 [dv (te (dk d3 1) (dk d3 0))] [])) (fun k2=>(BU N (Oq N k2) [dk d1 2,cd (dk d1 1) 2,bt (↑(bn (bq (cd (dk d1 1) 2))):Int),dk d1 0,bt 0,dk d2 0] []))))))) (fun k2=>(bif decide (bp a2<0)then(k2 [a3,a0,a1,a4,dv true] [])else(bif !decide ((↑(bn (bq (cd a0 2))):Int)=bp a2)then(k2 [a3,a0,a1,a4,dv true] [])else(bif !decide (bp (cd a0 1)=bp a3)then(k2 [a3,a0,a1,a4,dv true] [])else(bif decide (bp a2<32)then(if 0<=bp a2 then(k2 [a3,a0,a1,a4,dv !decide (fp (bp a3) (2^min (bo (bp a2)) 32)=0)] [])else none)else(k2 [a3,a0,a1,a4,dv false] []))))))
def SQ:=lid "" (@Kz R N)
theorem MU {R N a0 a1 a2 a3 a4 k}:@SQ R N a0 a1 a2 a3 a4 k=Kz N a0 a1 a2 a3 a4 k:=by unfold SQ;rw[Ag]
def q6r:OvG R:=BS [Ci,.arr 32 (.int .u8),.int .i64,.int .u32,.arr 32 (.int .u8)] (fun a=>SQ N (a 0) (a 1) (a 2) (a 3) (a 4)) GN
theorem q6s:okX 179 (@q6r R N):=BW (AP (q2R N) <| AP (q6u N) <| Ah) N [(179,[(0,[(5,5),(6,5),(9,5)])])] [(179,[([0,0,1],(Bm [3,5,6,9] [(39,.d .bool)])),
  ([1,0,1,1,1],(Bm [6,11] [])),
  ([4,1,0,1,1,1],(Bm [6,11,46,47] [(12,.d (.int .u32)),(48,.d (.int .i64))])),
  ([1,0,1,4,0,1,1,5,4,1,0,1,1,1],(Bm [6,11,12,14,46,47,48] [])),
  ([9],(Bc [(10,.d .bool)]))])] (fun _ _=>MU)
def jG {R:Type} (N:Nat) (a0:C) (k1:KD R):Option R:=k1 [bt (bw di (if 2147483648<bp a0 then 2147483648 else bp a0))] []
def Px:=lid "" (@jG R N)
theorem jH {R N a0 k}:@Px R N a0 k=jG N a0 k:=by unfold Px;rw[Ag]
def q0i:OvG R:=BS [.int .u64] (Cw (Px N)) (Ca (cg di))
theorem q0j:okX 180 (@q0i R N):=BW Ah N [] [(180,[([9],(Bc [(2,.d (.int .u32))]))])] (fun _ _=>jH)
def F8:List Sh:=[.ts 1 (.int .u8),.d BV]
def q0b:List (Key × OSh):=[]
def Ta (k2:KD R):KD R->KD R:=fun k3 d4 m4=>(bif decide (bp (dk d4 3)<bp (dk d4 1))then(if 0<=bp (dk d4 3)/\bp (dk d4 3)<(↑(bn (bq (dk d4 0))):Int)then(bif dj (bn (bq (dk d4 2))) (bn (bq (dk d4 2)))then(Py N (cz (bq (dk d4 2))) (dt (bq (dk d4 0)) (bo (bp (dk d4 3))) gj) (fun d5 m5=>(bif dj (bn (bq (dk d5 0))) (bn (bq (dk d5 0)))then(k3 [dk d4 0,dk d4 1,cz (bq (dk d5 0)),bt (bw ca (bp (dk d4 3)+1))] [])else none)))else none)else none)else(bif dj (bn (bq (dk d4 2))) (bn (bq (dk d4 2)))then(k2 [cz (bq (dk d4 2))] [])else none))
def Xk (a0 a1:C) (k1:KD R):Option R:=bif dj (bn (bq a0)) (bn (bq a0))then(Kw N (cz (bq a0)) (cz [cd a1 0]) (fun d1 m1=>(bif dj (bn (bq (dk d1 0))) (bn (bq (dk d1 0)))then(Jz N (cz (bq (dk d1 0))) (cz [cd a1 1,cd (cd a1 2) (bo 0),cd (cd a1 2) (bo 1),cd (cd a1 3) (bo 0),cd (cd a1 3) (bo 1)]) (fun d2 m2=>(bif dj (bn (bq (dk d2 0))) (bn (bq (dk d2 0)))then(MM N (cz (bq (dk d2 0))) (cz [bt (bw df (↑(bn (bq (cd a1 4))):Int))]) (fun d3 m3=>(jn (fun d4 m4=>(bif dj (bn (bq (dk d4 0))) (bn (bq (dk d4 0)))then(k1 [cz (bq (dk d4 0))] [])else none)) (fun k2=>(bif dj (bn (bq (dk d3 0))) (bn (bq (dk d3 0)))then(BU N (Ta N k2) [cd a1 4,bt (↑(bn (bq (cd a1 4))):Int),cz (bq (dk d3 0)),bt 0] [])else none)))))else none)))else none)))else none
def Pu:=lid "" (@Xk R N)
theorem jD {R N a0 a1 k}:@Pu R N a0 a1 k=Xk N a0 a1 k:=by unfold Pu;rw[Ag]
def F9:OvG R:=CP F8 q0b (fun ds ms=>Pu N (dk ds 0) (dk ds 1)) fun ds ms K d1 m1=>K (V.ts 1 (cg df) (bq (dk d1 0))) []
theorem q0a:okX 200 (@F9 R N):=CT (AP (rX N) <| AP (rV N) <| AP (rZ N) <| AP (q0m N) <| Ah) N [(200,[(0,[(3,5)]),(1,[(11,1),(27,1),(33,1)]),(5,[(43,1)])])] [(200,[([1,0,1,1],(Bc [(0,.sl 1 (.int .u8) 5000)])),
  ([4,1,0,1,1],(Bm [35,36] [(0,.sl 1 (.int .u8) 5000),(37,.d (.int .i64))])),
  ([9],(Bc [(4,.sl 1 (.int .u8) 5004)]))])] (fun _ _ _=>jD) fun ds ms K=>(show _=jn (fun d1 m1=>(bif dj (bn (bq (dk d1 0))) (bn (bq (dk d1 0)))then
  (K (V.ts 1 (cg df) (bq (dk d1 0))) [])
 else
  none)) _ by kernel_rfl).trans (congrArg (fun k=>jn k _) (funext fun _=>funext fun _=>by simp only[ct,cond_true]))
def Xm (a0:C) (k1:KD R):Option R:=Kw N (cz []) (cz [cd a0 0]) (fun d1 m1=>(Pu N (cz []) a0 (fun d2 m2=>(Jv N (bt 4) (cz [cz (bq (dk d1 0)),cz (bq (dk d2 0))]) (fun d3 m3=>(k1 [dk d3 0] []))))))
def Pw:=lid "" (@Xm R N)
theorem jF {R N a0 k}:@Pw R N a0 k=Xm N a0 k:=by unfold Pw;rw[Ag]
def q0g:OvG R:=BS [BV] (Cw (Pw N)) (Ca (dc 32 (cg df)))
theorem q0h:okX 181 (@q0g R N):=BW (AP (RL N) <| AP (rX N) <| AP (q0a N) <| Ah) N [(181,[(0,[(1,5)]),(1,[(7,1),(9,1),(11,7)])])] [(181,[([9],⟨[],[(2,.as (.ptr (.l 2) [] (.arr 32 (.int .u8))))],[],[(.l 2,.box (.d (.arr 32 (.int .u8))))],[],[]⟩)])] (fun _ _=>jF)
def Xl (a0 a1 a2 a3:C) (k1:KD R):Option R:=jn (fun d1 m1=>(bif ek (dk d1 4)then(k1 [dv false] [])else(if 0<=bp (dk d1 0)/\bp (dk d1 0)<2 then(Px N (cd (dk d1 2) 1) (fun d2 m2=>(Pw N (dk d1 2) (fun d3 m3=>(SQ N (dk d1 3) (cd (cd (dk d1 1) 0) (bo (bp (dk d1 0)))) (cd (dk d1 1) 1) (dk d2 0) (dk d3 0) (fun d4 m4=>(k1 [dv (ek (dk d4 0))] [])))))))else none))) (fun k2=>(bif !decide (bp a1=0)then(k2 [a1,a0,a2,a3,dv !decide (bp a1=1)] [])else(k2 [a1,a0,a2,a3,dv false] [])))
def NT:=lid "" (@Xl R N)
theorem jE {R N a0 a1 a2 a3 k}:@NT R N a0 a1 a2 a3 k=Xl N a0 a1 a2 a3 k:=by unfold NT;rw[Ag]
def q0c:OvG R:=BS [Cj,.int .i64,BV,Ci] (fun a=>NT N (a 0) (a 1) (a 2) (a 3)) GN
theorem q0d:okX 163 (@q0c R N):=BW (AP (q6s N) <| AP (q0j N) <| AP (q0h N) <| Ah) N [(163,[(0,[(4,5),(6,5),(7,5)]),(3,[(24,7),(26,7),(27,7)])])] [(163,[([0,0,1],(Bm [1,4,6,7] [(14,.d .bool)])),
  ([9],(Bc [(8,.d .bool)]))])] (fun _ _=>jE)
def Pv (a0 a1 a2:C) (k1:KD R):Option R:=bif !decide (bp (cd (cd a1 0) 0)=bp a2)then(k1 [dv false] [])else(bif decide (bp (cd (cd a1 0) 1)=0)then(OT N a2 (fun d1 m1=>(Rp N (cd a1 0) (dk d1 0) (fun d2 m2=>(k1 [dv (ek (dk d2 0))] [])))))else(jn (fun d1 m1=>(k1 [dv (ek (dk d1 0))] [])) (fun k2=>(NT N a0 (bt 0) (cd a1 0) (cd (cd a1 1) (bo 0)) (fun d1 m1=>(bif ek (dk d1 0)then(NT N a0 (bt 1) (cd a1 0) (cd (cd a1 1) (bo 1)) (fun d2 m2=>(k2 [dv (ek (dk d2 0))] [])))else(k2 [dv false] [])))))))
def Je:=lid "" (@Pv R N)
theorem Tb {R N a0 a1 a2 k}:@Je R N a0 a1 a2 k=Pv N a0 a1 a2 k:=by unfold Je;rw[Ag]
def q0e:OvG R:=BS [Cj,Ch,.int .u32] (Ip (Je N)) GN
theorem q0f:okX 148 (@q0e R N):=BW (AP (tQ N) <| AP (q5C N) <| AP (q0d N) <| Ah) N [(148,[(0,[(3,5),(4,5)]),(4,[(19,7),(20,7)])])] [(148,[([0,1,1,1],(Bc [(6,.d .bool)])),
  ([9],(Bc [(6,.d .bool)]))])] (fun _ _=>Tb)
section
variable {R:Type} {N:Nat}
theorem aj (x:Int):CH fv df x 1=0\/CH fv df x 1=1:=by
 have h:(jc 8 x&&&jc 8 1).toNat<=1:=by rw[BitVec.toNat_and];exact Nat.and_le_right
 show IntKind.u8.wrap ((jc 8 x&&&jc 8 1).toNat:Int)=0\/IntKind.u8.wrap ((jc 8 x&&&jc 8 1).toNat:Int)=1;generalize (jc 8 x&&&jc 8 1).toNat=a at*;rw[wrap_u8];omega
theorem bf (d:C) (i:Nat) (hi:i<32):∃v:Int,(v=0\/v=1)/\∀k:KD R,Qm N d (.int i) k=k [.int v] []:=by
 have r:=JR (i:Int) 8 (by omega) (by omega);have q:tv (i:Int) 8=(i:Int) / 8:=Int.tdiv_eq_ediv_of_nonneg (by omega);have q1:IntKind.i64.wrap ((i:Int) / 8)=(i:Int) / 8:=wrap_i64 (by omega) (by omega);have q2:IntKind.i64.wrap (7-dz (i:Int) 8)=7-dz (i:Int) 8:=wrap_i64 (by omega) (by omega);have c1:0<=(i:Int) / 8/\(i:Int) / 8<32:=by omega
 have c2:0<=7-dz (i:Int) 8:=by omega
 refine⟨CH fv df (fp (bp (cd d ((i:Int) / 8).toNat)) (2^min (7-dz (i:Int) 8).toNat 8)) 1,aj _,fun k=>?_⟩;rw[nZ];unfold Ys;simp only[AF,q,q1,q2,c1,c2,and_self,if_true]
theorem H7 (c:C) (hN:2000<N) (hN2:N<4611686018427387904):∃l:List C,l.length=16/\∀k:KD R,Qn N c k=k [.agg l] []:=by obtain⟨d,⟨l,rfl,hl⟩,h1⟩:=PO (R:=R) (N:=N) (.int 5) [cz (cut (bq c) 0 16)] 100 (fun x hx=>⟨_,ft.1 hx,by simp[cut];omega⟩) (by simp;omega) (by omega) hN2;refine⟨dy 16 (dy 16 (fi 0 l)),by simp;omega,fun k=>?_⟩;rw[oA];unfold Yt;simp only[h1,AI,Ap];exact if_pos (by simp;omega)
theorem q3u (a0:C) (hN:4000<N) (hN2:N<4611686018427387904):∃c,Dig c/\∀k:KD R,Qo N a0 k=k [c] []:=by
 obtain⟨d,⟨o,ho,rfl⟩,h⟩:=Gp (R:=R) (F:=fun k2=>UT N k2) 32 (fun i st=>∃o:List C,o.length<=32*i/\st=[a0,.slice o,.int i,AL (.arr 32 (.int .u8))]) (fun d=>∃o:List C,o.length<=1024/\d=[.slice o,AL (.arr 32 (.int .u8))])
  (fun i st hi hst=>by
   obtain⟨o,ho,rfl⟩:=hst;have e1:(i:Int)<32:=by omega
   have l1:(dy 16 (fi (bo 0) (bq (cd (cd a0 i) (bo 0))))).length<=16:=by simp;omega
   have l2:(dy 16 (fi (bo 0) (bq (cd (cd a0 i) (bo 1))))).length<=16:=by simp;omega
   generalize hx:dy 16 (fi (bo 0) (bq (cd (cd a0 i) (bo 0))))=x at*;generalize hy:dy 16 (fi (bo 0) (bq (cd (cd a0 i) (bo 1))))=y at*;have g1:(o.length+x.length)*1<=140737488355328/\o.length+x.length<=9223372036854775807:=by omega
   have g2:(o.length+x.length+y.length)*1<=140737488355328/\o.length+x.length+y.length<=9223372036854775807:=by omega
   refine⟨_,⟨o++x++y,by simp;omega,rfl⟩,fun k rec=>?_⟩;unfold UT;simp only[AI,AQ,AR,AV,AF,Ac,e1,AG,dd,and_self,bx,hx,hy,g1,g2,ct,da,Ck (show i<4611686018427387904 by omega)])
  (fun st hst=>by
   obtain⟨o,ho,rfl⟩:=hst;refine⟨_,⟨o,by omega,rfl⟩,fun k rec=>?_⟩;unfold UT;have e:¬((32:Nat):Int)<32:=by decide
   simp only[AI,AQ,AR,AV,AF,Ac,e,AG,ct])
  (N:=N) (by omega) (st:=[a0,.slice [],.int (0:Nat),AL (.arr 32 (.int .u8))]) ⟨[],by simp,rfl⟩
 obtain⟨c,hc,h2⟩:=PO (R:=R) (N:=N) (.int 2) [cz o] 1100 (fun x hx=>⟨_,ft.1 hx,by omega⟩) (by simp;omega) (by omega) hN2;refine⟨c,hc,fun k=>?_⟩;rw[oB];unfold Yu;simp only[AZ];refine(h _).trans ?_;simp only[AI,Ac,h2]
theorem zR (a0 a1:C) (hN:4000<N) (hN2:N<4611686018427387904):∃c,Dig c/\∀k:KD R,Nx N a0 a1 k=k [c] []:=by
 obtain⟨d,⟨x,rfl⟩,h⟩:=Gp (R:=R) (F:=fun k2=>UR N k2) 32 (fun i st=>∃x:C,st=[a0,a1,.int i,AL (.arr 32 (.int .u8)),x]) (fun d=>∃x:C,d=[AL (.arr 32 (.int .u8)),x])
  (fun i st hi hst=>by
   obtain⟨x,rfl⟩:=hst;have e1:(i:Int)<32:=by omega
   obtain⟨v,hv,h1⟩:=bf (R:=R) (N:=N) a1 i hi;obtain⟨l,hl,h2⟩:=H7 (R:=R) (N:=N) (cd (cd a0 0) i) (by omega) hN2;have c1:0<=v/\v<2:=by omega
   have c2:0<=IntKind.u8.wrap (1-v)/\IntKind.u8.wrap (1-v)<2:=by rw[wrap_u8];omega
   refine⟨_,⟨?x1,rfl⟩,fun k rec=>?eq1⟩
   case eq1=>
    unfold UR;simp only[AI,AQ,AR,AV,Aa,AF,e1,h1,h2,c1,c2,AG,dd,and_self,bx,Ck (show i<4611686018427387904 by omega)];rfl)
  (fun st hst=>by
   obtain⟨x,rfl⟩:=hst;refine⟨_,⟨x,rfl⟩,fun k rec=>?_⟩;unfold UR;have e:¬((32:Nat):Int)<32:=by decide
   simp only[AI,AQ,AR,AV,Aa,AF,e,AG])
  (N:=N) (by omega) (st:=[a0,a1,.int (0:Nat),AL (.arr 32 (.int .u8)),AL (.arr 32 (.arr 2 (.arr 16 (.int .u8))))]) ⟨_,rfl⟩
 obtain⟨c,hc,h2⟩:=q3u (R:=R) (N:=N) x hN hN2;refine⟨c,hc,fun k=>?_⟩;rw[nY];unfold Yr;simp only[AZ];refine(h _).trans ?_;simp only[AI,AQ,h2]
theorem fC (a b:C) (hN:4000<N) (hN2:N<4611686018427387904):∃c,Dig c/\∀k:KD R,SR N a b k=k [c] []:=by
 obtain⟨c,hc,h1⟩:=PO (R:=R) (N:=N) (.int 3) [cz (cut (bq a) 0 32),cz (cut (bq b) 0 32)] 100 (fun x hx=>by
  simp only[ja,px,or_false]at hx;rcases hx with rfl|rfl;{exact⟨_,rfl,by simp[cut];omega⟩}
  ·exact⟨_,rfl,by simp[cut];omega⟩) (by simp;omega) (by omega) hN2
 refine⟨c,hc,fun k=>?_⟩;rw[vQ];unfold cH;simp only[h1,AI]
theorem q6V (a0 a1 a2 a3 a4:C) (ha:a2.toInt<=1000) (hN:4000<N) (hN2:N<4611686018427387904):∃b:Bool,∀k:KD R,SQ N a0 a1 a2 a3 a4 k=k [.bool b] []:=by
 have no:∀b:Bool,b=true->∀k:KD R,(bif b then k [dv false] []else none:Option R)=k [dv false] []:=fun b hb k=>by rw[hb];rfl
 by_cases z1:a2.toInt<0;{refine⟨false,fun k=>?_⟩;rw[MU];unfold Kz;simp only[AZ,z1,AG,Aa,AW]};by_cases z2:((bq (cd a0 2)).length:Int)=a2.toInt
 case neg=>
  refine⟨false,fun k=>?_⟩;rw[MU];unfold Kz;simp only[AZ,z1,z2,AG,Aa,AW]
 by_cases z3:(cd a0 1).toInt=a3.toInt
 case neg=>
  refine⟨false,fun k=>?_⟩;rw[MU];unfold Kz;simp only[AZ,z1,z2,z3,AG,Aa,AW]
 obtain⟨d0,_,h0⟩:=zR (R:=R) (N:=N) (cd a0 0) a4 hN hN2;generalize hL:bq (cd a0 2)=L at*
 obtain⟨d,⟨y,rfl⟩,h⟩:=Gp (R:=R) (F:=fun k2=>Oq N k2) L.length (fun i st=>∃x y:C,st=[a1,cd a0 2,.int L.length,x,.int i,y]) (fun d=>∃y:C,d=[a1,y])
  (fun i st hi hst=>by
   obtain⟨x,y,rfl⟩:=hst;have e1:(i:Int)<(L.length:Int):=by omega
   by_cases z:CH fv di (bp x) 1=1
   ·obtain⟨c,_,h1⟩:=fC (R:=R) (N:=N) (L.getD i .nil) y hN hN2;refine⟨_,⟨?x2,?y2,rfl⟩,fun k rec=>?eq2⟩
    case eq2=>
     unfold Oq;simp only[AZ,AI,AQ,AR,AV,Aa,Aj,Ak,AF,hL,e1,z,h1,AG,dd,and_self,bx,Ck (show i<4611686018427387904 by omega)];rfl
   ·obtain⟨c,_,h1⟩:=fC (R:=R) (N:=N) y (L.getD i .nil) hN hN2;refine⟨_,⟨?x3,?y3,rfl⟩,fun k rec=>?eq3⟩
    case eq3=>
     unfold Oq;simp only[AZ,AI,AQ,AR,AV,Aa,Aj,Ak,AF,hL,e1,z,h1,AG,dd,and_self,bx,Ck (show i<4611686018427387904 by omega)];rfl)
  (fun st hst=>by
   obtain⟨x,y,rfl⟩:=hst;refine⟨_,⟨y,rfl⟩,fun k rec=>?_⟩;unfold Oq;simp only[AI,AQ,AR,AV,Aa,Aj,AF,fq,AG])
  (N:=N) (by omega) (st:=[a1,cd a0 2,.int L.length,a3,.int (0:Nat),d0]) ⟨_,_,rfl⟩
 have main:∀k:KD R,(Nx N (cd a0 0) a4 fun d2 m2=>BU N (Oq N fun d3 m3=>k [dv (te (dk d3 1) (dk d3 0))] []) [a1,cd a0 2,bt L.length,a3,bt 0,dk d2 0] [])=k [dv (te y a1)] []:=fun k=>by rw[h0];refine(h _).trans ?_;simp only[AI,AQ]
 have hc:a2.toInt<32\/¬a2.toInt<32:=by omega
 by_cases z5:a2.toInt<32;{by_cases z4:fp (bp a3) (2^min (bo (bp a2)) 32)=0;{refine⟨te y a1,fun k=>?_⟩;rw[MU];unfold Kz;simp only[AZ,hL,z1,z2,z3,z5,z4,AG,AI,AQ,AR,AV,Aa,AW];refine(if_pos (by omega)).trans ?_;rw[<-z2];exact main k};{refine⟨false,fun k=>?_⟩;rw[MU];unfold Kz;simp only[AZ,hL,z1,z2,z3,z5,z4,AG,AI,AQ,AR,AV,Aa,AW];exact if_pos (by omega)}};{refine⟨te y a1,fun k=>?_⟩;rw[MU];unfold Kz;simp only[AZ,hL,z1,z2,z3,z5,AG,AI,AQ,AR,AV,Aa,AW];rw[<-z2];exact main k}
theorem zT (s:C) (h:StW s) (hN:4000<N):∃o:List C,o.length<=800/\∀k:KD R,Pu N (.slice []) s k=k [.slice o] []:=by
 generalize hcs:bq (cd s 4)=cs;have hl:cs.length<=12:=hcs ▸ h.ln;have hw:∀c∈cs,Sp c:=fun c hc=>h.cs c (hcs ▸ hc);have four:∀k:KD R,Kw N (.slice []) (.slice [s.get 0]) k=k [.slice ([]++Dj 4 [s.get 0])] []:=fun k=>tE _ _ (fun c hc=>by rw[ft.1 hc];exact h.ch) (by simp) (by simp;omega) k;generalize hv:([cd s 1,cd (cd s 2) (bo 0),cd (cd s 2) (bo 1),cd (cd s 3) (bo 0),cd (cd s 3) (bo 1)]:List C)=v;have hv0:∀c∈v,0<=c.toInt:=by subst hv;intro c hc;simp only[ja,px,or_false]at hc;rcases hc with rfl|rfl|rfl|rfl|rfl;{exact h.rd.1};{exact h.p0.1};{exact h.p1.1};{exact h.q0.1};{exact h.q1.1}
 have hvl:v.length=5:=by subst hv;rfl
 have ln4:([]++Dj 4 [s.get 0]:List C).length=4:=by simp[Rh,JK]
 generalize ([]++Dj 4 [s.get 0]:List C)=o1 at*;have eight:∀k:KD R,Jz N (.slice o1) (.slice v) k=k [.slice (o1++Dj 8 v)] []:=fun k=>VL _ _ hv0 (by omega) (by omega) k;have ln8:(o1++Dj 8 v).length=44:=by subst hv;simp[Dj,JK,ln4]
 generalize (o1++Dj 8 v)=o2 at*;have one:∀k:KD R,MM N (.slice o2) (.slice [bt (bw df (cs.length:Int))]) k=k [.slice (o2++[bt (bw df (cs.length:Int))])] []:=fun k=>tF _ _ (by simp;omega) k
 obtain⟨d,⟨o,ho,rfl⟩,h1⟩:=Gp (R:=R) (F:=fun k2=>Ta N k2) cs.length (fun i st=>∃o:List C,o.length<=45+57*i/\st=[cd s 4,.int cs.length,.slice o,.int i]) (fun d=>∃o:List C,o.length<=800/\d=[.slice o])
  (fun i st hi hst=>by
   obtain⟨o,ho,rfl⟩:=hst;have e1:(i:Int)<(cs.length:Int):=by omega
   have hcw:=hw _ (Hd hi);have hl2:=X6 hcw;refine⟨_,⟨o++Pg (cs.getD i .nil),by rw[da,hl2];omega,rfl⟩,fun k rec=>?_⟩;unfold Ta;simp only[AI,AQ,AR,AV,AF,Ac,hcs,e1,AG,dd,and_self,bx,ct,q3s o _ hcw (by omega) (show 200<N by omega),Ck (show i<4611686018427387904 by omega)])
  (fun st hst=>by
   obtain⟨o,ho,rfl⟩:=hst;refine⟨_,⟨o,by omega,rfl⟩,fun k rec=>?_⟩;unfold Ta;simp only[AI,AQ,AR,AV,AF,Ac,fq,AG,ct])
  (N:=N) (by omega) (st:=[cd s 4,.int cs.length,.slice (o2++[bt (bw df (cs.length:Int))]),.int (0:Nat)]) ⟨_,by simp;omega,rfl⟩
 refine⟨o,ho,fun k=>?_⟩;rw[jD];unfold Xk;simp only[AZ,Ac,ct,cond_true,four,AI,hv,eight,hcs,one];refine(h1 _).trans ?_;simp only[AI,Ac,ct,cond_true]
theorem zY (s:C) (h:StW s) (hN:4000<N) (hN2:N<4611686018427387904):∃c,Dig c/\∀k:KD R,Pw N s k=k [c] []:=by
 have four:∀k:KD R,Kw N (.slice []) (.slice [s.get 0]) k=k [.slice ([]++Dj 4 [s.get 0])] []:=fun k=>tE _ _ (fun c hc=>by rw[ft.1 hc];exact h.ch) (by simp) (by simp;omega) k;obtain⟨o,ho,h1⟩:=zT (R:=R) (N:=N) s h hN
 obtain⟨c,hc,h2⟩:=PO (R:=R) (N:=N) (.int 4) [cz ([]++Dj 4 [s.get 0]),cz o] 900 (fun x hx=>by
  simp only[ja,px,or_false]at hx;rcases hx with rfl|rfl;{exact⟨_,rfl,by simp[Rh,JK]⟩}
  ·exact⟨_,rfl,by omega⟩) (by simp;omega) (by omega) hN2
 refine⟨c,hc,fun k=>?_⟩;rw[jF];unfold Xm;simp only[four,AI,Ac,h1,h2]
theorem vR (a0 a2 a3:C) (side:Int) (hs:side=0\/side=1) (h:StW a2) (hd:(a0.get 1).toInt<=1000) (hN:4000<N) (hN2:N<4611686018427387904):∃b:Bool,∀k:KD R,NT N a0 (.int side) a2 a3 k=k [.bool b] []:=by obtain⟨key,hk⟩:∃c:C,∀k:KD R,Px N (cd a2 1) k=k [c] []:=⟨_,fun k=>by rw[jH];rfl⟩;obtain⟨c,_,h1⟩:=zY (R:=R) (N:=N) a2 h hN hN2;obtain⟨b,h2⟩:=q6V (R:=R) (N:=N) a3 (cd (cd a0 0) side.toNat) (cd a0 1) key c hd hN hN2;refine⟨b,fun k=>?_⟩;rw[jE];unfold Xl;rcases hs with rfl|rfl;{simp only[AZ,AF,AW,AG,AI,AQ,AR,AV,Aa];refine(if_pos (by omega)).trans ?_;simp only[hk,h1,AI,h2,AW]};{simp only[AZ,AF,AW,AG,AI,AQ,AR,AV,Aa,show ¬(1:Int)=0 by decide];refine(if_pos (by omega)).trans ?_;simp only[hk,h1,AI,h2,AW]}
end
def Zs {R:Type} (N:Nat) (a0 a1:C) (k1:KD R):Option R:=bif !decide ((bp a0+bp a1) / 18446744073709551616=0)then(k1 [bt 0,bt 11] [])else(k1 [bt ((bp a0+bp a1)%18446744073709551616),bt 0] [])
def JH:=lid "" (@Zs R N)
theorem qW {R N a0 a1 k}:@JH R N a0 a1 k=Zs N a0 a1 k:=by unfold JH;rw[Ag]
def q4n:OvG R:=BS [.int .u64,.int .u64] (DY (JH N)) fun a K d1 m1=>K (qs [V.d (cg bu) (dk d1 0),V.d (cg ca) (dk d1 1)]) []
theorem Uu:okX 73 (@q4n R N):=BW Ah N [] [(73,[([9],(Bc [(4,.d (.int .u64)),(5,.d (.int .i64))]))])] (fun _ _=>qW)
def Zu {R:Type} (N:Nat) (a0 a1:C) (k1:KD R):Option R:=bif decide (bp a0<bp a1)then(k1 [bt 0,bt 12] [])else(k1 [bt (bw bu (bp a0-bp a1)),bt 0] [])
def Jw:=lid "" (@Zu R N)
theorem qY {R N a0 a1 k}:@Jw R N a0 a1 k=Zu N a0 a1 k:=by unfold Jw;rw[Ag]
def q4q:OvG R:=BS [.int .u64,.int .u64] (DY (Jw N)) fun a K d1 m1=>K (qs [V.d (cg bu) (dk d1 0),V.d (cg ca) (dk d1 1)]) []
theorem RV:okX 124 (@q4q R N):=BW Ah N [] [(124,[([9],(Bc [(4,.d (.int .u64)),(5,.d (.int .i64))]))])] (fun _ _=>qY)
def Uv (k1:KD R) (k2:KD R):KD R->KD R:=fun k3 d1 m1=>(bif decide (bp (dk d1 3)<bp (dk d1 1))then(if 0<=bp (dk d1 3)/\bp (dk d1 3)<(↑(bn (bq (dk d1 0))):Int)then(JH N (dk d1 2) (dt (bq (dk d1 0)) (bo (bp (dk d1 3))) gj) (fun d2 m2=>(bif !decide (bp (dk d2 1)=0)then(k1 [bt 0,dk d2 1] [])else(k3 [dk d1 0,dk d1 1,dk d2 0,bt (bw ca (bp (dk d1 3)+1))] []))))else none)else(k2 [dk d1 2] []))
def Zw (a0:C) (k1:KD R):Option R:=jn (fun d1 m1=>(k1 [dk d1 0,bt 0] [])) (fun k2=>(BU N (Uv N k1 k2) [a0,bt (↑(bn (bq a0)):Int),bt 0,bt 0] []))
def ML:=lid "" (@Zw R N)
theorem qZ {R N a0 k}:@ML R N a0 k=Zw N a0 k:=by unfold ML;rw[Ag]
def q4r:OvG R:=BS [.slice 8 (.int .u64)] (Cw (ML N)) fun a K d1 m1=>K (qs [V.d (cg bu) (dk d1 0),V.d (cg ca) (dk d1 1)]) []
theorem Zv:okX 49 (@q4r R N):=BW (AP (Uu N) <| Ah) N [] [(49,[([1,0,1,1],(Bc [(4,.d (.int .u64))])),
  ([4,1,0,1,1],(Bm [8,9] [(4,.d (.int .u64)),(10,.d (.int .i64))])),
  ([9],(Bc [(2,.d (.int .u64)),(3,.d (.int .i64))]))])] (fun _ _=>qZ)
section
variable {R:Type} {N:Nat}
def Bq (a b:Int):Int × Int:=if(a+b) / 18446744073709551616=0 then((a+b)%18446744073709551616,0)else(0,11)
def CZ (a b:Int):Int × Int:=if a<b then(0,12)else(IntKind.u64.wrap (a-b),0)
theorem add_eq (a b:C) (k:KD R):JH N a b k=k [.int (Bq a.toInt b.toInt).1,.int (Bq a.toInt b.toInt).2] []:=by rw[qW];unfold Zs Bq;by_cases h:(a.toInt+b.toInt) / 18446744073709551616=0 <;> simp[h]
theorem sub_eq (a b:C) (k:KD R):Jw N a b k=k [.int (CZ a.toInt b.toInt).1,.int (CZ a.toInt b.toInt).2] []:=by rw[qY];unfold Zu CZ;by_cases h:a.toInt<b.toInt <;> simp[h]
def LU (_:Nat) (s:Int) (c:C):Int ⊕ Int:=if(Bq s c.toInt).2=0 then .inl (Bq s c.toInt).1 else .inr (Bq s c.toInt).2
def Mh:Int ⊕ Int->Int × Int
 | .inl s=>(s,0)| .inr e=>(0,e)
def EU (l:List C):Int × Int:=Mh (CI LU 0 0 l)
theorem dI (c:C) (hl:c.elems.length<2199023255552) (hN:2199023255552<N) (k:KD R):ML N c k=k [.int (EU c.elems).1,.int (EU c.elems).2] []:=by
 rw[qZ];unfold Zw;rw[AZ];refine(Ju (F:=Uv N k _) (fun i (s:Int)=>[c,.int c.elems.length,.int s,.int i]) (fun _ _=>[]) c.elems LU (fun s=>k [.int s,.int 0] []) (fun e=>k [.int 0,.int e] []) ?_ ?_ (by omega)).trans ?_
 ·intro i s x hx hi rec;have h1:(i:Int)<(c.elems.length:Int):=by omega
  unfold Uv LU;simp only[go_sem,AF,h1,add_eq,Ck (show i<4611686018427387904 by omega),dd,and_self,if_true,Gi hx];by_cases h:(Bq s x.toInt).2=0 <;> simp[h]
 ·intro s rec;unfold Uv;simp only[go_sem,AF,fq,if_false]
 ·unfold EU FW Mh;cases CI LU 0 0 c.elems <;> rfl
end
def VT {R:Type} (N:Nat) (a0:C) (k1:KD R):Option R:=jn (fun d1 m1=>(k1 [dv (ek (dk d1 0))] [])) (fun k2=>(bif decide (bp a0=0)then(k2 [dv true] [])else(k2 [dv (decide (bp a0=1))] [])))
def OV:=lid "" (@VT R N)
theorem bM {R N a0 k}:@OV R N a0 k=VT N a0 k:=by unfold OV;rw[Ag]
def q5H:OvG R:=BS [.int .i64] (Cw (OV N)) GN
theorem tZ:okX 164 (@q5H R N):=BW Ah N [] [(164,[([0,1],(Bc [(2,.d .bool)])),
  ([9],(Bc [(2,.d .bool)]))])] (fun _ _=>bM)
def VP {R:Type} (N:Nat) (k2:KD R):KD R->KD R:=fun k3 d1 m1=>(bif decide (bp (dk d1 4)<bp (dk d1 2))then(if 0<=bp (dk d1 4)/\bp (dk d1 4)<(↑(bn (bq (dk d1 1))):Int)then(jn (fun d2 m2=>(bif dj (bn (bq (dk d2 4))) (bn (bq (dk d2 4)))then(k3 [dk d2 0,dk d2 1,dk d2 2,cz (bq (dk d2 4)),bt (bw ca (bp (dk d2 3)+1))] [])else none)) (fun k4=>(bif decide (bp (cd (dt (bq (dk d1 1)) (bo (bp (dk d1 4))) gj) 1)=bp (dk d1 0))then(bif dj (bn (bq (dk d1 3))) (bn (bq (dk d1 3)))then(if(bn (bq (dk d1 3))+1)*8<=140737488355328/\bn (bq (dk d1 3))+1<=9223372036854775807 then(bif dj (bn (bq (dk d1 3))+1) (bn (bq (dk d1 3)++[cd (dt (bq (dk d1 1)) (bo (bp (dk d1 4))) gj) 2]))then(k4 [dk d1 0,dk d1 1,dk d1 2,dk d1 4,cz (bq (dk d1 3)++[cd (dt (bq (dk d1 1)) (bo (bp (dk d1 4))) gj) 2])] [])else none)else none)else none)else(bif dj (bn (bq (dk d1 3))) (bn (bq (dk d1 3)))then(k4 [dk d1 0,dk d1 1,dk d1 2,dk d1 4,cz (bq (dk d1 3))] [])else none))))else none)else(bif dj (bn (bq (dk d1 3))) (bn (bq (dk d1 3)))then(k2 [cz (bq (dk d1 3))] [])else none))
def bD (a0 a1:C) (k1:KD R):Option R:=jn (fun d1 m1=>(ML N (cz (bq (dk d1 0))) (fun d2 m2=>(k1 [dk d2 0,dk d2 1] [])))) (fun k2=>(BU N (VP N k2) [a1,cd a0 4,bt (↑(bn (bq (cd a0 4))):Int),cz [],bt 0] []))
def Ro:=lid "" (@bD R N)
theorem tN {R N a0 a1 k}:@Ro R N a0 a1 k=bD N a0 a1 k:=by unfold Ro;rw[Ag]
def q5w:OvG R:=BS [BV,.int .i64] (DY (Ro N)) fun a K d1 m1=>K (qs [V.d (cg bu) (dk d1 0),V.d (cg ca) (dk d1 1)]) []
theorem q5x:okX 176 (@q5w R N):=BW (AP (Zv N) <| Ah) N [(176,[(0,[(2,5)])])] [(176,[([1,0,1,1],(Bc [(6,.sl 8 (.int .u64) 5006)])),
  ([4,1,0,1,1],(Bm [1,10,11] [(6,.sl 8 (.int .u64) 5006),(12,.d (.int .i64))])),
  ([1,1,4,0,1,1,5,4,1,0,1,1],(Bm [1,10,11,12] [(6,.sl 8 (.int .u64) 5006)])),
  ([9],(Bc [(4,.d (.int .u64)),(5,.d (.int .i64))]))])] (fun _ _=>tN)
def bF {R:Type} (N:Nat) (a0:C) (k1:KD R):Option R:=k1 [bt (bw ca (1-bp a0))] []
def VQ:=lid "" (@bF R N)
theorem tT {R N a0 k}:@VQ R N a0 k=bF N a0 k:=by unfold VQ;rw[Ag]
def q5z:OvG R:=BS [.int .i64] (Cw (VQ N)) (Ca (cg ca))
theorem q5A:okX 177 (@q5z R N):=BW Ah N [] [(177,[([9],(Bc [(2,.d (.int .i64))]))])] (fun _ _=>tT)
def VO (k1:KD R) (k2:KD R):KD R->KD R:=fun k3 d5 m5=>(bif decide (bp (dk d5 3)<bp (dk d5 1))then(if 0<=bp (dk d5 3)/\bp (dk d5 3)<(↑(bn (bq (dk d5 0))):Int)then(Jw N (dk d5 2) (dt (bq (dk d5 0)) (bo (bp (dk d5 3))) gj) (fun d6 m6=>(bif !decide (bp (dk d6 1)=0)then(k1 [bt 0,dk d6 1] [])else(k3 [dk d5 0,dk d5 1,dk d6 0,bt (bw ca (bp (dk d5 3)+1))] []))))else none)else(k2 [dk d5 2] []))
def bC (a0 a1 a2:C) (k1:KD R):Option R:=OV N a2 (fun d1 m1=>(bif !ek (dk d1 0)then(k1 [bt 0,bt 1] [])else(Ro N a0 a2 (fun d2 m2=>(bif !decide (bp (dk d2 1)=0)then(k1 [bt 0,dk d2 1] [])else(if 0<=bp a2/\bp a2<2 then(VQ N a2 (fun d3 m3=>(if 0<=bp (dk d3 0)/\bp (dk d3 0)<2 then(ML N (cz [cd a1 (bo (bp a2)),cd (cd a0 2) (bo (bp (dk d3 0)))]) (fun d4 m4=>(bif !decide (bp (dk d4 1)=0)then(k1 [bt 0,dk d4 1] [])else(if 0<=bp a2/\bp a2<2 then(if 0<=bp a2/\bp a2<2 then(jn (fun d5 m5=>(k1 [dk d5 0,bt 0] [])) (fun k2=>(BU N (VO N k1 k2) [cz [cd (cd a0 2) (bo (bp a2)),cd (cd a0 3) (bo (bp a2)),dk d2 0],bt (↑3:Int),dk d4 0,bt 0] [])))else none)else none))))else none)))else none))))))
def OS:=lid "" (@bC R N)
theorem tM {R N a0 a1 a2 k}:@OS R N a0 a1 a2 k=bC N a0 a1 a2 k:=by unfold OS;rw[Ag]
def q5v:OvG R:=BS [BV,.arr 2 (.int .u64),.int .i64] (Ip (OS N)) fun a K d1 m1=>K (qs [V.d (cg bu) (dk d1 0),V.d (cg ca) (dk d1 1)]) []
theorem tL:okX 161 (@q5v R N):=BW (AP (Zv N) <| AP (RV N) <| AP (tZ N) <| AP (q5x N) <| AP (q5A N) <| Ah) N [(161,[(0,[(3,5),(4,5)]),(6,[(30,7),(35,7)])])] [(161,[([1,0,1,1,1,1,1,1],(Bc [(10,.d (.int .u64))])),
  ([4,1,0,1,1,1,1,1,1],(Bm [50,51] [(10,.d (.int .u64)),(52,.d (.int .i64))])),
  ([9],(Bc [(6,.d (.int .u64)),(7,.d (.int .i64))]))])] (fun _ _=>tM)
def VN {R:Type} (N:Nat) (a1:C) (k2:KD R) (k3:KD R):KD R->KD R:=fun k4 d1 m1=>(bif decide (bp (dk d1 2)<bp (dk d1 1))then(if 0<=bp (dk d1 2)/\bp (dk d1 2)<(↑(bn (bq (dk d1 0))):Int)then(jn (fun d2 m2=>(bif ek (dk d2 0)then(k2 [dk d1 2] [])else(k4 [dk d1 0,dk d1 1,bt (bw ca (bp (dk d1 2)+1))] []))) (fun k5=>(k5 [dv (decide (bp (cd (dt (bq (dk d1 0)) (bo (bp (dk d1 2))) gj) 0)=bp a1))] [])))else none)else(k3 [] []))
def bB (a0 a1:C) (k1:KD R):Option R:=jn (fun d1 m1=>(k1 [dk d1 0] [])) (fun k2=>(jn (fun d1 m1=>(k2 [bt (-1)] [])) (fun k3=>(BU N (VN N a1 k2 k3) [cd a0 4,bt (↑(bn (bq (cd a0 4))):Int),bt 0] []))))
def Rn:=lid "" (@bB R N)
theorem tJ {R N a0 a1 k}:@Rn R N a0 a1 k=bB N a0 a1 k:=by unfold Rn;rw[Ag]
def q5t:OvG R:=BS [BV,.int .u64] (DY (Rn N)) (Ca (cg ca))
theorem q5u:okX 165 (@q5t R N):=BW Ah N [(165,[(0,[(2,5)])]),(183,[(0,[(2,5)])])] [(165,[([9],(Bc [(4,.d (.int .i64))]))]),(182,[([1,0,1],⟨[],[],[],[],[.g (.l 3)],[]⟩),([4,1,0,1],⟨[0,1,7],[(8,.d (.int .i64))],[],[],[.g (.l 3)],[]⟩),([9],⟨[],[(4,.d (.int .i64))],[],[],[.g (.l 3)],[]⟩)]),(183,[([9],(Bc [(3,.d .bool)]))])] (fun _ _=>tJ)
def Rq (k1:KD R) (k2:KD R):KD R->KD R:=fun k3 d3 m3=>(bif decide (bp (dk d3 3)<2)then(if 0<=bp (dk d3 3)/\bp (dk d3 3)<2 then(OS N (dk d3 0) (dk d3 1) (cd (dk d3 2) (bo (bp (dk d3 3)))) (fun d4 m4=>(bif !decide (bp (dk d4 1)=0)then(k1 [dk d4 1] [])else(k3 [dk d3 0,dk d3 1,dk d3 2,bt (bw ca (bp (dk d3 3)+1))] []))))else none)else(k2 [] []))
def VR (k1:KD R) (k2:KD R):KD R->KD R:=fun k3 d2 m2=>(bif decide (bp (dk d2 4)<bp (dk d2 3))then(if 0<=bp (dk d2 4)/\bp (dk d2 4)<(↑(bn (bq (dk d2 2))):Int)then(jn (fun d3 m3=>(bif ek (dk d3 6)then(k1 [bt 1] [])else(Rn N (dk d3 0) (cd (dk d3 7) 0) (fun d4 m4=>(bif !decide (bp (dk d4 0)=bp (dk d3 2))then(k1 [bt 7] [])else(k3 [dk d3 0,dk d3 1,dk d3 3,dk d3 4,bt (bw ca (bp (dk d3 5)+1))] [])))))) (fun k4=>(OV N (cd (dt (bq (dk d2 2)) (bo (bp (dk d2 4))) gj) 1) (fun d3 m3=>(bif !ek (dk d3 0)then(k4 [dk d2 0,dk d2 1,dk d2 4,dk d2 2,dk d2 3,dk d2 4,dv true,dt (bq (dk d2 2)) (bo (bp (dk d2 4))) gj] [])else(k4 [dk d2 0,dk d2 1,dk d2 4,dk d2 2,dk d2 3,dk d2 4,dv (decide (bp (cd (dt (bq (dk d2 2)) (bo (bp (dk d2 4))) gj) 2)=0)),dt (bq (dk d2 2)) (bo (bp (dk d2 4))) gj] []))))))else none)else(k2 [dk d2 0,dk d2 1] []))
def bH (a0 a1:C) (k1:KD R):Option R:=jn (fun d1 m1=>(bif ek (dk d1 2)then(k1 [bt 8] [])else(jn (fun d2 m2=>(jn (fun d3 m3=>(k1 [bt 0] [])) (fun k2=>(BU N (Rq N k1 k2) [dk d2 0,dk d2 1,dp (dp (AL (dc 2 (cg ca))) 0 (bt 0)) 1 (bt 1),bt 0] [])))) (fun k2=>(BU N (VR N k1 k2) [dk d1 0,dk d1 1,cd (dk d1 0) 4,bt (↑(bn (bq (cd (dk d1 0) 4))):Int),bt 0] []))))) (fun k2=>(bif decide (200<bp (cd a0 1))then(k2 [a0,a1,dv true] [])else(k2 [a0,a1,dv (decide (8<(↑(bn (bq (cd a0 4))):Int)))] [])))
def OU:=lid "" (@bH R N)
theorem tW {R N a0 a1 k}:@OU R N a0 a1 k=bH N a0 a1 k:=by unfold OU;rw[Ag]
def q5D:OvG R:=BS [BV,.arr 2 (.int .u64)] (DY (OU N)) (Ca (cg ca))
theorem tV:okX 149 (@q5D R N):=BW (AP (tL N) <| AP (tZ N) <| AP (q5u N) <| Ah) N [(149,[(0,[(2,5),(3,5)])])] [(149,[([0,0,1],(Bm [2,3] [(19,.d .bool)])),
  ([1,0,1,1],(Bm [2,3] [])),
  ([4,1,0,1,1],(Bm [2,3,21,22] [(23,.d (.int .i64))])),
  ([0,4,1,4,0,1,1,5,4,1,0,1,1],(Bm [2,3,5,6,21,22,23] [(28,.d .bool)])),
  ([1,0,1,1,1],(Bc [])),
  ([4,1,0,1,1,1],(Bm [2,3,46] [(47,.d (.int .i64))])),
  ([9],(Bc [(4,.d (.int .i64))]))])] (fun _ _=>tW)
def Rr {R:Type} (N:Nat) (k4:KD R):KD R->KD R:=fun k5 d5 m5=>(bif decide (bp (dk d5 9)<bp (dk d5 7))then(if 0<=bp (dk d5 9)/\bp (dk d5 9)<(↑(bn (bq (dk d5 6))):Int)then(if 0<=bp (dk d5 9)/\bp (dk d5 9)<(↑(bn (bq (dk d5 0))):Int)then(jn (fun d6 m6=>(bif dj (bn (bq (dk d6 9))) (bn (bq (dk d6 9)))then(k5 [dk d6 0,dk d6 1,dk d6 2,dk d6 3,dk d6 4,dk d6 5,dk d6 6,dk d6 7,cz (bq (dk d6 9)),bt (bw ca (bp (dk d6 8)+1)),dk d6 10,dk d6 11] [])else none)) (fun k6=>(bif !decide (bp (cd (dt (bq (dk d5 6)) (bo (bp (dk d5 9))) gj) 1)=bp (dk d5 4))==ek (dt (bq (dk d5 0)) (bo (bp (dk d5 9))) gj)then(bif dj (bn (bq (dk d5 8))) (bn (bq (dk d5 8)))then(if(bn (bq (dk d5 8))+1)*8<=140737488355328/\bn (bq (dk d5 8))+1<=9223372036854775807 then(bif dj (bn (bq (dk d5 8))+1) (bn (bq (dk d5 8)++[cd (dt (bq (dk d5 6)) (bo (bp (dk d5 9))) gj) 2]))then(k6 [dk d5 0,dk d5 1,dk d5 2,dk d5 3,dk d5 4,dk d5 5,dk d5 6,dk d5 7,dk d5 9,cz (bq (dk d5 8)++[cd (dt (bq (dk d5 6)) (bo (bp (dk d5 9))) gj) 2]),dk d5 10,dk d5 11] [])else none)else none)else none)else(bif dj (bn (bq (dk d5 8))) (bn (bq (dk d5 8)))then(k6 [dk d5 0,dk d5 1,dk d5 2,dk d5 3,dk d5 4,dk d5 5,dk d5 6,dk d5 7,dk d5 9,cz (bq (dk d5 8)),dk d5 10,dk d5 11] [])else none))))else none)else none)else(bif dj (bn (bq (dk d5 8))) (bn (bq (dk d5 8)))then(k4 [dk d5 0,dk d5 1,dk d5 2,dk d5 3,dk d5 4,dk d5 5,cz (bq (dk d5 8)),dk d5 10,dk d5 11] [])else none))
def VS (k1:KD R) (k2:KD R):KD R->KD R:=fun k3 d2 m2=>(bif decide (bp (dk d2 4)<2)then(OS N (dk d2 1) (dk d2 2) (dk d2 4) (fun d3 m3=>(if 0<=bp (dk d2 4)/\bp (dk d2 4)<2 then(if 0<=bp (dk d2 4)/\bp (dk d2 4)<2 then(Jw N (cd (cd (dk d2 1) 3) (bo (bp (dk d2 4)))) (cd (dk d2 3) (bo (bp (dk d2 4)))) (fun d4 m4=>(bif !decide (bp (dk d4 1)=0)then(k1 [dk d4 1,AL (dc 2 (cg bu))] [])else(jn (fun d5 m5=>(ML N (cz (bq (dk d5 6))) (fun d6 m6=>(if 0<=bp (dk d5 4)/\bp (dk d5 4)<2 then(bif !decide (bp (dk d6 1)=0)then(k1 [dk d6 1,AL (dc 2 (cg bu))] [])else(k3 [dk d5 0,dk d5 1,dk d5 2,dk d5 3,bt (bw ca (bp (dk d5 5)+1)),dk d5 7,dp (dk d5 8) (bo (bp (dk d5 4))) (dk d6 0)] []))else none)))) (fun k4=>(BU N (Rr N k4) [dk d2 0,dk d2 1,dk d2 2,dk d2 3,dk d2 4,dk d2 4,cd (dk d2 1) 4,bt (↑(bn (bq (cd (dk d2 1) 4))):Int),cz [dk d3 0,dk d4 0],bt 0,dk d2 5,dk d2 6] []))))))else none)else none)))else(k2 [dk d2 5,dk d2 6] []))
def bI (a0 a1 a2 a3:C) (k1:KD R):Option R:=OU N a0 a1 (fun d1 m1=>(bif !decide (bp (dk d1 0)=0)then(k1 [dk d1 0,AL (dc 2 (cg bu))] [])else(bif !decide ((↑(bn (bq a3)):Int)=(↑(bn (bq (cd a0 4))):Int))then(k1 [bt 1,AL (dc 2 (cg bu))] [])else(jn (fun d2 m2=>(k1 [bt 0,dk d2 1] [])) (fun k2=>(BU N (VS N k1 k2) [a3,a0,a1,a2,bt 0,AL (dc 2 (cg bu)),AL (dc 2 (cg bu))] []))))))
def Rs:=lid "" (@bI R N)
theorem tX {R N a0 a1 a2 a3 k}:@Rs R N a0 a1 a2 a3 k=bI N a0 a1 a2 a3 k:=by unfold Rs;rw[Ag]
def q5E:OvG R:=BS [BV,.arr 2 (.int .u64),.arr 2 (.int .u64),.slice 1 .bool] (fun a=>Rs N (a 0) (a 1) (a 2) (a 3)) fun a K d1 m1=>K (qs [V.d (dc 2 (cg bu)) (dk d1 1),V.d (cg ca) (dk d1 0)]) []
theorem q5F:okX 147 (@q5E R N):=BW (AP (Zv N) <| AP (RV N) <| AP (tV N) <| AP (tL N) <| Ah) N [(147,[(0,[(4,5),(5,5),(6,5)]),(14,[(61,4)]),(11,[(52,7)]),(18,[(19,6)])])] [(147,[([1,0,1,1,1,1],(Bm [8,11] [])),
  ([4,1,0,1,1,1,1],(Bm [3,4,5,6,8,11] [(34,.d (.int .i64))])),
  ([1,0,1,1,1,1,1,4,0,1,1,5,4,1,0,1,1,1,1],(Bm [3,4,5,6,8,11,12,34] [(17,.sl 8 (.int .u64) 5017)])),
  ([4,1,0,1,1,1,1,1,4,0,1,1,5,4,1,0,1,1,1,1],(Bm [3,4,5,6,8,11,12,34,63,64] [(17,.sl 8 (.int .u64) 5017),(65,.d (.int .i64))])),
  ([1,1,4,0,1,1,5,4,1,0,1,1,1,1,1,4,0,1,1,5,4,1,0,1,1,1,1],(Bm [3,4,5,6,8,11,12,34,63,64,65] [(17,.sl 8 (.int .u64) 5017)])),
  ([9],⟨[],[(8,.as (.ptr (.l 8) [] (.arr 2 (.int .u64)))),(9,.d (.int .i64))],[],[(.l 8,.box (.d (.arr 2 (.int .u64))))],[],[]⟩)])] (fun _ _=>tX)
section
variable {R:Type} {N:Nat}
theorem q2z (a:C) (k:KD R):OV N a k=k [.bool (decide (a.toInt=0\/a.toInt=1))] []:=by rw[bM];unfold VT;by_cases h:a.toInt=0 <;> simp[h,go_sem,AW]
def BK (s:C):List C:=(s.get 4).elems
def Jm (side:Int) (l:List C):List C:=(l.filter fun c=>decide ((c.get 1).toInt=side)).map fun c=>c.get 2
def Jn (s:C) (side:Int):Int × Int:=EU (Jm side (BK s))
theorem q2f {side:Int} {l:List C} {i:Nat} {c:C} (h:l[i]? =some c):Jm side (l.take (i+1))=Jm side (l.take i)++(if(c.get 1).toInt=side then[c.get 2]else[]):=by unfold Jm;rw[qn,h,Option.toList_some,List.filter_append,List.map_append];by_cases hs:(c.get 1).toInt=side <;> simp[hs]
theorem mX {side:Int} {l:List C} {i:Nat}:(Jm side (l.take i)).length<=i:=by unfold Jm;rw[List.length_map];exact Nat.le_trans (List.length_filter_le _ _) (by rw[List.length_take];omega)
theorem q2e (s side:C) (hl:(BK s).length<1099511627776) (hN:2199023255552<N) (k:KD R):Ro N s side k=k [.int (Jn s side.toInt).1,.int (Jn s side.toInt).2] []:=by
 rw[tN];unfold bD;rw[AZ];refine Jt (F:=VP N _) (fun i=>[side,s.get 4,.int (BK s).length,.slice (Jm side.toInt ((BK s).take i)),.int i]) (fun _=>[]) (BK s).length _ ?_ ?_ (by omega)
 ·intro i hi rec;have hc:(BK s)[i]? =some (BK s)[i]:=cq hi;have h1:(i:Int)<((BK s).length:Int):=by omega
  have h2:=mX (side:=side.toInt) (l:=BK s) (i:=i);have h3:((Jm side.toInt ((BK s).take i)).length+1)*8<=140737488355328/\(Jm side.toInt ((BK s).take i)).length+1<=9223372036854775807:=by omega
  have hd:(s.get 4).elems.getD i .nil=(BK s)[i]:=Gi hc;have hs:(s.get 4).elems.length=(BK s).length:=rfl;unfold VP;simp only[go_sem,AF,Ac,hs,h1,hd,Ck (show i<4611686018427387904 by omega),dd,and_self,AG,h3,ct,q2f hc];by_cases h:((BK s)[i].get 1).toInt=side.toInt;{simp[h]};{simp[h]}
 ·intro rec;unfold VP;simp only[go_sem,AF,Ac,fq,AG,ct,ei];have h2:=mX (side:=side.toInt) (l:=BK s) (i:=(BK s).length);rw[ei]at h2;rw[dI _ (by rw[Ac];omega) hN];rfl
def WB (_:Nat) (s:Int) (c:C):Int ⊕ Int:=if(CZ s c.toInt).2=0 then .inl (CZ s c.toInt).1 else .inr (CZ s c.toInt).2
def Hc (s put:C) (side:Int):Int × Int:=
 if side≠0/\side≠1 then(0,1)else if(Jn s side).2≠0 then(0,(Jn s side).2)else
  if(EU [put.get side.toNat,(s.get 2).get (1-side).toNat]).2≠0 then(0,(EU [put.get side.toNat,(s.get 2).get (1-side).toNat]).2)else
   Mh (CI WB 0 (EU [put.get side.toNat,(s.get 2).get (1-side).toNat]).1 [(s.get 2).get side.toNat,(s.get 3).get side.toNat,.int (Jn s side).1])
theorem mG (s put side:C) (hl:(BK s).length<1099511627776) (hN:2199023255552<N) (k:KD R):OS N s put side k=k [.int (Hc s put side.toInt).1,.int (Hc s put side.toInt).2] []:=by
 rw[tM];unfold bC Hc;rw[bM];unfold VT;by_cases hs:side.toInt≠0/\side.toInt≠1;{simp[hs.1,hs.2,go_sem,AF,AW]}
 ·have hs':side.toInt=0\/side.toInt=1:=by omega
  have h2:0<=side.toInt/\side.toInt<2:=by omega
  have h3:0<=(1-side.toInt)/\(1-side.toInt)<2:=by omega
  have w:IntKind.i64.wrap (1-side.toInt)=1-side.toInt:=IntWalk.i64_in _ (by omega);have hb:(bif decide (side.toInt=0)then true else decide (side.toInt=1))=true:=by rcases hs' with h|h <;> simp[h]
  have e:∀K:KD R,(bif decide (side.toInt=0)then K [.bool true] []else K [.bool (decide (side.toInt=1))] [])=K [.bool true] []:=fun K=>by rcases hs' with h|h <;> simp[h]
  rw[if_neg hs];simp only[go_sem,AF,AW,e,q2e s side hl hN,AG,h2,and_self,tT,bF,w,h3];by_cases h4:(Jn s side.toInt).2=0
  ·simp only[h4,AG,ne_eq,not_true];rw[dI _ (by simp[bq]) hN];simp only[go_sem,AF,Ac];by_cases h5:(EU [put.get side.toInt.toNat,(s.get 2).get (1-side.toInt).toNat]).2=0
   ·simp only[h5,AG,ne_eq,not_true]
    refine(Ju (F:=VO N k _) (fun i (x:Int)=>[.slice [(s.get 2).get side.toInt.toNat,(s.get 3).get side.toInt.toNat,.int (Jn s side.toInt).1],.int 3,.int x,.int i]) (fun _ _=>[])
     [(s.get 2).get side.toInt.toNat,(s.get 3).get side.toInt.toNat,.int (Jn s side.toInt).1] WB (fun s=>k [.int s,.int 0] []) (fun e=>k [.int 0,.int e] []) ?_ ?_ (by simp;omega)).trans ?_
    ·intro i x c hx hi rec;have hi3:i<3:=hi;have h1:(i:Int)<3:=by omega
     have hlen:(i:Int)<((0+1+1+1:Nat):Int):=by omega
     unfold VO WB;simp only[go_sem,AF,Ac,h1,sub_eq,Ck (show i<4611686018427387904 by omega),dd,and_self,if_true,Gi hx,dq,dw,hlen];by_cases h:(CZ x c.toInt).2=0 <;> simp[h]
    ·intro x rec;unfold VO;simp only[go_sem,AF,Ac];simp
    ·unfold FW Mh;cases CI WB 0 (EU [put.get side.toInt.toNat,(s.get 2).get (1-side.toInt).toNat]).1 [(s.get 2).get side.toInt.toNat,(s.get 3).get side.toInt.toNat,.int (Jn s side.toInt).1] <;> rfl
   ·simp[h5]
  ·simp[h4]
def zz2:C:=.agg [.int 0,.int 1]
def findF (id:Int) (i:Nat) (_:Unit) (c:C):Unit ⊕ Nat:=if(c.get 0).toInt=id then .inr i else .inl ()
def uG:Unit ⊕ Nat->Int
 | .inl _=>-1| .inr i=>i
def QR (s:C) (id:Int):Int:=uG (CI (findF id) 0 () (BK s))
theorem find_eq (s id:C) (hl:(BK s).length<1099511627776) (hN:2199023255552<N) (k:KD R):Rn N s id k=k [.int (QR s id.toInt)] []:=by
 rw[tJ];unfold bB;rw[AZ,AZ];refine(Ju (F:=VN N id _ _) (fun i (_:Unit)=>[s.get 4,.int (BK s).length,.int i]) (fun _ _=>[]) (BK s) (findF id.toInt) (fun _=>k [.int (-1)] []) (fun i=>k [.int i] []) (s0:=()) ?_ ?_ (by omega)).trans ?_
 ·intro i _ c hx hi rec;have h1:(i:Int)<((BK s).length:Int):=by omega
  have hd:(s.get 4).elems.getD i .nil=c:=Gi hx;have hs:(s.get 4).elems.length=(BK s).length:=rfl;unfold VN findF;simp only[go_sem,AF,AW,hs,h1,hd,Ck (show i<4611686018427387904 by omega),dd,and_self,if_true];by_cases h:(c.get 0).toInt=id.toInt <;> simp[h]
 ·intro _ rec;unfold VN;simp only[go_sem,AF,fq,if_false]
 ·unfold QR FW uG;cases CI (findF id.toInt) 0 () (BK s) <;> rfl
def Vy (s:C) (i:Nat) (_:Unit) (c:C):Unit ⊕ Int:=
 if((c.get 1).toInt≠0/\(c.get 1).toInt≠1)\/(c.get 2).toInt=0 then .inr 1 else if QR s (c.get 0).toInt=i then .inl ()else .inr 7
def Nr (s put:C) (_:Nat) (_:Unit) (side:Int):Unit ⊕ Int:=if(Hc s put side).2=0 then .inl ()else .inr (Hc s put side).2
def okE:Unit ⊕ Int->Int
 | .inl _=>0| .inr e=>e
def JO (s put:C):Int:=
 if 200<(s.get 1).toInt\/8<(BK s).length then 8 else match CI (Vy s) 0 () (BK s)with| .inl _=>okE (CI (Nr s put) 0 () [0,1])| .inr e=>e
theorem xA (s put:C) (hN:2199023255552<N) (k:KD R):OU N s put k=k [.int (JO s put)] []:=by
 rw[tW];have hz:dp (dp (AL (dc 2 (cg ca))) 0 (bt 0)) 1 (bt 1)=zz2:=rfl;unfold bH JO;rw[hz];by_cases h1:200<(s.get 1).toInt;{simp[h1,go_sem,AF,AW]};have h8e:((8:Int)<(((s.get 4).elems.length:Nat):Int))=(8<(BK s).length):=by show((8:Int)<(((BK s).length:Nat):Int))=_;exact propext ⟨fun h=>by omega,fun h=>by omega⟩
 by_cases h2:8<(BK s).length;{simp only[h1,h2,go_sem,AF,AW,h8e,or_true,if_true]};have hl:(BK s).length<1099511627776:=by omega
 have key:∀k':KD R,BU N (Rq N k k') [s,put,zz2,.int 0] []=FW (fun _=>k' [] []) (fun e=>k [.int e] []) (CI (Nr s put) 0 () [0,1]):=by
  intro k';refine Ju (F:=Rq N k k') (fun i (_:Unit)=>[s,put,zz2,.int i]) (fun _ _=>[]) [0,1] (Nr s put) (fun _=>k' [] []) (fun e=>k [.int e] []) (s0:=()) ?_ ?_ (by simp;omega)
  ·intro i _ c hx hi rec;have hi2:i<2:=hi;have h1:(i:Int)<2:=by omega
   have hc:zz2.get i= .int c:=by
    have:i=0\/i=1:=by omega
    rcases this with rfl|rfl <;> simp at hx <;> subst hx <;> rfl
   unfold Rq Nr;simp only[go_sem,AF,h1,hc,mG s put _ hl hN,Ck (show i<4611686018427387904 by omega),dd,and_self,if_true];by_cases h:(Hc s put c).2=0 <;> simp[h]
  ·intro _ rec;unfold Rq;simp[go_sem,AF]
 have hor:¬(200<(s.get 1).toInt\/8<(BK s).length):=by omega
 rw[if_neg hor];simp only[h1,h2,go_sem,AF,AW,h8e,AG];refine(Ju (F:=VR N k _) (fun i (_:Unit)=>[s,put,s.get 4,.int (BK s).length,.int i]) (fun _ _=>[]) (BK s) (Vy s) (fun _=>k [.int (okE (CI (Nr s put) 0 () [0,1]))] []) (fun e=>k [.int e] []) (s0:=()) ?_ ?_ (by omega)).trans ?_
 ·intro i _ c hx hi rec;have h1:(i:Int)<((BK s).length:Int):=by omega
  have hd:(s.get 4).elems.getD i .nil=c:=Gi hx;have hs:(s.get 4).elems.length=(BK s).length:=rfl;unfold VR Vy;simp only[go_sem,AF,AW,hs,h1,hd,Ck (show i<4611686018427387904 by omega),dd,and_self,if_true,find_eq s _ hl hN,q2z];by_cases h3:(c.get 1).toInt=0;{by_cases h4:(c.get 2).toInt=0;{simp[h3,h4]};{by_cases h5:QR s (c.get 0).toInt=i <;> simp[h3,h4,h5]}};{by_cases h3':(c.get 1).toInt=1;{by_cases h4:(c.get 2).toInt=0;{simp[h3',h4]};{by_cases h5:QR s (c.get 0).toInt=i <;> simp[h3',h4,h5]}};{simp[h3,h3']}}
 ·intro _ rec;unfold VR;simp only[go_sem,AF,fq,AG,key];unfold FW okE;cases CI (Nr s put) 0 () [0,1] <;> rfl
 ·unfold FW;cases CI (Vy s) 0 () (BK s) <;> rfl
theorem q7c {s put:C} (h:JO s put=0):(BK s).length<=8/\(s.get 1).toInt<=200:=by unfold JO at h;split at h;{cases h};{omega}
def MX (done:List C) (side:Int) (j:Nat) (acc:List C) (c:C):List C ⊕ Unit:=.inl (if(!(decide ((c.get 1).toInt=side)==(done.getD j .nil).toBool))=true then acc++[c.get 2]else acc)
def ZN:List C ⊕ Unit->List C
 | .inl l=>l| .inr _=>[]
def MZ (done:List C) (side:Int) (acc l:List C):List C:=ZN (CI (MX done side) 0 acc l)
theorem vT {α σ:Type} {f:Nat->σ->α->σ ⊕ Unit} (g:Nat->σ->α->σ) (h:∀i s c,f i s c= .inl (g i s c)):∀(l:List α) (i:Nat) (s:σ),∃s',CI f i s l= .inl s'
 | [],_,s=>⟨s,rfl⟩|c::l,i,s=>by simp only[CI,h];exact vT g h l _ _
theorem q7d {done:List C} {s:C} (hd:done.length=(BK s).length) (hl:(BK s).length<=8) (hN:2199023255552<N) (sd:C) (hsd:sd= .slice done) (put wg a b out:C) (side:Nat) (acc:List C) (z5H:acc.length<=2) (k4:KD R):
  BU N (Rr N k4) [sd,s,put,wg,.int side,.int side,s.get 4,.int (BK s).length,.slice acc,.int 0,b,out] []=k4 [sd,s,put,wg,.int side,.int side,.slice (MZ done side acc (BK s)),b,out] []:=by
 subst hsd
 refine(Zc (F:=Rr N k4) (fun j (x:List C)=>[.slice done,s,put,wg,.int side,.int side,s.get 4,.int (BK s).length,.slice x,.int j,b,out]) (fun _ _=>[]) (BK s) (MX done side)
  (fun x=>k4 [.slice done,s,put,wg,.int side,.int side,.slice x,b,out] []) (fun _=>none) (fun j x=>x.length<=j+2) z5H ?_ ?_ (by omega)).trans ?_
 ·intro j x c hx hP;have hj:j<(BK s).length:=(List.getElem?_eq_some_iff.1 hx).1;refine⟨fun rec=>?_,fun x' hx'=>?_⟩
  ·have h1:(j:Int)<((BK s).length:Int):=by omega
   have h1d:(j:Int)<(done.length:Int):=by omega
   have hg:(s.get 4).elems.getD j .nil=c:=Gi hx;have hs:(s.get 4).elems.length=(BK s).length:=rfl;have h3:(x.length+1)*8<=140737488355328/\x.length+1<=9223372036854775807:=by omega
   unfold Rr MX;simp only[go_sem,AF,AW,Ac,hs,h1,h1d,hg,Ck (show j<4611686018427387904 by omega),dd,and_self,AG,ct,h3,da,dq,dw];cases h:(!(decide ((c.get 1).toInt=(side:Int))==(done.getD j .nil).toBool)) <;> simp only[AG,Bool.false_eq_true]
  ·unfold MX at hx';simp only[Sum.inl.injEq]at hx';subst hx';split;{simp;omega};{omega}
 ·intro x hP rec;unfold Rr;simp only[go_sem,AF,Ac,fq,AG,ct]
 ·obtain⟨x,hx⟩:=vT (f:=MX done side) _ (fun _ _ _=>rfl) (BK s) 0 acc;unfold MZ;rw[hx];rfl
def Vv (done:List C) (s put wg:C) (_:Nat) (out:C) (side:Nat):C ⊕ Int:=
 if(CZ ((s.get 3).get side).toInt (wg.get side).toInt).2≠0 then .inr (CZ ((s.get 3).get side).toInt (wg.get side).toInt).2 else
  if(EU (MZ done side [.int (Hc s put side).1,.int (CZ ((s.get 3).get side).toInt (wg.get side).toInt).1] (BK s))).2≠0 then .inr (EU (MZ done side [.int (Hc s put side).1,.int (CZ ((s.get 3).get side).toInt (wg.get side).toInt).1] (BK s))).2
  else .inl (out.set side (.int (EU (MZ done side [.int (Hc s put side).1,.int (CZ ((s.get 3).get side).toInt (wg.get side).toInt).1] (BK s))).1))
def zz:C:=.agg [.int 0,.int 0]
def wN:C ⊕ Int->Int × C
 | .inl out=>(0,out)| .inr e=>(e,zz)
def Gy (s put wg:C) (done:List C):Int × C:=
 if JO s put≠0 then(JO s put,zz)else if done.length≠(BK s).length then(1,zz)else wN (CI (Vv done s put wg) 0 zz [0,1])
theorem xB {done:List C} {side:Int}:∀(l:List C) (i:Nat) (acc:List C),(ZN (CI (MX done side) i acc l)).length<=acc.length+l.length
 | [],_,acc=>by simp[CI,ZN]
 |c::l,i,acc=>by simp only[CI,MX];refine Nat.le_trans (xB l _ _) ?_;split <;> simp <;> omega
theorem q7e (s put wg:C) (done:C) (hd:done= .slice done.elems) (hN:2199023255552<N) (k:KD R):Rs N s put wg done k=k [.int (Gy s put wg done.elems).1,(Gy s put wg done.elems).2] []:=by
 rw[tX];have hz:AL (dc 2 (cg bu))=zz:=rfl;unfold bI Gy;rw[hz,xA s put hN];by_cases h1:JO s put=0
 case neg=>simp[h1,go_sem,AF]
 by_cases h2:done.elems.length=(BK s).length
 case neg=>
  have h2':¬((done.elems.length:Int)=((s.get 4).elems.length:Int)):=fun h=>h2 (by show _=(s.get 4).elems.length;omega);simp only[h1,h2,h2',go_sem,AF,AG,ne_eq,not_true,not_false_iff]
 have hs:(s.get 4).elems.length=(BK s).length:=rfl;simp only[h1,h2,hs,go_sem,AF,AG,ne_eq,not_true];obtain⟨hl,_⟩:=q7c h1;refine(Ju (F:=VS N k _) (fun i (out:C)=>[done,s,put,wg,.int i,zz,out]) (fun _ _=>[]) ([0,1]:List Nat) (Vv done.elems s put wg) (fun out=>k [.int 0,out] []) (fun e=>k [.int e,zz] []) ?_ ?_ (show 2<N by omega)).trans ?_
 ·intro i out c hx hi rec;have hi2:i<2:=hi;have h1:(i:Int)<2:=by omega
  have hc:c=i:=by
   have:i=0\/i=1:=by omega
   rcases this with rfl|rfl <;> simp at hx <;> exact hx.symm
  subst hc;unfold VS Vv;simp only[go_sem,AF,h1,mG s put _ (by omega) hN,Ck (show c<4611686018427387904 by omega),dd,and_self,if_true,sub_eq];by_cases h3:(CZ ((s.get 3).get c).toInt (wg.get c).toInt).2=0
  case neg=>simp[h3,hz]
  have:=fun(b out:C) (k4:KD R)=>q7d (N:=N) (s:=s) h2 hl hN done hd put wg zz b out c [.int (Hc s put c).1,.int (CZ ((s.get 3).get c).toInt (wg.get c).toInt).1] (by simp) k4;simp only[h3,AG,ne_eq,not_true];rw[hs,this];have hlen:=xB (done:=done.elems) (side:=(c:Int)) (BK s) 0 [.int (Hc s put c).1,.int (CZ ((s.get 3).get c).toInt (wg.get c).toInt).1];rw[dI _ (by simp only[go_sem,Ac];unfold MZ;simp at hlen;omega) hN];simp only[go_sem,AF,Ac,h1,dd,and_self,if_true,Ck (show c<4611686018427387904 by omega)];by_cases h4:(EU (MZ done.elems c [.int (Hc s put c).1,.int (CZ ((s.get 3).get c).toInt (wg.get c).toInt).1] (BK s))).2=0 <;> simp[h4,hz]
 ·intro out rec;unfold VS;simp[go_sem,AF]
 ·unfold FW wN;cases CI (Vv done.elems s put wg) 0 zz [0,1] <;> rfl
end
def Y2:List Sh:=[.as (.ptr (.g (.l 1)) [] DG),.d (.int .i64)]
def Y4:List (Key × OSh):=[(.l 1,.box (.agg DG [.vec (.g (.l 2)) 8 (.int .u64),.d (.int .i64)])),(.l 2,.box (.arr (.int .u64)))]
def XP {R:Type} (N:Nat) (a0 b0 b1 b2:C) (k1:KD R):Option R:=jn (fun d1 m1=>(if bn (bq (dk d1 3))=bn (bq (dk d1 3))then(k1 [bt (↑(bo (bp (dk d1 0))):Int),dk d1 1,bt (↑(bo (bp (dk d1 2))):Int),dk d1 3] [])else none)) (fun k2=>(bif decide (bp b1=0)then(if bn (bq b2)=bn (bq b2)then(k2 [bt (↑(bo (bp b0)):Int),a0,bt (↑(bn (bq b2)):Int),b2] [])else none)else(if bn (bq b2)=bn (bq b2)then(k2 [bt (↑(bo (bp b0)):Int),b1,bt (↑(bn (bq b2)):Int),b2] [])else none)))
def IJ:=lid "" (@XP R N)
theorem iK {R N a0 b0 b1 b2 k}:@IJ R N a0 b0 b1 b2 k=XP N a0 b0 b1 b2 k:=by unfold IJ;rw[Ag]
def Y3:OvG R:=CP Y2 Y4 (fun ds ms=>IJ N (dk ds 0) (dk ds 1) (dk ds 2) (dk ds 3)) fun ds ms K d1 m1=>K (qs []) [(ej (dg 1),
  O.box
   (V.agg DG
    [V.sr (dg 1000000000074) [] 0 (bo (bp (dk d1 0))) none 8 (cg bu),
     V.d (cg ca) (dk d1 1)])),
 (ej (dg 2),O.dead (dc (bo (bp (dk d1 2))) (cg bu))),
 (dg 1000000000074,O.box (V.d (dc (bn (bq (dk d1 3))) (cg bu)) (dk d1 3)))]
theorem XO:okX 184 (@Y3 R N):=CT Ah N [] [(184,[([1],⟨[0],[],[.g (.l 1),.g (.l 2)],[],[],[(.int .u64)]⟩),
  ([9],⟨[],[],[.g (.l 1),.g (.l 2)],[],[],[(.int .u64)]⟩)])] (fun _ _ _=>iK)
def Y5:List Sh:=[.as (.ptr (.g (.l 1)) [] DG)]
def Y7:List (Key × OSh):=[(.l 1,.box (.agg DG [.vec (.g (.l 2)) 8 (.int .u64),.d (.int .i64)])),(.l 2,.box (.arr (.int .u64)))]
def TS (b0 b1 b2:C) (k1:KD R):Option R:=bif decide ((↑(bo (bp b0)):Int)=0)then(if bn (bq b2)=bn (bq b2)then(IJ N (bt 12) (bt (↑(bo (bp b0)):Int)) b1 b2 (fun d1 m1=>(if bn (bq (dk d1 3))=bn (bq (dk d1 3))then(k1 [bt 0,bt (↑(bo (bp (dk d1 0))):Int),dk d1 1,bt (↑(bo (bp (dk d1 2))):Int),dk d1 3] [])else none)))else none)else(if 0<=bw ca ((↑(bo (bp b0)):Int)-1)/\bw ca ((↑(bo (bp b0)):Int)-1)<(↑(bo (bp b0)):Int)then(if Int.ofNat 0<=0/\0<=bw ca ((↑(bo (bp b0)):Int)-1)/\bw ca ((↑(bo (bp b0)):Int)-1)<=(↑(bo (bp b0)):Int)then(if bn (bq b2)=bn (bq b2)then(k1 [cd b2 (0+bo (bw ca ((↑(bo (bp b0)):Int)-1))),bt (↑(bo (bw ca ((↑(bo (bp b0)):Int)-1)-0)):Int),b1,bt (↑(bn (bq b2)):Int),b2] [])else none)else none)else none)
def DZ:=lid "" (@TS R N)
theorem XQ {R N b0 b1 b2 k}:@DZ R N b0 b1 b2 k=TS N b0 b1 b2 k:=by unfold DZ;rw[Ag]
def Y6:OvG R:=CP Y5 Y7 (fun ds ms=>DZ N (dk ds 0) (dk ds 1) (dk ds 2)) fun ds ms K d1 m1=>K (V.d (cg bu) (dk d1 0)) [(ej (dg 1),
  O.box
   (V.agg DG
    [V.sr (dg 1000000000074) [] 0 (bo (bp (dk d1 1))) none 8 (cg bu),
     V.d (cg ca) (dk d1 2)])),
 (ej (dg 2),O.dead (dc (bo (bp (dk d1 3))) (cg bu))),
 (dg 1000000000074,O.box (V.d (dc (bn (bq (dk d1 4))) (cg bu)) (dk d1 4)))]
theorem iL:okX 166 (@Y6 R N):=CT (AP (XO N) <| Ah) N [] [(166,[([9],⟨[],[(2,.d (.int .u64))],[.g (.l 1),.g (.l 2)],[],[],[(.int .u64)]⟩)])] (fun _ _ _=>XQ)
def Y8:List Sh:=[.as (.ptr (.g (.l 1)) [] DG),.d (.slice 8 (.int .u64))]
def X1:List (Key × OSh):=[(.l 1,.box (.agg DG [.vec (.g (.l 2)) 8 (.int .u64),.d (.int .i64)])),(.l 2,.box (.arr (.int .u64)))]
def XR (k1:KD R) (k2:KD R):KD R->KD R:=fun k3 d1 m1=>(bif decide (bp (dk d1 2)<bp (dk d1 1))then(if 0<=bp (dk d1 2)/\bp (dk d1 2)<(↑(bn (bq (dk d1 0))):Int)then(bif decide (32<=(↑(bo (bp (dk d1 3))):Int))then(if bn (bq (dk d1 6))=bn (bq (dk d1 6))then(IJ N (bt 4) (bt (↑(bo (bp (dk d1 3))):Int)) (dk d1 4) (dk d1 6) (fun d2 m2=>(if bn (bq (dk d2 3))=bn (bq (dk d2 3))then(k1 [bt (↑(bo (bp (dk d2 0))):Int),dk d2 1,bt (↑(bo (bp (dk d1 5))):Int),dk d2 3] [])else none)))else none)else(if(bo (bp (dk d1 3))+1)*8<=140737488355328/\bo (bp (dk d1 3))+1<=9223372036854775807 then(if bo (bp (dk d1 3))+1=bn (dy (bo (bp (dk d1 3))) (bq (dk d1 6))++[dt (bq (dk d1 0)) (bo (bp (dk d1 2))) gj])then(k3 [dk d1 0,dk d1 1,bt (bw ca (bp (dk d1 2)+1)),bt (↑(bo (bp (dk d1 3))+1):Int),dk d1 4,bt (↑(bo (bp (dk d1 5))):Int),C.agg (dy (bo (bp (dk d1 3))) (bq (dk d1 6))++[dt (bq (dk d1 0)) (bo (bp (dk d1 2))) gj])] [])else none)else none))else none)else(if bn (bq (dk d1 6))=bn (bq (dk d1 6))then(k2 [bt (↑(bo (bp (dk d1 3))):Int),dk d1 4,bt (↑(bo (bp (dk d1 5))):Int),dk d1 6] [])else none))
def TT (a0 b0 b1 b2:C) (k1:KD R):Option R:=jn (fun d1 m1=>(if bn (bq (dk d1 3))=bn (bq (dk d1 3))then(k1 [bt (↑(bo (bp (dk d1 0))):Int),dk d1 1,bt (↑(bo (bp (dk d1 2))):Int),dk d1 3] [])else none)) (fun k2=>(if bn (bq b2)=bn (bq b2)then(BU N (XR N k1 k2) [a0,bt (↑(bn (bq a0)):Int),bt 0,bt (↑(bo (bp b0)):Int),b1,bt (↑(bn (bq b2)):Int),b2] [])else none))
def Fq:=lid "" (@TT R N)
theorem XS {R N a0 b0 b1 b2 k}:@Fq R N a0 b0 b1 b2 k=TT N a0 b0 b1 b2 k:=by unfold Fq;rw[Ag]
def Y9:OvG R:=CP Y8 X1 (fun ds ms=>Fq N (dk ds 0) (dk ds 1) (dk ds 2) (dk ds 3)) fun ds ms K d1 m1=>K (qs []) [(ej (dg 1),
  O.box
   (V.agg DG
    [V.sr (dg 1000000000074) [] 0 (bo (bp (dk d1 0))) none 8 (cg bu),
     V.d (cg ca) (dk d1 1)])),
 (ej (dg 2),O.dead (dc (bo (bp (dk d1 2))) (cg bu))),
 (dg 1000000000074,O.box (V.d (dc (bn (bq (dk d1 3))) (cg bu)) (dk d1 3)))]
theorem iM:okX 185 (@Y9 R N):=CT (AP (XO N) <| Ah) N [] [(185,[([1],⟨[0],[],[.g (.l 1),.g (.l 2)],[],[],[(.int .u64)]⟩),
  ([4,1],⟨[0,6,7],[(8,.d (.int .i64))],[.g (.l 1),.g (.l 2)],[],[],[(.int .u64)]⟩),
  ([9],⟨[],[],[.g (.l 1),.g (.l 2)],[],[],[(.int .u64)]⟩)])] (fun _ _ _=>XS)
def qE {R:Type} (N:Nat) (a0 a1:C) (k1:KD R):Option R:=k1 [bt (bw bu (bw bu (bw bu (fp (bp a0) (2^min (bo 32) 64)*fp (bp a1) (2^min (bo 32) 64))+fp (bw bu (bw bu (fp (bp a0) (2^min (bo 32) 64)*CH fv bu (bp a1) 4294967295)+fp (bw bu (CH fv bu (bp a0) 4294967295*CH fv bu (bp a1) 4294967295)) (2^min (bo 32) 64))) (2^min (bo 32) 64))+fp (bw bu (CH fv bu (bw bu (bw bu (fp (bp a0) (2^min (bo 32) 64)*CH fv bu (bp a1) 4294967295)+fp (bw bu (CH fv bu (bp a0) 4294967295*CH fv bu (bp a1) 4294967295)) (2^min (bo 32) 64))) 4294967295+bw bu (CH fv bu (bp a0) 4294967295*fp (bp a1) (2^min (bo 32) 64)))) (2^min (bo 32) 64))),bt (bw bu (bp a0*bp a1))] []
def RH:=lid "" (@qE R N)
theorem qF {R N a0 a1 k}:@RH R N a0 a1 k=qE N a0 a1 k:=by unfold RH;rw[Ag]
def q3O:OvG R:=BS [.int .u64,.int .u64] (DY (RH N)) fun a K d1 m1=>K (qs [V.d (cg bu) (dk d1 0),V.d (cg bu) (dk d1 1)]) []
theorem q3P:okX 201 (@q3O R N):=BW Ah N [] [(201,[([9],(Bc [(4,.d (.int .u64)),(5,.d (.int .u64))]))])] (fun _ _=>qF)
end Go.Proofs.YtpemdagggddcfaaGreatDoor
