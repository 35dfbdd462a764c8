/-
What Go functions compute, part 3.
Conditions: none.
-/
import Derived.Test.YtgdonkaoajbclaaGreatDoorKb
set_option linter.all false
noncomputable section
set_option maxRecDepth 100000
set_option maxHeartbeats 4000000
open Go.E.C renaming agg->dh,elems->ao,get->ax,int->aw,nil->du,set->ct,slice->bc,toInt->aj
open Go.E.Ty renaming arr->cq,int->bn
open Go.E.V renaming ts->vb
open Go.IntKind renaming i64->ar,u32->cf,u64->av,u8->bp,wrap->al
open Int renaming ediv_ediv_of_nonneg->tr,fdiv->fw,fdiv_eq_ediv_of_nonneg->ib,lt_irrefl->fa,natCast_nonneg->bq,pow_pos->vg,tdiv->dx,tdiv_eq_ediv_of_nonneg->ei,tmod->bm,tmod_eq_emod_of_nonneg->dj,toNat->aq,toNat_natCast->bf,toNat_zero->kq
open List renaming append_assoc->dp,append_nil->ly,cons_append->ji,drop->da,drop_zero->ia,flatMap_append->ka,foldl_append->iq,getD->bj,getD_eq_getElem?_getD->bh,getElem?_eq_getElem->bg,length->ak,length_append->bt,length_cons->cg,length_nil->de,mem_append->dw,mem_flatMap->wa,mem_singleton->fq,nil_append->fx,range->fi,range_succ->xb,replicate->ay,replicate_succ->pe,replicate_zero->pf,take->cn,take_add_one->lz,take_length->iu,take_of_length_le->dr
open Nat renaming beq->bw,beq_refl->br,sub_self->um,zero_add->cm
namespace Go.Proofs.YtgdonkaoajbclaaGreatDoor
open Go Go.E
variable {R:Type} (N:Nat)
section
variable {R:Type} {N:Nat}
def oU (d:C) (l:List C) (B:Nat) (hb:Hk B l) (hB:B<=1000000) (hl:l.length<=100000) (hN:l.length+1000<N) (k:KD R):Pm N d (.slice l) k=k [.slice (CK d l)] []:=by
 have z8q:∀i,i<=l.length->((l.take i).flatMap Cb).length<=i*(B+4):=by
  intro i hi
  induction i with
  |zero=>simp|succ i ih=>
   rw[Li (by omega),ka,bt];have h1:=ih (by omega);have h2:=(hb _ (CT (show i<l.length by omega))).2.2;have h3:([l.getD i du].flatMap Cb).length=4+(l.getD i du).elems.length:=by simp[Cb,JK]
   rw[h3,Nat.succ_mul];omega
 have lp:∀K:KD R,Ae N (TX N K) [.slice l,.slice [d,aw (al bp (l.length:Int))],.int 0] []=K [.slice (CK d l)] []:=fun K=>by
  have key:=DX (F:=TX N K) (fun i=>[.slice l,.slice ([d,aw (al bp (l.length:Int))]++(l.take i).flatMap Cb),.int (i:Nat)]) (fun _=>[]) l.length (K [.slice (CK d l)] []) ?_ ?_ (N:=N) (by omega);{exact key}
  ·intro i hi rec;have e1:(i:Int)<(l.length:Int):=by omega
   obtain⟨y1,y2,y3⟩:=hb _ (CT hi);have h1:=z8q i (by omega);have m1:i*(B+4)<=100000*1000004:=Nat.mul_le_mul (by omega) (by omega);obtain⟨o,ho⟩:∃o,[d,aw (al bp (l.length:Int))]++(l.take i).flatMap Cb=o:=⟨_,rfl⟩;have hol:o.length<=2+100000*1000004:=by rw[<-ho];simp only[bt,cg,de];omega
   obtain⟨y,hy⟩:∃y,(l.getD i .nil).elems=y:=⟨_,rfl⟩;rw[hy]at y3;have g1:(o.length+4)*1<=140737488355328/\o.length+4<=9223372036854775807:=by omega
   have g2:(o.length+4+y.length)*1<=140737488355328/\o.length+4+y.length<=9223372036854775807:=by omega
   have w1:IntKind.u8.wrap (IntKind.i64.wrap (dx (y.length:Int) 16777216))=((y.length / 256 / 256 / 256%256:Nat):Int):=by rw[ei (by omega),wrap_i64 (by omega) (by omega),wrap_u8];omega
   have w2:IntKind.u8.wrap (IntKind.i64.wrap (dx (y.length:Int) 65536))=((y.length / 256 / 256%256:Nat):Int):=by rw[ei (by omega),wrap_i64 (by omega) (by omega),wrap_u8];omega
   have w3:IntKind.u8.wrap (IntKind.i64.wrap (dx (y.length:Int) 256))=((y.length / 256%256:Nat):Int):=by rw[ei (by omega),wrap_i64 (by omega) (by omega),wrap_u8];omega
   have w4:IntKind.u8.wrap (y.length:Int)=((y.length%256:Nat):Int):=by rw[wrap_u8];omega
   have ec:o++[aw ((y.length / 256 / 256 / 256%256:Nat):Int),aw ((y.length / 256 / 256%256:Nat):Int),aw ((y.length / 256%256:Nat):Int),aw ((y.length%256:Nat):Int)]++y=[d,aw (al bp (l.length:Int))]++(l.take (i+1)).flatMap Cb:=by
    rw[<-VL _ (by omega),Li hi,ka,<-dp,ho,dp];have:[l.getD i du].flatMap Cb=b4 (IntKind.u32.wrap ((l.getD i .nil).elems.length:Int))++(l.getD i .nil).elems:=by simp[Cb]
    rw[this,hy];rw[show IntKind.u32.wrap (y.length:Int)=(y.length:Int) by rw[wrap_u32];omega]
   rw[ho,<-ec];unfold TX;simp only[AF,AK,AO,AB,AI,e1,hy,w1,w2,w3,w4,g1,g2,AE,bq,and_self,bf,br,bt,cg,de,cm,Nat.reduceAdd,BK (show i<4611686018427387904 by omega)]
  ·intro rec;unfold TX;simp only[AF,AK,AO,AB,AI,fa,AE,br,iu];rfl
 rw[F1];unfold jO;simp only[AP,AI];refine(lp _).trans ?_;simp only[AF,AI,br,cond_true]
def QU (t:C) (ht:DH t) (d:C) (hd:BQ d) (l:List C) (B:Nat) (hb:Hk B l) (hB:B<=1000000) (hl:l.length<=100000) (hm:(CK d l).length<=4398046511104) (hN:(CK d l).length+l.length+1000<N) (k:KD R):Gq N t d (.slice l) k=k [Hg (CK d l)] []:=by
 have hbb:∀c∈CK d l,BQ c:=by intro c hc;unfold CK at hc;rcases dw.1 hc with hc|hc;{simp only[List.mem_cons,List.not_mem_nil,or_false]at hc;rcases hc with rfl|rfl;{exact hd};{exact Nn _}};{obtain⟨x,hx,hc⟩:=wa.1 hc;unfold Cb at hc;rcases dw.1 hc with hc|hc;{exact Ni _ c hc};{exact(hb x hx).2.1 c hc}}
 rw[H5];unfold jK;simp only[AP,oU d l B hb hB hl (show l.length+1000<N by omega),AF,AI,oQ t ht _ hbb hm (show(CK d l).length+1000<N by omega)]
def q2i (s:List UInt8) (n:Nat) (g:Nat->Int) (h:(fi n).map (fun i=>Jx s i 8)=(fi n).map g):∀i,i<n->Jx s i 8=g i:=fun i hi=>by have:=congrArg (fun l=>l.getD i 0) h;simpa[hi]using this
def q8Z (k:KD R):∃t,DH t/\∀k:KD R,TR N k=k [t] []:=by
 refine⟨?w,?a,fun k=>?b⟩
 case b=>rw[H4];unfold jJ;simp only[AP];rfl
 ·exact⟨by kernel_rfl,by kernel_rfl,q2i _ 8 (fun i=>((([1779033703,3144134277,1013904242,2773480762,1359893119,2600822924,528734635,1541459225]:List W32).getD i 0).toNat:Int)) (by kernel_rfl),q2i _ 64 (fun i=>((ksW.getD i 0).toNat:Int)) (by kernel_rfl)⟩
end
def dP {R:Type} (N:Nat) (a0 a1:C) (k1:KD R):Option R:=if 0<=al ar (dx (aj a1) 8)/\al ar (dx (aj a1) 8)<32 then(if 0<=al ar (7-bm (aj a1) 8)then(k1 [aw (Aj BinOp.and bp (fw (aj (ax a0 (aq (al ar (dx (aj a1) 8))))) (2^min (aq (al ar (7-bm (aj a1) 8))) 8)) 1)] [])else none)else none
def Ro:=lid "" (@dP R N)
def xQ {R N a0 a1 k}:@Ro R N a0 a1 k=dP N a0 a1 k:=by unfold Ro;rw[AW]
def q7O:OvG R:=Af [.arr 32 (.int .u8),.int .i64] (Bl (Ro N)) (BD (bn bp))
def q7P:okX 145 (@q7O R N):=Ai AZ N [(145,[(0,[(2,5)])])] [(145,[([9],(Ah [(4,.d (.int .u8))]))])] (fun _ _=>xQ)
def dQ (a0:C) (k1:KD R):Option R:=KG N (aw 5) (bc [bc (cut (ao a0) 0 16)]) (fun d1 m1=>(if 16<=ak (cn 16 (da 0 (ao (dk d1 0))))then(k1 [dh (cn 16 (cn 16 (da 0 (ao (dk d1 0)))))] [])else none))
def Rp:=lid "" (@dQ R N)
def xR {R N a0 k}:@Rp R N a0 k=dQ N a0 k:=by unfold Rp;rw[AW]
def q7Q:OvG R:=Af [.arr 16 (.int .u8)] (Bs (Rp N)) (BD (cq 16 (bn bp)))
def q7R:okX 146 (@q7Q R N):=Ai (AH (SQ N) <| AZ) N [(146,[(0,[(1,5)]),(2,[(8,100)])])] [(146,[([9],⟨[],[(2,.as (.ptr (.l 2) [] (.arr 16 (.int .u8))))],[],[(.l 2,.box (.d (.arr 16 (.int .u8))))],[],[]⟩)])] (fun _ _=>xR)
def WV {R:Type} (N:Nat) (k2:KD R):KD R->KD R:=fun k3 d1 m1=>(bif decide (aj (dk d1 2)<32)then(if 0<=aj (dk d1 2)/\aj (dk d1 2)<32 then(bif bw (ak (ao (dk d1 1))) (ak (ao (dk d1 1)))then(if(ak (ao (dk d1 1))+ak (cn 16 (da (aq 0) (ao (ax (ax (dk d1 0) (aq (aj (dk d1 2)))) (aq 0))))))*1<=140737488355328/\ak (ao (dk d1 1))+ak (cn 16 (da (aq 0) (ao (ax (ax (dk d1 0) (aq (aj (dk d1 2)))) (aq 0)))))<=9223372036854775807 then(bif bw (ak (ao (dk d1 1))+ak (cn 16 (da (aq 0) (ao (ax (ax (dk d1 0) (aq (aj (dk d1 2)))) (aq 0)))))) (ak (ao (dk d1 1)++cn 16 (da (aq 0) (ao (ax (ax (dk d1 0) (aq (aj (dk d1 2)))) (aq 0))))))then(if(ak (ao (dk d1 1)++cn 16 (da (aq 0) (ao (ax (ax (dk d1 0) (aq (aj (dk d1 2)))) (aq 0)))))+ak (cn 16 (da (aq 0) (ao (ax (ax (dk d1 0) (aq (aj (dk d1 2)))) (aq 1))))))*1<=140737488355328/\ak (ao (dk d1 1)++cn 16 (da (aq 0) (ao (ax (ax (dk d1 0) (aq (aj (dk d1 2)))) (aq 0)))))+ak (cn 16 (da (aq 0) (ao (ax (ax (dk d1 0) (aq (aj (dk d1 2)))) (aq 1)))))<=9223372036854775807 then(bif bw (ak (ao (dk d1 1)++cn 16 (da (aq 0) (ao (ax (ax (dk d1 0) (aq (aj (dk d1 2)))) (aq 0)))))+ak (cn 16 (da (aq 0) (ao (ax (ax (dk d1 0) (aq (aj (dk d1 2)))) (aq 1)))))) (ak (ao (dk d1 1)++cn 16 (da (aq 0) (ao (ax (ax (dk d1 0) (aq (aj (dk d1 2)))) (aq 0))))++cn 16 (da (aq 0) (ao (ax (ax (dk d1 0) (aq (aj (dk d1 2)))) (aq 1))))))then(k3 [dk d1 0,bc (ao (dk d1 1)++cn 16 (da (aq 0) (ao (ax (ax (dk d1 0) (aq (aj (dk d1 2)))) (aq 0))))++cn 16 (da (aq 0) (ao (ax (ax (dk d1 0) (aq (aj (dk d1 2)))) (aq 1))))),aw (al ar (aj (dk d1 2)+1)),dk d1 3] [])else none)else none)else none)else none)else none)else none)else(bif bw (ak (ao (dk d1 1))) (ak (ao (dk d1 1)))then(k2 [bc (ao (dk d1 1)),dk d1 3] [])else none))
def dR (a0:C) (k1:KD R):Option R:=jn (fun d1 m1=>(KG N (aw 2) (bc [bc (ao (dk d1 0))]) (fun d2 m2=>(k1 [dk d2 0] [])))) (fun k2=>(Ae N (WV N k2) [a0,bc [],aw 0,AJ (cq 32 (bn bp))] []))
def Rq:=lid "" (@dR R N)
def xS {R N a0 k}:@Rq R N a0 k=dR N a0 k:=by unfold Rq;rw[AW]
def q7S:OvG R:=Af [.arr 32 (.arr 2 (.arr 16 (.int .u8)))] (Bs (Rq N)) (BD (cq 32 (bn bp)))
def q7T:okX 147 (@q7S R N):=Ai (AH (SQ N) <| AZ) N [(147,[(0,[(1,5)])])] [(147,[([1,0,1,1],(AY [2] [(3,.sl 1 (.int .u8) 5003)])),
  ([4,1,0,1,1],(AY [2,6] [(3,.sl 1 (.int .u8) 5003),(7,.d (.int .i64))])),
  ([9],⟨[],[(2,.as (.ptr (.l 2) [] (.arr 32 (.int .u8))))],[],[(.l 2,.box (.d (.arr 32 (.int .u8))))],[],[]⟩)])] (fun _ _=>xS)
def WU (k2:KD R):KD R->KD R:=fun k3 d1 m1=>(bif decide (aj (dk d1 2)<32)then(Ro N (dk d1 1) (dk d1 2) (fun d2 m2=>(if 0<=aj (dk d1 2)/\aj (dk d1 2)<32 then(Rp N (ax (ax (dk d1 0) 0) (aq (aj (dk d1 2)))) (fun d3 m3=>(if 0<=aj (dk d1 2)/\aj (dk d1 2)<32 then(if 0<=aj (dk d2 0)/\aj (dk d2 0)<2 then(if 0<=aj (dk d1 2)/\aj (dk d1 2)<32 then(if 0<=aj (dk d1 2)/\aj (dk d1 2)<32 then(if 0<=al bp (1-aj (dk d2 0))/\al bp (1-aj (dk d2 0))<2 then(k3 [dk d1 0,dk d1 1,aw (al ar (aj (dk d1 2)+1)),dk d1 3,ct (ct (dk d1 4) (aq (aj (dk d1 2))) (ct (ax (dk d1 4) (aq (aj (dk d1 2)))) (aq (aj (dk d2 0))) (dk d3 0))) (aq (aj (dk d1 2))) (ct (ax (ct (dk d1 4) (aq (aj (dk d1 2))) (ct (ax (dk d1 4) (aq (aj (dk d1 2)))) (aq (aj (dk d2 0))) (dk d3 0))) (aq (aj (dk d1 2)))) (aq (al bp (1-aj (dk d2 0)))) (ax (ax (dk d1 0) 1) (aq (aj (dk d1 2)))))] [])else none)else none)else none)else none)else none)))else none)))else(k2 [dk d1 3,dk d1 4] []))
def dN (a0 a1:C) (k1:KD R):Option R:=jn (fun d1 m1=>(Rq N (dk d1 1) (fun d2 m2=>(k1 [dk d2 0] [])))) (fun k2=>(Ae N (WU N k2) [a0,a1,aw 0,AJ (cq 32 (bn bp)),AJ (cq 32 (cq 2 (cq 16 (bn bp))))] []))
def Rn:=lid "" (@dN R N)
def xP {R N a0 a1 k}:@Rn R N a0 a1 k=dN N a0 a1 k:=by unfold Rn;rw[AW]
def q7M:OvG R:=Af [Gb,.arr 32 (.int .u8)] (Bl (Rn N)) (BD (cq 32 (bn bp)))
def q7N:okX 135 (@q7M R N):=Ai (AH (q7P N) <| AH (q7R N) <| AH (q7T N) <| AZ) N [(135,[(0,[(2,5),(3,5)]),(6,[(20,7)])])] [(135,[([1,0,1,1],(AY [4,5] [])),
  ([4,1,0,1,1],(AY [2,3,4,5] [(8,.d (.int .i64))])),
  ([9],⟨[],[(4,.as (.ptr (.l 4) [] (.arr 32 (.int .u8))))],[],[(.l 4,.box (.d (.arr 32 (.int .u8))))],[],[]⟩)])] (fun _ _=>xP)
def Xp {R:Type} (N:Nat) (k2:KD R):KD R->KD R:=fun k3 d1 m1=>(bif decide (aj (dk d1 1)<16)then(if 0<=aj (dk d1 1)/\aj (dk d1 1)<32 then(if 0<=aj (dk d1 1)/\aj (dk d1 1)<16 then(k3 [dk d1 0,aw (al ar (aj (dk d1 1)+1)),dk d1 2,ct (dk d1 3) (aq (aj (dk d1 1))) (ax (dk d1 0) (aq (aj (dk d1 1))))] [])else none)else none)else(k2 [dk d1 2,dk d1 3] []))
def jY (a0:C) (k1:KD R):Option R:=jn (fun d1 m1=>(k1 [dk d1 1] [])) (fun k2=>(Ae N (Xp N k2) [a0,aw 0,AJ (cq 16 (bn bp)),AJ (cq 16 (bn bp))] []))
def Po:=lid "" (@jY R N)
def q0e {R N a0 k}:@Po R N a0 k=jY N a0 k:=by unfold Po;rw[AW]
def z1X:OvG R:=Af [.arr 32 (.int .u8)] (Bs (Po N)) (BD (cq 16 (bn bp)))
def q0d:okX 110 (@z1X R N):=Ai AZ N [(110,[(0,[(1,5)])])] [(110,[([1,0,1,1],(AY [2,3] [])),
  ([4,1,0,1,1],(AY [1,2,3] [(4,.d (.int .i64))])),
  ([9],⟨[],[(2,.as (.ptr (.l 2) [] (.arr 16 (.int .u8))))],[],[(.l 2,.box (.d (.arr 16 (.int .u8))))],[],[]⟩)])] (fun _ _=>q0e)
def jT (a0 a1:C) (k1:KD R):Option R:=Gq N a0 (aw 5) (bc [bc (cut (ao a1) 0 16)]) (fun d1 m1=>(Po N (dk d1 0) (fun d2 m2=>(k1 [dk d2 0] []))))
def Mr:=lid "" (@jT R N)
def F7 {R N a0 a1 k}:@Mr R N a0 a1 k=jT N a0 a1 k:=by unfold Mr;rw[AW]
def z1P:OvG R:=Af [Br,.arr 16 (.int .u8)] (Bl (Mr N)) (BD (cq 16 (bn bp)))
def jS:okX 86 (@z1P R N):=Ai (AH (Mq N) <| AH (q0d N) <| AZ) N [(86,[(0,[(2,5),(3,5)]),(1,[(8,7),(9,7)])])] [(86,[([9],⟨[],[(4,.as (.ptr (.l 4) [] (.arr 16 (.int .u8))))],[],[(.l 4,.box (.d (.arr 16 (.int .u8))))],[],[]⟩)])] (fun _ _=>F7)
def Xl {R:Type} (N:Nat) (k2:KD R):KD R->KD R:=fun k3 d1 m1=>(bif decide (aj (dk d1 2)<al ar (7-bm (aj (dk d1 0)) 8))then(k3 [dk d1 0,aw (al ar (dx (aj (dk d1 1)) 2)),aw (al ar (aj (dk d1 2)+1))] [])else(k2 [dk d1 1] []))
def jR (a0 a1:C) (k1:KD R):Option R:=if 0<=al ar (dx (aj a1) 8)/\al ar (dx (aj a1) 8)<32 then(jn (fun d1 m1=>(k1 [aw (bm (aj (dk d1 0)) 2)] [])) (fun k2=>(Ae N (Xl N k2) [a1,aw (al ar (aj (ax a0 (aq (al ar (dx (aj a1) 8)))))),aw 0] [])))else none
def Pn:=lid "" (@jR R N)
def F6 {R N a0 a1 k}:@Pn R N a0 a1 k=jR N a0 a1 k:=by unfold Pn;rw[AW]
def z1O:OvG R:=Af [.arr 32 (.int .u8),.int .i64] (Bl (Pn N)) (BD (bn ar))
def F5:okX 96 (@z1O R N):=Ai AZ N [(96,[(0,[(2,5)])])] [(96,[([1,0,1,1],(Ah [(5,.d (.int .i64))])),
  ([4,1,0,1,1],(AY [1] [(5,.d (.int .i64)),(6,.d (.int .i64))])),
  ([9],(Ah [(4,.d (.int .i64))]))])] (fun _ _=>F6)
def Xm (k2:KD R):KD R->KD R:=fun k3 d1 m1=>(bif decide (aj (dk d1 4)<32)then(if 0<=aj (dk d1 4)/\aj (dk d1 4)<32 then(Mr N (dk d1 0) (ax (ax (dk d1 1) 0) (aq (aj (dk d1 4)))) (fun d2 m2=>(if 0<=aj (dk d1 4)/\aj (dk d1 4)<32 then(Pn N (dk d1 2) (dk d1 4) (fun d3 m3=>(jn (fun d4 m4=>(bif bw (ak (ao (dk d4 4))) (ak (ao (dk d4 4)))then(k3 [dk d4 0,dk d4 1,dk d4 2,bc (ao (dk d4 4)),aw (al ar (aj (dk d4 3)+1)),dk d4 5] [])else none)) (fun k4=>(bif decide (aj (dk d3 0)=0)then(bif bw (ak (ao (dk d1 3))) (ak (ao (dk d1 3)))then(if(ak (ao (dk d1 3))+ak (cn 16 (da 0 (ao (dk d2 0)))))*1<=140737488355328/\ak (ao (dk d1 3))+ak (cn 16 (da 0 (ao (dk d2 0))))<=9223372036854775807 then(bif bw (ak (ao (dk d1 3))+ak (cn 16 (da 0 (ao (dk d2 0))))) (ak (ao (dk d1 3)++cn 16 (da 0 (ao (dk d2 0)))))then(if(ak (ao (dk d1 3)++cn 16 (da 0 (ao (dk d2 0))))+ak (cn 16 (da 0 (ao (ax (ax (dk d1 1) 1) (aq (aj (dk d1 4))))))))*1<=140737488355328/\ak (ao (dk d1 3)++cn 16 (da 0 (ao (dk d2 0))))+ak (cn 16 (da 0 (ao (ax (ax (dk d1 1) 1) (aq (aj (dk d1 4)))))))<=9223372036854775807 then(bif bw (ak (ao (dk d1 3)++cn 16 (da 0 (ao (dk d2 0))))+ak (cn 16 (da 0 (ao (ax (ax (dk d1 1) 1) (aq (aj (dk d1 4)))))))) (ak (ao (dk d1 3)++cn 16 (da 0 (ao (dk d2 0)))++cn 16 (da 0 (ao (ax (ax (dk d1 1) 1) (aq (aj (dk d1 4))))))))then(k4 [dk d1 0,dk d1 1,dk d1 2,dk d1 4,bc (ao (dk d1 3)++cn 16 (da 0 (ao (dk d2 0)))++cn 16 (da 0 (ao (ax (ax (dk d1 1) 1) (aq (aj (dk d1 4))))))),dk d1 5] [])else none)else none)else none)else none)else none)else(bif bw (ak (ao (dk d1 3))) (ak (ao (dk d1 3)))then(if(ak (ao (dk d1 3))+ak (cn 16 (da 0 (ao (ax (ax (dk d1 1) 1) (aq (aj (dk d1 4))))))))*1<=140737488355328/\ak (ao (dk d1 3))+ak (cn 16 (da 0 (ao (ax (ax (dk d1 1) 1) (aq (aj (dk d1 4)))))))<=9223372036854775807 then(bif bw (ak (ao (dk d1 3))+ak (cn 16 (da 0 (ao (ax (ax (dk d1 1) 1) (aq (aj (dk d1 4)))))))) (ak (ao (dk d1 3)++cn 16 (da 0 (ao (ax (ax (dk d1 1) 1) (aq (aj (dk d1 4))))))))then(if(ak (ao (dk d1 3)++cn 16 (da 0 (ao (ax (ax (dk d1 1) 1) (aq (aj (dk d1 4)))))))+ak (cn 16 (da 0 (ao (dk d2 0)))))*1<=140737488355328/\ak (ao (dk d1 3)++cn 16 (da 0 (ao (ax (ax (dk d1 1) 1) (aq (aj (dk d1 4)))))))+ak (cn 16 (da 0 (ao (dk d2 0))))<=9223372036854775807 then(bif bw (ak (ao (dk d1 3)++cn 16 (da 0 (ao (ax (ax (dk d1 1) 1) (aq (aj (dk d1 4)))))))+ak (cn 16 (da 0 (ao (dk d2 0))))) (ak (ao (dk d1 3)++cn 16 (da 0 (ao (ax (ax (dk d1 1) 1) (aq (aj (dk d1 4))))))++cn 16 (da 0 (ao (dk d2 0)))))then(k4 [dk d1 0,dk d1 1,dk d1 2,dk d1 4,bc (ao (dk d1 3)++cn 16 (da 0 (ao (ax (ax (dk d1 1) 1) (aq (aj (dk d1 4))))))++cn 16 (da 0 (ao (dk d2 0)))),dk d1 5] [])else none)else none)else none)else none)else none))))))else none)))else none)else(bif bw (ak (ao (dk d1 3))) (ak (ao (dk d1 3)))then(k2 [dk d1 0,bc (ao (dk d1 3)),dk d1 5] [])else none))
def jU (a0 a1 a2:C) (k1:KD R):Option R:=jn (fun d1 m1=>(Gq N (dk d1 0) (aw 2) (bc [bc (ao (dk d1 1))]) (fun d2 m2=>(k1 [dk d2 0] [])))) (fun k2=>(Ae N (Xm N k2) [a0,a1,a2,bc [],aw 0,AJ (cq 32 (bn bp))] []))
def Ta:=lid "" (@jU R N)
def F8 {R N a0 a1 a2 k}:@Ta R N a0 a1 a2 k=jU N a0 a1 a2 k:=by unfold Ta;rw[AW]
def z1Q:OvG R:=Af [Br,Gb,.arr 32 (.int .u8)] (Ds (Ta N)) (BD (cq 32 (bn bp)))
def z1R:okX 152 (@z1Q R N):=Ai (AH (Mq N) <| AH (jS N) <| AH (F5 N) <| AZ) N [(152,[(0,[(3,5),(4,5),(5,5)]),(5,[(20,7)])])] [(152,[([1,0,1,1],(AY [3,6] [(7,.sl 1 (.int .u8) 5007)])),
  ([4,1,0,1,1],(AY [3,4,5,6] [(7,.sl 1 (.int .u8) 5007),(8,.d (.int .i64))])),
  ([1,1,1,4,0,1,5,4,1,0,1,1],(AY [3,4,5,6,8] [(7,.sl 1 (.int .u8) 5007)])),
  ([9],⟨[],[(6,.as (.ptr (.l 6) [] (.arr 32 (.int .u8))))],[],[(.l 6,.box (.d (.arr 32 (.int .u8))))],[],[]⟩)])] (fun _ _=>F8)
def WX {R:Type} (N:Nat) (k2:KD R):KD R->KD R:=fun k3 d1 m1=>(bif decide (aj (dk d1 1)<32)then(if 0<=aj (dk d1 1)/\aj (dk d1 1)<32 then(if 0<=aj (dk d1 1)/\aj (dk d1 1)<32 then(if 0<=aj (dk d1 1)/\aj (dk d1 1)<32 then(if 0<=aj (dk d1 1)/\aj (dk d1 1)<32 then(k3 [dk d1 0,aw (al ar (aj (dk d1 1)+1)),dk d1 2,ct (ct (dk d1 3) 0 (ct (ax (dk d1 3) 0) (aq (aj (dk d1 1))) (ax (ax (dk d1 0) 0) (aq (aj (dk d1 1)))))) 1 (ct (ax (ct (dk d1 3) 0 (ct (ax (dk d1 3) 0) (aq (aj (dk d1 1))) (ax (ax (dk d1 0) 0) (aq (aj (dk d1 1)))))) 1) (aq (aj (dk d1 1))) (ax (ax (dk d1 0) 1) (aq (aj (dk d1 1)))))] [])else none)else none)else none)else none)else(k2 [dk d1 2,dk d1 3] []))
def dT (a0:C) (k1:KD R):Option R:=jn (fun d1 m1=>(k1 [dk d1 1] [])) (fun k2=>(Ae N (WX N k2) [a0,aw 0,dh [dh (ay 32 (dh (ay 16 (aw 0)))),dh (ay 32 (dh (ay 16 (aw 0))))],dh [dh (ay 32 (dh (ay 16 (aw 0)))),dh (ay 32 (dh (ay 16 (aw 0))))]] []))
def Rs:=lid "" (@dT R N)
def xT {R N a0 k}:@Rs R N a0 k=dT N a0 k:=by unfold Rs;rw[AW]
def q7V:OvG R:=Af [Gb] (Bs (Rs N)) (BD Gb)
def q7W:okX 69 (@q7V R N):=Ai AZ N [(69,[(0,[(1,5)])])] [(69,[([1,0,1,1],(AY [2,3] [])),
  ([4,1,0,1,1],(AY [1,2,3] [(5,.d (.int .i64))])),
  ([9],⟨[],[(2,.as (.ptr (.l 2) [] Gb))],[],[(.l 2,.box (.d Gb))],[],[]⟩)])] (fun _ _=>xT)
section
variable {R:Type} {N:Nat}
def Ao (n:Nat) (p:C):Prop:=∃l:List C,p= .agg l/\l.length=n/\∀c∈l,BQ c
def KU (p:List C):Ao 32 (Hg p):=by
 have h8:((Di p.length).foldl feed ((Cn p.length).foldl feed (p.foldl feed (ivW,[])))).1.length=8:=by rw[<-iq,<-iq];exact uR rfl _ _
 unfold Hg;generalize ((Di p.length).foldl feed ((Cn p.length).foldl feed (p.foldl feed (ivW,[])))).1=h at h8;refine⟨h.flatMap fun x=>b4 x.toNat,rfl,by rw[Vg,h8],fun c hc=>?_⟩;obtain⟨w,_,hc⟩:=wa.1 hc;exact Ni _ c hc
def TB (n B:Nat) (hB:n<=B) (p:C) (hp:Ao n p):Hk B [bc (cut (ao p) 0 n)]/\cut (ao p) 0 n=ao p:=by
 obtain⟨l,rfl,hl,hb⟩:=hp;have e:cut l 0 n=l:=by unfold cut;simp;exact dr (by omega)
 rw[DV,e];refine⟨fun x hx=>?_,rfl⟩;rw[fq.1 hx];exact⟨rfl,by simpa[AI]using hb,by rw[AI];omega⟩
def KI (d:C) (l:List C):(CK d [bc l]).length=l.length+6:=by unfold CK Cb;simp[JK,AI];omega
def q1J (l:List C) (i:Nat) (x:C):ct (.agg l) i x= .agg (l.set i x):=rfl
def JP (p:C):C:=.agg ((Hg (CK (.int 5) [bc (ao p)])).elems.take 16)
def Nt (p:C):Ao 16 (JP p):=by obtain⟨l,e,hl,hb⟩:=KU (CK (.int 5) [bc (ao p)]);unfold JP;rw[e,DV];exact⟨_,rfl,by simp;omega,fun c hc=>hb c (List.mem_of_mem_take hc)⟩
def vI:BQ (.int 5):=⟨rfl,by decide,by decide⟩
def q4Y (p:C) (hp:Ao 16 p) (hN:5000<N) (hN2:N<4611686018427387904) (k:KD R):Rp N p k=k [JP p] []:=by obtain⟨h1,h2⟩:=TB 16 100 (by omega) p hp;obtain⟨l,rfl,hl,hb⟩:=hp;obtain⟨s,e,hs,_⟩:=KU (CK (.int 5) [bc (ao (.agg l))]);have:=QV (R:=R) (N:=N) (.int 5) vI [bc (cut (ao (.agg l)) 0 16)] 100 h1 (by simp;omega) (by omega) hN2 (by rw[show cut (ao (.agg l)) 0 16=ao (.agg l) from h2,KI,DV];omega);rw[show cut (ao (.agg l)) 0 16=ao (.agg l) from h2]at this;rw[xR];unfold dQ;simp only[show cut (ao (.agg l)) 0 16=ao (.agg l) from h2,this,AF];unfold JP;refine(if_pos (by rw[e,DV];simp;omega)).trans ?_;rw[ia,List.take_take];rfl
def Ub {l m:List C} {i:Nat} (h:l.length=i) (x y:C):ct (.agg (l++x::m)) i y= .agg (l++y::m):=by subst h;rw[q1J];simp
def wG {l m:List C} {i:Nat} (h:l.length=i) (x:C):ax (.agg (l++x::m)) i=x:=by subst h;rw[Fh];simp
def vF (l:List C) (hl:l.length=32) (hN:100<N) (k:KD R):Po N (.agg l) k=k [.agg (l.take 16)] []:=by
 obtain⟨d,rfl,h⟩:=FV (R:=R) (F:=fun k2=>Xp N k2) 16 (fun i st=>st=[.agg l,.int i,AJ (.arr 16 (.int .u8)),.agg (l.take i++ay (16-i) (.int 0))]) (fun d=>d=[AJ (.arr 16 (.int .u8)),.agg (l.take 16)])
  (fun i st hi hst=>by
   subst hst;have e1:(i:Int)<16:=by omega
   have e2:(i:Int)<32:=by omega
   refine⟨_,rfl,fun k rec=>?_⟩;unfold Xp;have e3:ct (.agg (l.take i++ay (16-i) (.int 0))) i (ax (.agg l) i)= .agg (l.take (i+1)++ay (16-(i+1)) (.int 0)):=by
    obtain⟨m,hm⟩:∃m,16-i=m+1:=⟨15-i,by omega⟩;have lt:(l.take i).length=i:=by simp;omega
    rw[hm,show 16-(i+1)=m by omega,Li (show i<l.length by omega),Fh,pe,Ub lt,dp];rfl
   simp only[AF,AK,AO,AV,AB,e1,e2,e3,AE,bq,and_self,bf,BK (show i<4611686018427387904 by omega)])
  (fun st hst=>by
   subst hst;refine⟨_,rfl,fun k rec=>?_⟩;unfold Xp;have e:¬((16:Nat):Int)<16:=by decide
   simp only[AF,AK,AO,AV,AB,e,AE,um,pf,ly])
  (N:=N) (by omega) (st:=[.agg l,.int (0:Nat),AJ (.arr 16 (.int .u8)),AJ (.arr 16 (.int .u8))]) rfl
 rw[q0e];unfold jY;simp only[AP];exact(h _).trans rfl
def jB (t:C) (ht:DH t) (p:C) (hp:Ao 16 p) (hN:5000<N) (k:KD R):Mr N t p k=k [JP p] []:=by obtain⟨h1,h2⟩:=TB 16 100 (by omega) p hp;obtain⟨l,rfl,hl,hb⟩:=hp;obtain⟨s,e,hs,_⟩:=KU (CK (.int 5) [bc (ao (.agg l))]);have h2':cut (ao (.agg l)) 0 16=ao (.agg l):=h2;have:=QU (R:=R) (N:=N) t ht (.int 5) vI [bc (cut (ao (.agg l)) 0 16)] 100 h1 (by omega) (by simp) (by rw[h2',KI,DV];omega) (by rw[h2',KI,DV];simp;omega);rw[h2']at this;rw[F7];unfold jT;simp only[h2',this,AF];unfold JP;rw[e,vF s hs (by omega)];rfl
def Jn (d:C) (i:Nat):Int:=(d.get (i / 8)).toInt / 2^(7-i%8)%2
def q3w:∀y:Fin 256,Aj BinOp.and bp (y.val:Int) 1=(y.val:Int)%2:=by decide
def qD (d:C) (i:Nat):Jn d i=0\/Jn d i=1:=by unfold Jn;omega
def sN {d:C} (hd:Ao 32 d) {i:Nat} (hi:i<32):BQ (d.get i):=by obtain⟨l,rfl,hl,hb⟩:=hd;rw[Fh];exact hb _ (CT (by omega))
def bC {x:Int} (h0:0<=x) (h:x<256) (n:Nat):0<=x / 2^n/\x / 2^n<256:=by have p:(0:Int)<2^n:=vg (by decide);refine⟨Int.ediv_nonneg h0 (by omega),Int.lt_of_le_of_lt (Int.ediv_le_self _ h0) h⟩
def q3N (d:C) (hd:Ao 32 d) (i:Nat) (hi:i<32) (k:KD R):Ro N d (.int i) k=k [.int (Jn d i)] []:=by
 obtain⟨b1,b2,b3⟩:=sN hd (show i / 8<32 by omega);have q:dx (i:Int) 8=((i / 8:Nat):Int):=by rw[ei (by omega)];omega
 have q1:IntKind.i64.wrap ((i / 8:Nat):Int)=((i / 8:Nat):Int):=wrap_i64 (by omega) (by omega);have r:bm (i:Int) 8=((i%8:Nat):Int):=by rw[dj (by omega)];omega
 have q2:IntKind.i64.wrap (7-((i%8:Nat):Int))=((7-i%8:Nat):Int):=by rw[wrap_i64 (by omega) (by omega)];omega
 have c1:((i / 8:Nat):Int)<32:=by omega
 have m:min (7-i%8) 8=7-i%8:=by omega
 rw[xQ];unfold dP;simp only[AB,q,q1,r,q2,c1,bq,and_self,if_true,bf,m];have f:fw (aj (ax d (i / 8))) (2^(7-i%8))=(ax d (i / 8)).toInt / 2^(7-i%8):=ib _ (Int.le_of_lt (vg (by decide)));obtain⟨g1,g2⟩:=bC b2 b3 (7-i%8);have a:=q3w ⟨((ax d (i / 8)).toInt / 2^(7-i%8)).toNat,by omega⟩;dsimp only at a;rw[Int.toNat_of_nonneg g1]at a;rw[f,a];rfl
def J4 (d:C) (hd:Ao 32 d) (i:Nat) (hi:i<32) (hN:100<N) (k:KD R):Pn N d (.int i) k=k [.int (Jn d i)] []:=by
 obtain⟨b1,b2,b3⟩:=sN hd (show i / 8<32 by omega);have q:dx (i:Int) 8=((i / 8:Nat):Int):=by rw[ei (by omega)];omega
 have q1:IntKind.i64.wrap ((i / 8:Nat):Int)=((i / 8:Nat):Int):=wrap_i64 (by omega) (by omega);have r:bm (i:Int) 8=((i%8:Nat):Int):=by rw[dj (by omega)];omega
 have q2:IntKind.i64.wrap (7-((i%8:Nat):Int))=((7-i%8:Nat):Int):=by rw[wrap_i64 (by omega) (by omega)];omega
 have c1:((i / 8:Nat):Int)<32:=by omega
 generalize hx:(ax d (i / 8)).toInt=x at*
 obtain⟨dd,rfl,h⟩:=FV (R:=R) (F:=fun k2=>Xl N k2) (7-i%8) (fun j st=>st=[.int i,.int (x / 2^j),.int j]) (fun dd=>dd=[.int (x / 2^(7-i%8))])
  (fun j st hj hst=>by
   subst hst;have e1:(j:Int)<((7-i%8:Nat):Int):=by omega
   obtain⟨g1,g2⟩:=bC b2 b3 j;have e2:IntKind.i64.wrap (dx (x / 2^j) 2)=x / 2^(j+1):=by rw[ei g1,wrap_i64 (by omega) (by omega),Int.pow_succ,tr (Int.le_of_lt (vg (by decide)))]
   refine⟨_,rfl,fun k rec=>?_⟩;unfold Xl;simp only[AF,AK,AO,AB,r,q2,e1,e2,AE,BK (show j<4611686018427387904 by omega)])
  (fun st hst=>by
   subst hst;refine⟨_,rfl,fun k rec=>?_⟩;unfold Xl;simp only[AF,AK,AO,AB,r,q2,fa,AE])
  (N:=N) (by omega) (st:=[.int i,.int x,.int (0:Nat)]) (by simp)
 rw[F6];unfold jR;simp only[AP,AB,q,q1,c1,bq,and_self,if_true,bf,hx,wrap_i64 (show-9223372036854775808<=x by omega) (show x<9223372036854775808 by omega)];refine(h _).trans ?_;obtain⟨g1,g2⟩:=bC b2 b3 (7-i%8);simp only[AF,AB,dj g1];unfold Jn;rw[hx]
def JH (s:C):Prop:=∃o t:List C,s= .agg [.agg o,.agg t]/\o.length=32/\t.length=32/\(∀p∈o,Ao 16 p)/\∀p∈t,Ao 16 p
def EZ (d:C) (o t:List C) (j:Nat):C:=if Jn d j=0 then .agg [JP (o.getD j .nil),t.getD j .nil]else .agg [t.getD j .nil,JP (o.getD j .nil)]
def LD (d:C) (o t:List C) (j:Nat):List C:=((EZ d o t j).get 0).elems++((EZ d o t j).get 1).elems
def HR (d:C) (o t:List C) (n:Nat):List C:=(fi n).flatMap (LD d o t)
def eK (d:C) (o t:List C) (n:Nat):HR d o t (n+1)=HR d o t n++LD d o t n:=by unfold HR;rw[xb,ka];simp
def FQ {n:Nat} {p:C} (h:Ao n p):p.elems.length=n/\p= .agg p.elems/\∀c∈p.elems,BQ c:=by obtain⟨l,rfl,hl,hb⟩:=h;exact⟨hl,rfl,hb⟩
def W5 {d} {o t:List C} (ho:o.length=32) (ht:t.length=32) (hpo:∀p∈o,Ao 16 p) (hpt:∀p∈t,Ao 16 p) {j:Nat} (hj:j<32):
  Ao 16 ((EZ d o t j).get 0)/\Ao 16 ((EZ d o t j).get 1):=by
 have h1:=hpt _ (CT (l:=t) (i:=j) (by omega));have h2:=Nt (o.getD j .nil);unfold EZ;split;{exact⟨h2,h1⟩};{exact⟨h1,h2⟩}
def q8K {d} {o t:List C} (ho:o.length=32) (ht:t.length=32) (hpo:∀p∈o,Ao 16 p) (hpt:∀p∈t,Ao 16 p) {j:Nat} (hj:j<32):
  (LD d o t j).length=32/\∀c∈LD d o t j,BQ c:=by
 obtain⟨h1,h2⟩:=W5 (d:=d) ho ht hpo hpt hj;obtain⟨a1,_,a2⟩:=FQ h1;obtain⟨b1,_,b2⟩:=FQ h2;unfold LD;refine⟨by rw[bt];omega,fun c hc=>?_⟩;rcases dw.1 hc with hc|hc;{exact a2 c hc};{exact b2 c hc}
def SF {d} {o t:List C} (ho:o.length=32) (ht:t.length=32) (hpo:∀p∈o,Ao 16 p) (hpt:∀p∈t,Ao 16 p):∀{n:Nat},n<=32->
  (HR d o t n).length=32*n/\∀c∈HR d o t n,BQ c
 |0,_=>⟨rfl,fun _ h=>nomatch h⟩|n+1,hn=>by obtain⟨a1,a2⟩:=SF (d:=d) ho ht hpo hpt (n:=n) (by omega);obtain⟨b1,b2⟩:=q8K (d:=d) ho ht hpo hpt (j:=n) (by omega);rw[eK];refine⟨by rw[bt];omega,fun c hc=>?_⟩;rcases dw.1 hc with hc|hc;{exact a2 c hc};{exact b2 c hc}
def nQ:BQ (.int 2):=⟨rfl,by decide,by decide⟩
def iO (B:Nat) (l:List C) (h:∀c∈l,BQ c) (hl:l.length<=B):Hk B [bc l]:=fun x hx=>by rw[fq.1 hx];exact⟨rfl,by simpa[AI]using h,by rw[AI];omega⟩
def Uj {p} (h:Ao 16 p):cn 16 (da 0 (ao p))=ao p:=by rw[ia,dr (by rw[(FQ h).1];omega)]
def q8G {d} {o t:List C} (ho:o.length=32) (ht:t.length=32) (hpo:∀p∈o,Ao 16 p) (hpt:∀p∈t,Ao 16 p) (hN:5000<N) (hN2:N<4611686018427387904) (k:KD R):
  Rq N (.agg ((fi 32).map (EZ d o t))) k=k [Hg (CK (.int 2) [.slice (HR d o t 32)])] []:=by
 obtain⟨dd,rfl,h⟩:=FV (R:=R) (F:=fun k2=>WV N k2) 32 (fun i st=>st=[.agg ((fi 32).map (EZ d o t)),.slice (HR d o t i),.int i,AJ (.arr 32 (.int .u8))]) (fun dd=>dd=[.slice (HR d o t 32),AJ (.arr 32 (.int .u8))])
  (fun i st hi hst=>by
   subst hst;have e1:(i:Int)<32:=by omega
   obtain⟨p0,p1⟩:=W5 (d:=d) ho ht hpo hpt hi;obtain⟨a1,_,_⟩:=FQ p0;obtain⟨b1,_,_⟩:=FQ p1;obtain⟨c1,_⟩:=SF (d:=d) ho ht hpo hpt (n:=i) (by omega);have g:ax (dh ((fi 32).map (EZ d o t))) i=EZ d o t i:=by rw[Fh,bh,List.getElem?_map,List.getElem?_range hi];rfl
   have t0:=Uj p0;have t1:=Uj p1;have g1:(32*i+16)*1<=140737488355328/\32*i+16<=9223372036854775807:=by omega
   have g2:(32*i+16+16)*1<=140737488355328/\32*i+16+16<=9223372036854775807:=by omega
   refine⟨_,rfl,fun k rec=>?_⟩;unfold WV;simp only[AF,AK,AO,AV,AB,AI,e1,AE,bq,and_self,bf,kq,Int.reduceToNat,g,t0,t1,a1,b1,c1,g1,g2,br,bt,BK (show i<4611686018427387904 by omega)];rw[eK];unfold LD;rw[dp])
  (fun st hst=>by
   subst hst;refine⟨_,rfl,fun k rec=>?_⟩;unfold WV;have e:¬((32:Nat):Int)<32:=by decide
   simp only[AF,AK,AO,AV,AB,AI,e,AE,br])
  (N:=N) (by omega) (st:=[.agg ((fi 32).map (EZ d o t)),.slice [],.int (0:Nat),AJ (.arr 32 (.int .u8))]) rfl
 obtain⟨c1,c2⟩:=SF (d:=d) ho ht hpo hpt (n:=32) (by omega);have h2:=QV (R:=R) (N:=N) (.int 2) nQ [bc (HR d o t 32)] 1100 (iO 1100 _ c2 (by omega)) (by simp;omega) (by omega) hN2 (by rw[KI,c1];omega);rw[xS];unfold dR;simp only[AP];refine(h _).trans ?_;simp only[AF,AI,h2]
def Rd (s d:C):C:=Hg (CK (.int 2) [.slice (HR d (s.get 0).elems (s.get 1).elems 32)])
def oJ:C:=.agg [.agg (ay 16 (.int 0)),.agg (ay 16 (.int 0))]
def q6L (s d:C) (hs:JH s) (hd:Ao 32 d) (hN:5000<N) (hN2:N<4611686018427387904) (k:KD R):Rn N s d k=k [Rd s d] []:=by
 obtain⟨o,t,rfl,ho,ht,hpo,hpt⟩:=hs
 obtain⟨dd,rfl,h⟩:=FV (R:=R) (F:=fun k2=>WU N k2) 32 (fun i st=>st=[.agg [.agg o,.agg t],d,.int i,AJ (.arr 32 (.int .u8)),.agg ((fi i).map (EZ d o t)++ay (32-i) oJ)]) (fun dd=>dd=[AJ (.arr 32 (.int .u8)),.agg ((fi 32).map (EZ d o t))])
  (fun i st hi hst=>by
   subst hst;have e1:(i:Int)<32:=by omega
   have h1:=fun k:KD R=>q3N (N:=N) d hd i hi k;have h2:=fun k:KD R=>q4Y (N:=N) (o.getD i .nil) (hpo _ (CT (by omega))) hN hN2 k;obtain⟨m,hm⟩:∃m,32-i=m+1:=⟨31-i,by omega⟩;have hm':32-(i+1)=m:=by omega
   have hl:((fi i).map (EZ d o t)).length=i:=by simp
   have e2:List.map (EZ d o t) (fi (i+1))=List.map (EZ d o t) (fi i)++[EZ d o t i]:=by rw[xb,List.map_append];rfl
   refine⟨_,rfl,fun k rec=>?_⟩;unfold WU;rw[hm,hm',pe,e2];rcases qD d i with z|z
   ·have w:IntKind.u8.wrap (1-0)=1:=by decide
    simp only[AF,AK,AO,AV,Ac,AB,e1,h1,Eg,GR,Fh o,Fh t,h2,z,w,AE,bq,and_self,bf,kq,Int.reduceToNat,Int.le_refl,Int.reduceLT,Int.reduceLE,wG hl,Ub hl,BK (show i<4611686018427387904 by omega)];unfold EZ oJ;rw[if_pos z];simp only[Hf,IM,dp,ji,fx]
   ·have w:IntKind.u8.wrap (1-1)=0:=by decide
    simp only[AF,AK,AO,AV,Ac,AB,e1,h1,Eg,GR,Fh o,Fh t,h2,z,w,AE,bq,and_self,bf,kq,Int.reduceToNat,Int.le_refl,Int.reduceLT,Int.reduceLE,wG hl,Ub hl,BK (show i<4611686018427387904 by omega)];unfold EZ oJ;rw[if_neg (by omega)];simp only[Hf,IM,dp,ji,fx])
  (fun st hst=>by
   subst hst;refine⟨_,rfl,fun k rec=>?_⟩;unfold WU;have e:¬((32:Nat):Int)<32:=by decide
   simp only[AF,AK,AO,AV,Ac,AB,e,AE,um,pf,ly])
  (N:=N) (by omega) (st:=[.agg [.agg o,.agg t],d,.int (0:Nat),AJ (.arr 32 (.int .u8)),AJ (.arr 32 (.arr 2 (.arr 16 (.int .u8))))]) rfl
 rw[xP];unfold dN;simp only[AP];refine(h _).trans ?_;simp only[AF,AK,q8G ho ht hpo hpt hN hN2];rfl
def z3r (T:C) (hT:DH T) (s d:C) (hs:JH s) (hd:Ao 32 d) (hN:5000<N) (k:KD R):Ta N T s d k=k [Rd s d] []:=by
 obtain⟨o,t,rfl,ho,ht,hpo,hpt⟩:=hs
 obtain⟨dd,rfl,h⟩:=FV (R:=R) (F:=fun k2=>Xm N k2) 32 (fun i st=>st=[T,.agg [.agg o,.agg t],d,.slice (HR d o t i),.int i,AJ (.arr 32 (.int .u8))]) (fun dd=>dd=[T,.slice (HR d o t 32),AJ (.arr 32 (.int .u8))])
  (fun i st hi hst=>by
   subst hst;have e1:(i:Int)<32:=by omega
   have h1:=fun k:KD R=>J4 (N:=N) d hd i hi (by omega) k;have h2:=fun k:KD R=>jB (N:=N) T hT (o.getD i .nil) (hpo _ (CT (by omega))) hN k;obtain⟨c1,_⟩:=SF (d:=d) ho ht hpo hpt (n:=i) (by omega);have t0:=Uj (Nt (o.getD i .nil));have t1:=Uj (hpt _ (CT (l:=t) (i:=i) (by omega)));obtain⟨a1,_,_⟩:=FQ (Nt (o.getD i .nil));obtain⟨b1,_,_⟩:=FQ (hpt _ (CT (l:=t) (i:=i) (by omega)));have g1:(32*i+16)*1<=140737488355328/\32*i+16<=9223372036854775807:=by omega
   have g2:(32*i+16+16)*1<=140737488355328/\32*i+16+16<=9223372036854775807:=by omega
   refine⟨_,rfl,fun k rec=>?_⟩;unfold Xm;rw[eK];rcases qD d i with z|z;{simp only[AP,AF,AK,AO,AV,Ac,Av,AB,AI,e1,h1,Eg,GR,Fh o,Fh t,h2,z,t0,t1,a1,b1,c1,g1,g2,AE,bq,and_self,bf,br,bt,BK (show i<4611686018427387904 by omega)];unfold LD EZ;rw[if_pos z,dp];rfl}
   ·simp only[AP,AF,AK,AO,AV,Ac,Av,AB,AI,e1,h1,Eg,GR,Fh o,Fh t,h2,z,show ¬((1:Int)=0) by decide,t0,t1,a1,b1,c1,g1,g2,AE,bq,and_self,bf,br,bt,BK (show i<4611686018427387904 by omega)];unfold LD EZ;rw[if_neg (by omega),dp];rfl)
  (fun st hst=>by
   subst hst;refine⟨_,rfl,fun k rec=>?_⟩;unfold Xm;have e:¬((32:Nat):Int)<32:=by decide
   simp only[AF,AK,AO,AV,Ac,Av,AB,AI,e,AE,br])
  (N:=N) (by omega) (st:=[T,.agg [.agg o,.agg t],d,.slice [],.int (0:Nat),AJ (.arr 32 (.int .u8))]) rfl
 obtain⟨c1,c2⟩:=SF (d:=d) ho ht hpo hpt (n:=32) (by omega);have h2:=QU (R:=R) (N:=N) T hT (.int 2) nQ [bc (HR d o t 32)] 1100 (iO 1100 _ c2 (by omega)) (by omega) (by simp) (by rw[KI,c1];omega) (by rw[KI,c1];simp;omega);rw[F8];unfold jU;simp only[AP];refine(h _).trans ?_;simp only[AF,AK,AI,h2];rfl
def q7L (s:C) (hs:JH s) (hN:100<N) (k:KD R):Rs N s k=k [s] []:=by
 obtain⟨o,t,rfl,ho,ht,hpo,hpt⟩:=hs
 obtain⟨dd,rfl,h⟩:=FV (R:=R) (F:=fun k2=>WX N k2) 32 (fun i st=>st=[.agg [.agg o,.agg t],.int i,.agg [.agg (ay 32 (.agg (ay 16 (.int 0)))),.agg (ay 32 (.agg (ay 16 (.int 0))))],.agg [.agg (o.take i++ay (32-i) (.agg (ay 16 (.int 0)))),.agg (t.take i++ay (32-i) (.agg (ay 16 (.int 0))))]])
  (fun dd=>dd=[.agg [.agg (ay 32 (.agg (ay 16 (.int 0)))),.agg (ay 32 (.agg (ay 16 (.int 0))))],.agg [.agg o,.agg t]])
  (fun i st hi hst=>by
   subst hst;have e1:(i:Int)<32:=by omega
   obtain⟨m,hm⟩:∃m,32-i=m+1:=⟨31-i,by omega⟩;have hm':32-(i+1)=m:=by omega
   have l1:(o.take i).length=i:=by simp;omega
   have l2:(t.take i).length=i:=by simp;omega
   refine⟨_,rfl,fun k rec=>?_⟩;unfold WX;rw[hm,hm',pe (n:=m),Li (show i<o.length by omega),Li (show i<t.length by omega)];simp only[AF,AK,AO,AV,AB,e1,Eg,GR,Hf,IM,Fh o,Fh t,Ub l1,Ub l2,AE,bq,and_self,bf,dp,ji,fx,BK (show i<4611686018427387904 by omega)])
  (fun st hst=>by
   subst hst;refine⟨_,rfl,fun k rec=>?_⟩;unfold WX;have e:¬((32:Nat):Int)<32:=by decide
   simp only[AF,AK,AO,AV,AB,e,AE,um,pf,ly,dr (show o.length<=32 by omega),dr (show t.length<=32 by omega)])
  (N:=N) (by omega) (st:=[.agg [.agg o,.agg t],.int (0:Nat),.agg [.agg (ay 32 (.agg (ay 16 (.int 0)))),.agg (ay 32 (.agg (ay 16 (.int 0))))],.agg [.agg (ay 32 (.agg (ay 16 (.int 0)))),.agg (ay 32 (.agg (ay 16 (.int 0))))]]) rfl
 rw[xT];unfold dT;simp only[AP];exact(h _).trans rfl
end
section
variable {R:Type} {N:Nat}
end
section
variable {R:Type} {N:Nat}
end
def z0t:List Sh:=[.ts 1 (.int .u8),.d (.int .u64),.d (.int .i64)]
def z0v:List (Key × OSh):=[]
def Sq {R:Type} (N:Nat) (k2:KD R):KD R->KD R:=fun k3 d1 m1=>(bif decide (0<=aj (dk d1 2))then(if 0<=al ar (8*aj (dk d1 2))then(bif bw (ak (ao (dk d1 1))) (ak (ao (dk d1 1)))then(if(ak (ao (dk d1 1))+1)*1<=140737488355328/\ak (ao (dk d1 1))+1<=9223372036854775807 then(bif bw (ak (ao (dk d1 1))+1) (ak (ao (dk d1 1)++[aw (al bp (fw (aj (dk d1 0)) (2^min (aq (al ar (8*aj (dk d1 2)))) 64)))]))then(k3 [dk d1 0,bc (ao (dk d1 1)++[aw (al bp (fw (aj (dk d1 0)) (2^min (aq (al ar (8*aj (dk d1 2)))) 64)))]),aw (al ar (aj (dk d1 2)-1))] [])else none)else none)else none)else none)else(bif bw (ak (ao (dk d1 1))) (ak (ao (dk d1 1)))then(k2 [bc (ao (dk d1 1))] [])else none))
def gS (a0 a1 a2:C) (k1:KD R):Option R:=jn (fun d1 m1=>(bif bw (ak (ao (dk d1 0))) (ak (ao (dk d1 0)))then(k1 [bc (ao (dk d1 0))] [])else none)) (fun k2=>(bif bw (ak (ao a0)) (ak (ao a0))then(Ae N (Sq N k2) [a1,bc (ao a0),aw (al ar (aj a2-1))] [])else none))
def PD:=lid "" (@gS R N)
def c5 {R N a0 a1 a2 k}:@PD R N a0 a1 a2 k=gS N a0 a1 a2 k:=by unfold PD;rw[AW]
def z0u:OvG R:=Cf z0t z0v (fun ds ms=>PD N (dk ds 0) (dk ds 1) (dk ds 2)) fun ds ms K d1 m1=>K (vb 1 (bn bp) (ao (dk d1 0))) []
def g9:okX 148 (@z0u R N):=Cq AZ N [] [(148,[([1,0,1],(Ah [(0,.sl 1 (.int .u8) 5000)])),
  ([4,1,0,1],(AY [1] [(0,.sl 1 (.int .u8) 5000),(7,.d (.int .i64))])),
  ([9],(Ah [(6,.sl 1 (.int .u8) 5006)]))])] (fun _ _ _=>c5) fun ds ms K=>(show _=jn (fun d1 m1=>(bif bw (ak (ao (dk d1 0))) (ak (ao (dk d1 0)))then
  (K (vb 1 (bn bp) (ao (dk d1 0))) [])
 else
  none)) _ by kernel_rfl).trans (congrArg (fun k=>jn k _) (funext fun _=>funext fun _=>by simp only[br,cond_true]))
def z0g:List Sh:=[.ts 1 (.int .u8),.d (.slice 8 (.int .u64))]
def z0i:List (Key × OSh):=[]
def XE (k2:KD R):KD R->KD R:=fun k3 d1 m1=>(bif decide (aj (dk d1 3)<aj (dk d1 1))then(if 0<=aj (dk d1 3)/\aj (dk d1 3)<(↑(ak (ao (dk d1 0))):Int)then(bif bw (ak (ao (dk d1 2))) (ak (ao (dk d1 2)))then(PD N (bc (ao (dk d1 2))) (bj (ao (dk d1 0)) (aq (aj (dk d1 3))) du) (aw 8) (fun d2 m2=>(bif bw (ak (ao (dk d2 0))) (ak (ao (dk d2 0)))then(k3 [dk d1 0,dk d1 1,bc (ao (dk d2 0)),aw (al ar (aj (dk d1 3)+1))] [])else none)))else none)else none)else(bif bw (ak (ao (dk d1 2))) (ak (ao (dk d1 2)))then(k2 [bc (ao (dk d1 2))] [])else none))
def gN (a0 a1:C) (k1:KD R):Option R:=jn (fun d1 m1=>(bif bw (ak (ao (dk d1 0))) (ak (ao (dk d1 0)))then(k1 [bc (ao (dk d1 0))] [])else none)) (fun k2=>(bif bw (ak (ao a0)) (ak (ao a0))then(Ae N (XE N k2) [a1,aw (↑(ak (ao a1)):Int),bc (ao a0),aw 0] [])else none))
def KL:=lid "" (@gN R N)
def j3 {R N a0 a1 k}:@KL R N a0 a1 k=gN N a0 a1 k:=by unfold KL;rw[AW]
def z0h:OvG R:=Cf z0g z0i (fun ds ms=>KL N (dk ds 0) (dk ds 1)) fun ds ms K d1 m1=>K (vb 1 (bn bp) (ao (dk d1 0))) []
def o9:okX 149 (@z0h R N):=Cq (AH (g9 N) <| AZ) N [(149,[(4,[(15,1)])])] [(149,[([1,0,1],(Ah [(0,.sl 1 (.int .u8) 5000)])),
  ([4,1,0,1],(AY [7,8] [(0,.sl 1 (.int .u8) 5000),(9,.d (.int .i64))])),
  ([9],(Ah [(4,.sl 1 (.int .u8) 5004)]))])] (fun _ _ _=>j3) fun ds ms K=>(show _=jn (fun d1 m1=>(bif bw (ak (ao (dk d1 0))) (ak (ao (dk d1 0)))then
  (K (vb 1 (bn bp) (ao (dk d1 0))) [])
 else
  none)) _ by kernel_rfl).trans (congrArg (fun k=>jn k _) (funext fun _=>funext fun _=>by simp only[br,cond_true]))
def z0m:List Sh:=[.ts 1 (.int .u8),.d (.slice 1 (.int .u8))]
def z0o:List (Key × OSh):=[]
def gQ {R:Type} (N:Nat) (a0 a1:C) (k1:KD R):Option R:=bif bw (ak (ao a0)) (ak (ao a0))then(if(ak (ao a0)+ak (ao a1))*1<=140737488355328/\ak (ao a0)+ak (ao a1)<=9223372036854775807 then(bif bw (ak (ao a0)+ak (ao a1)) (ak (ao a0++ao a1))then(k1 [bc (ao a0++ao a1)] [])else none)else none)else none
def Mm:=lid "" (@gQ R N)
def j7 {R N a0 a1 k}:@Mm R N a0 a1 k=gQ N a0 a1 k:=by unfold Mm;rw[AW]
def z0n:OvG R:=Cf z0m z0o (fun ds ms=>Mm N (dk ds 0) (dk ds 1)) fun ds ms K d1 m1=>K (vb 1 (bn bp) (ao (dk d1 0))) []
def j6:okX 150 (@z0n R N):=Cq AZ N [] [(150,[([9],(Ah [(4,.sl 1 (.int .u8) 5004)]))])] (fun _ _ _=>j7) fun ds ms K=>(show _=jn (fun d1 m1=>(bif bw (ak (ao (dk d1 0))) (ak (ao (dk d1 0)))then
  (K (vb 1 (bn bp) (ao (dk d1 0))) [])
 else
  none)) _ by kernel_rfl).trans (congrArg (fun k=>jn k _) (funext fun _=>funext fun _=>by simp only[br,cond_true]))
def z0j:List Sh:=[.ts 1 (.int .u8),.d (.slice 4 (.int .u32))]
def z0l:List (Key × OSh):=[]
def XF (k2:KD R):KD R->KD R:=fun k3 d1 m1=>(bif decide (aj (dk d1 3)<aj (dk d1 1))then(if 0<=aj (dk d1 3)/\aj (dk d1 3)<(↑(ak (ao (dk d1 0))):Int)then(bif bw (ak (ao (dk d1 2))) (ak (ao (dk d1 2)))then(PD N (bc (ao (dk d1 2))) (aw (al av (aj (bj (ao (dk d1 0)) (aq (aj (dk d1 3))) du)))) (aw 4) (fun d2 m2=>(bif bw (ak (ao (dk d2 0))) (ak (ao (dk d2 0)))then(k3 [dk d1 0,dk d1 1,bc (ao (dk d2 0)),aw (al ar (aj (dk d1 3)+1))] [])else none)))else none)else none)else(bif bw (ak (ao (dk d1 2))) (ak (ao (dk d1 2)))then(k2 [bc (ao (dk d1 2))] [])else none))
def gP (a0 a1:C) (k1:KD R):Option R:=jn (fun d1 m1=>(bif bw (ak (ao (dk d1 0))) (ak (ao (dk d1 0)))then(k1 [bc (ao (dk d1 0))] [])else none)) (fun k2=>(bif bw (ak (ao a0)) (ak (ao a0))then(Ae N (XF N k2) [a1,aw (↑(ak (ao a1)):Int),bc (ao a0),aw 0] [])else none))
def LP:=lid "" (@gP R N)
def j5 {R N a0 a1 k}:@LP R N a0 a1 k=gP N a0 a1 k:=by unfold LP;rw[AW]
def z0k:OvG R:=Cf z0j z0l (fun ds ms=>LP N (dk ds 0) (dk ds 1)) fun ds ms K d1 m1=>K (vb 1 (bn bp) (ao (dk d1 0))) []
def j4:okX 137 (@z0k R N):=Cq (AH (g9 N) <| AZ) N [(137,[(4,[(16,1)])])] [(137,[([1,0,1],(Ah [(0,.sl 1 (.int .u8) 5000)])),
  ([4,1,0,1],(AY [7,8] [(0,.sl 1 (.int .u8) 5000),(9,.d (.int .i64))])),
  ([9],(Ah [(4,.sl 1 (.int .u8) 5004)]))])] (fun _ _ _=>j5) fun ds ms K=>(show _=jn (fun d1 m1=>(bif bw (ak (ao (dk d1 0))) (ak (ao (dk d1 0)))then
  (K (vb 1 (bn bp) (ao (dk d1 0))) [])
 else
  none)) _ by kernel_rfl).trans (congrArg (fun k=>jn k _) (funext fun _=>funext fun _=>by simp only[br,cond_true]))
def z0p:List Sh:=[.ts 1 (.int .u8),.d (.slice 32 (.arr 32 (.int .u8)))]
def z0s:List (Key × OSh):=[]
def j8 {R:Type} (N:Nat) (k2:KD R):KD R->KD R:=fun k3 d1 m1=>(bif decide (aj (dk d1 3)<aj (dk d1 1))then(if 0<=aj (dk d1 3)/\aj (dk d1 3)<(↑(ak (ao (dk d1 0))):Int)then(bif bw (ak (ao (dk d1 2))) (ak (ao (dk d1 2)))then(if(ak (ao (dk d1 2))+ak (cn 32 (da 0 (ao (bj (ao (dk d1 0)) (aq (aj (dk d1 3))) du)))))*1<=140737488355328/\ak (ao (dk d1 2))+ak (cn 32 (da 0 (ao (bj (ao (dk d1 0)) (aq (aj (dk d1 3))) du))))<=9223372036854775807 then(bif bw (ak (ao (dk d1 2))+ak (cn 32 (da 0 (ao (bj (ao (dk d1 0)) (aq (aj (dk d1 3))) du))))) (ak (ao (dk d1 2)++cn 32 (da 0 (ao (bj (ao (dk d1 0)) (aq (aj (dk d1 3))) du)))))then(k3 [dk d1 0,dk d1 1,bc (ao (dk d1 2)++cn 32 (da 0 (ao (bj (ao (dk d1 0)) (aq (aj (dk d1 3))) du)))),aw (al ar (aj (dk d1 3)+1))] [])else none)else none)else none)else none)else(bif bw (ak (ao (dk d1 2))) (ak (ao (dk d1 2)))then(k2 [bc (ao (dk d1 2))] [])else none))
def gR (a0 a1 a2:C) (k1:KD R):Option R:=jn (fun d1 m1=>(bif bw (ak (ao (dk d1 0))) (ak (ao (dk d1 0)))then(k1 [bc (ao (dk d1 0))] [])else none)) (fun k2=>(bif bw (ak (ao a0)) (ak (ao a0))then(Ae N (j8 N k2) [a1,aw (↑(ak (ao a1)):Int),bc (ao a0),aw 0] [])else none))
def Sp:=lid "" (@gR R N)
def j9 {R N a0 a1 a2 k}:@Sp R N a0 a1 a2 k=gR N a0 a1 a2 k:=by unfold Sp;rw[AW]
def z0q:OvG R:=Cf z0p z0s (fun ds ms=>Sp N (dk ds 0) (dk ds 1) (dk ds 2)) fun ds ms K d1 m1=>K (vb 1 (bn bp) (ao (dk d1 0))) []
def z0r:okX 155 (@z0q R N):=Cq AZ N [] [(155,[([1,0,1],(Ah [(0,.sl 1 (.int .u8) 5000)])),
  ([4,1,0,1],(AY [7,8] [(0,.sl 1 (.int .u8) 5000),(9,.d (.int .i64))])),
  ([9],(Ah [(4,.sl 1 (.int .u8) 5004)]))])] (fun _ _ _=>j9) fun ds ms K=>(show _=jn (fun d1 m1=>(bif bw (ak (ao (dk d1 0))) (ak (ao (dk d1 0)))then
  (K (vb 1 (bn bp) (ao (dk d1 0))) [])
 else
  none)) _ by kernel_rfl).trans (congrArg (fun k=>jn k _) (funext fun _=>funext fun _=>by simp only[br,cond_true]))
def TL {R:Type} (N:Nat) (a2:C) (k2:KD R):KD R->KD R:=fun k3 d1 m1=>(bif decide (0<=aj (dk d1 5))then(if 0<=aj (dk d1 5)/\aj (dk d1 5)<(↑(aq (aj (dk d1 2))):Int)then(if cq (aq (aj a2)) (bn bp)=cq (aq (aj a2)) (bn bp)then(k3 [dk d1 0,aw (↑(aq (aj (dk d1 1))):Int),aw (↑(aq (aj (dk d1 2))):Int),aw (↑(aq (aj (dk d1 3))):Int),aw (al av (dx (aj (dk d1 4)) 256)),aw (al ar (aj (dk d1 5)-1)),ct (dk d1 6) (aq (aj (dk d1 1))+aq (aj (dk d1 5))) (aw (al bp (bm (aj (dk d1 4)) 256)))] [])else none)else none)else(if cq (aq (aj a2)) (bn bp)=cq (aq (aj a2)) (bn bp)then(k2 [dk d1 0,aw (↑(aq (aj (dk d1 1))):Int),aw (↑(aq (aj (dk d1 2))):Int),aw (↑(aq (aj (dk d1 3))):Int),dk d1 6] [])else none))
def jC (a0 a1 a2:C) (k1:KD R):Option R:=if 0<=aj a2/\aj a2<=aj a2/\aj a2<=9223372036854775807/\aq (aj a2)*1<=140737488355328 then(jn (fun d1 m1=>(bif bw (ak (ao (dk d1 0))) (ak (ao (dk d1 0)))then(if(ak (ao (dk d1 0))+ak (cn (aq (aj (dk d1 2))) (da (aq (aj (dk d1 1))) (ao (dk d1 4)))))*1<=140737488355328/\ak (ao (dk d1 0))+ak (cn (aq (aj (dk d1 2))) (da (aq (aj (dk d1 1))) (ao (dk d1 4))))<=9223372036854775807 then(bif bw (ak (ao (dk d1 0))+ak (cn (aq (aj (dk d1 2))) (da (aq (aj (dk d1 1))) (ao (dk d1 4))))) (ak (ao (dk d1 0)++cn (aq (aj (dk d1 2))) (da (aq (aj (dk d1 1))) (ao (dk d1 4)))))then(k1 [bc (ao (dk d1 0)++cn (aq (aj (dk d1 2))) (da (aq (aj (dk d1 1))) (ao (dk d1 4))))] [])else none)else none)else none)) (fun k2=>(if cq (aq (aj a2)) (bn bp)=cq (aq (aj a2)) (bn bp)then(Ae N (TL N a2 k2) [a0,aw 0,aw (↑(aq (aj a2)):Int),aw (↑(aq (aj a2)):Int),a1,aw (al ar (aj a2-1)),dh (ay (aq (aj a2)) (AJ (bn bp)))] [])else none)))else none
def FM:=lid "" (@jC R N)
def J9 {R N a0 a1 a2 k}:@FM R N a0 a1 a2 k=jC N a0 a1 a2 k:=by unfold FM;rw[AW]
def z1t:OvG R:=Af [.slice 1 (.int .u8),.int .u64,.int .i64] (Ds (FM N)) fun a K d1 m1=>K (vb 1 (bn bp) (ao (dk d1 0))) []
def Xg:okX 99 (@z1t R N):=Ai AZ N [] [(99,[([1,0,1,1],(AY [0,7] [])),
  ([4,1,0,1,1],(AY [0,7] [(1,.d (.int .u64)),(8,.d (.int .i64))])),
  ([9],(Ah [(6,.sl 1 (.int .u8) 5006)]))])] (fun _ _=>J9) fun a K=>(show _=jn (fun d1 m1=>(bif bw (ak (ao (dk d1 0))) (ak (ao (dk d1 0)))then
  (K (vb 1 (bn bp) (ao (dk d1 0))) [])
 else
  none)) _ by kernel_rfl).trans (congrArg (fun k=>jn k _) (funext fun _=>funext fun _=>by simp only[br,cond_true]))
section
variable {R:Type} {N:Nat}
def BM:Nat->Int->List C
 |0,_=>[]|k+1,n=>BM k (n / 256)++[.int (n%256)]
def Dj:∀(k:Nat) (n:Int),(BM k n).length=k
 |0,_=>rfl|k+1,n=>by simp[BM,Dj k]
def p9:∀(k:Nat) (n:Int),BM (k+1) n= .int (n / 256^k%256)::BM k n
 |0,n=>by simp[BM]
 |k+1,n=>by
  have e:n / 256 / 256^k=n / 256^(k+1):=by rw[tr (by omega),Int.pow_succ,Int.mul_comm]
  rw[BM,p9 k (n / 256),e];rfl
def Y5 (k2:KD R) (c:C) (hc:0<=c.toInt):∀(m:Nat) (out:List C) (N':Nat),m<=8->m<N'->out.length+m<=1000000000000->
  Ae N' (Sq N k2) [c,.slice out,.int ((m:Int)-1)] []=k2 [.slice (out++BM m c.toInt)] []
 |0,out,N',_,hN,_=>by obtain⟨n,rfl⟩:∃n,N'=n+1:=⟨N'-1,by omega⟩;rw[Bq];unfold Sq;simp[go_sem,AB,AI,BM]
 |m+1,out,N',hm,hN,hl=>by
  obtain⟨n,rfl⟩:∃n,N'=n+1:=⟨N'-1,by omega⟩;have e0:((m+1:Nat):Int)-1=m:=by omega
  have e1:IntKind.i64.wrap (8*(m:Int))=8*m:=wrap_i64 (by omega) (by omega);have e2:IntKind.i64.wrap ((m:Int)-1)=m-1:=wrap_i64 (by omega) (by omega);have e3:min (8*(m:Int)).toNat 64=8*m:=by omega
  have e4:fw c.toInt (2^(8*m))=c.toInt / 256^m:=by rw[ib _ (Int.pow_nonneg (by omega)),Int.pow_mul];rfl
  have h1:(0:Int)<=8*m:=by omega
  have h2:(out.length+1)*1<=140737488355328/\out.length+1<=9223372036854775807:=by omega
  have hb:∀rec:KD R,Sq N k2 rec [c,.slice out,.int m] []=rec [c,.slice (out++[.int (c.toInt / 256^m%256)]),.int ((m:Int)-1)] []:=by intro rec;unfold Sq;simp only[AF,AK,AO,AB,AI,e1,e2,e3,e4,wrap_u8,h1,h2,and_self,AE,bq,br,bt,cg,de,cm]
  rw[Bq,e0,hb];rw[Y5 k2 c hc m _ n (by omega) (by omega) (by simp;omega),p9];simp
def Y4 (out:List C) (c:C) (hc:0<=c.toInt) (m:Nat) (hm:m<=8) (hl:out.length+m<=1000000000000) (hN:100<N) (k:KD R):
  PD N (.slice out) c (.int m) k=k [.slice (out++BM m c.toInt)] []:=by
 rw[c5];unfold gS;simp only[AP,AB,AI,AF,br,cond_true];rw[wrap_i64 (by omega) (by omega),Y5 _ c hc m out N hm (by omega) hl];rfl
def Y3 (out l:List C) (hl:out.length+l.length<=1000000000000) (k:KD R):Mm N (.slice out) (.slice l) k=k [.slice (out++l)] []:=by rw[j7];unfold gQ;simp only[AI,br,cond_true,bt];rw[if_pos (by omega)]
def DZ (k:Nat) (l:List C):List C:=l.flatMap fun c=>BM k c.toInt
def o6 {k:Nat} {l:List C} {i:Nat} (h:i<l.length):DZ k (l.take (i+1))=DZ k (l.take i)++BM k (l.getD i .nil).toInt:=by
 have:l.take (i+1)=l.take i++[l.getD i .nil]:=by rw[lz,bg h,bh,bg h];rfl
 rw[this];simp[DZ]
def gK (k:Nat):∀l:List C,(DZ k l).length=k*l.length
 | []=>rfl|c::l=>by have:=gK k l;simp only[DZ,List.flatMap_cons,bt,Dj,cg]at this ⊢;rw[this,Nat.mul_succ];omega
def XO (out l:List C) (hc:∀c∈l,0<=c.toInt) (hl:out.length+8*l.length<=1000000000000) (hN:l.length+100<N) (k:KD R):
  KL N (.slice out) (.slice l) k=k [.slice (out++DZ 8 l)] []:=by
 rw[j3];unfold gN;simp only[AP,AB,AI,AF,br,cond_true];have key:=DX (F:=XE N fun d1 m1=>k [.slice (dk d1 0).elems] []) (fun i=>[.slice l,.int l.length,.slice (out++DZ 8 (l.take i)),.int i]) (fun _=>[]) l.length (k [.slice (out++DZ 8 l)] []) ?_ ?_ (N:=N) (by omega);{simpa[DZ]using key}
 ·intro i hi rec;have h1:(i:Int)<(l.length:Int):=by omega
  unfold XE;simp only[AF,AK,AO,AV,AB,AI,h1,AE,bq,and_self,br,bf];rw[show aw 8=aw ((8:Nat):Int) from rfl,Y4 _ _ (hc _ (CT hi)) 8 (by omega) (by simp[gK];omega) (by omega)];simp only[AF,AI,br,cond_true,o6 hi,BK (show i<4611686018427387904 by omega),dp]
 ·intro rec;unfold XE;simp only[AF,AK,AO,AV,AB,AI,fa,AE,br,iu]
def Y2 (out l:List C) (hc:∀c∈l,0<=c.toInt/\c.toInt<18446744073709551616) (hl:out.length+4*l.length<=1000000000000) (hN:l.length+100<N) (k:KD R):
  LP N (.slice out) (.slice l) k=k [.slice (out++DZ 4 l)] []:=by
 rw[j5];unfold gP;simp only[AP,AB,AI,AF,br,cond_true];have key:=DX (F:=XF N fun d1 m1=>k [.slice (dk d1 0).elems] []) (fun i=>[.slice l,.int l.length,.slice (out++DZ 4 (l.take i)),.int i]) (fun _=>[]) l.length (k [.slice (out++DZ 4 l)] []) ?_ ?_ (N:=N) (by omega);{simpa[DZ]using key}
 ·intro i hi rec;have h1:(i:Int)<(l.length:Int):=by omega
  have h2:=hc _ (CT hi);unfold XF;simp only[AF,AK,AO,AV,AB,AI,h1,AE,bq,and_self,br,bf];rw[wrap_u64 h2.1 h2.2,show aw 4=aw ((4:Nat):Int) from rfl,Y4 _ _ (by simpa[AB]using h2.1) 4 (by omega) (by simp[gK];omega) (by omega)];simp only[AF,AB,AI,br,cond_true,o6 hi,BK (show i<4611686018427387904 by omega),dp]
 ·intro rec;unfold XF;simp only[AF,AK,AO,AV,AB,AI,fa,AE,br,iu]
def z0M (out:List C) (c x:C) (hc:c.elems.length=32) (hl:out.length+32<=1000000000000) (hN:100<N) (k:KD R):
  Sp N (.slice out) (.slice [c]) x k=k [.slice (out++c.elems)] []:=by
 obtain⟨n,rfl⟩:∃n,N=n+2:=⟨N-2,by omega⟩;have e1:c.elems.take 32=c.elems:=by rw[dr (by omega)]
 have w1:IntKind.i64.wrap (0+1)=1:=by decide
 rw[j9];unfold gR;simp only[AP,AB,AI,AF,br,cond_true];rw[Bq];unfold j8;simp only[AF,AK,AO,AV,AB,AI,cg,de,cm,List.getD_cons_zero,kq,ia,e1,hc,br,cond_true,bt,w1];rw[if_pos (by omega),Bq];simp[go_sem,AB,AI];intro h;omega
def q1l (a0:C) (S:Nat) (k2:KD R):∀(m:Nat) (c:C) (X:List C) (N':Nat),m<=S->S<=8->m<N'->W64 c.toInt->
  Ae N' (TL N (.int S) k2) [a0,.int 0,.int S,.int S,c,.int ((m:Int)-1),.agg (ay m (.int 0)++X)] []=k2 [a0,.int 0,.int S,.int S,.agg (BM m c.toInt++X)] []
 |0,c,X,N',_,_,hN,_=>by obtain⟨n',rfl⟩:∃n,N'=n+1:=⟨N'-1,by omega⟩;rw[Bq];unfold TL;simp[go_sem,AB,AI,BM]
 |m+1,c,X,N',hm,hS,hN,hn=>by
  generalize hcn:c.toInt=n at hn ⊢;obtain⟨n',rfl⟩:∃n,N'=n+1:=⟨N'-1,by omega⟩;have e0:((m+1:Nat):Int)-1=m:=by omega
  have e2:IntKind.i64.wrap ((m:Int)-1)=m-1:=wrap_i64 (by omega) (by omega);have e3:dx n 256=n / 256:=ei hn.1;have e4:bm n 256=n%256:=dj hn.1;have e5:IntKind.u64.wrap (n / 256)=n / 256:=wrap_u64 (by have:=hn.1;omega) (by have:=hn.2;omega);have h1:(m:Int)<(S:Int):=by omega
  have e6:ct (.agg (ay (m+1) (.int 0)++X)) m (.int (n%256%256))= .agg (ay m (.int 0)++(.int (n%256)::X)):=by
   have:ay (m+1) (aw 0)++X=ay m (aw 0)++(.int 0::X):=by rw[List.replicate_succ'];simp
   rw[this];simp[ct,List.set_append]
  have hb:∀rec:KD R,TL N (.int S) k2 rec [a0,.int 0,.int S,.int S,c,.int m,.agg (ay (m+1) (.int 0)++X)] []=
    rec [a0,.int 0,.int S,.int S,.int (n / 256),.int ((m:Int)-1),.agg (ay m (.int 0)++(.int (n%256)::X))] []:=by
   intro rec;unfold TL;simp only[AF,AK,AO,AV,Ac,Av,BW,AB,hcn,bq,AE,bf,h1,and_self,kq,cm,e2,e3,e4,e5,wrap_u8,e6];rfl
  rw[Bq,e0,hb,q1l a0 S k2 m (.int (n / 256)) _ n' (by omega) hS (by omega) (by simp only[AB];exact⟨by have:=hn.1;omega,by have:=hn.2;omega⟩)];simp[BM,AB]
def Pf (out:List C) (c:C) (hn:W64 c.toInt) (S:Nat) (hS:S<=8) (hl:out.length+S<=1000000000000) (hN:100<N) (k:KD R):
  FM N (.slice out) c (.int S) k=k [.slice (out++BM S c.toInt)] []:=by
 rw[J9];unfold jC;simp only[AP,AB,AI,if_true,bf];rw[if_pos (by omega),wrap_i64 (by omega) (by omega)]
 have:=q1l (N:=N) (.slice out) S (fun d1 m1=>(bif bw (ak (ao (dk d1 0))) (ak (ao (dk d1 0)))then
    (if(ak (ao (dk d1 0))+
    ak
     (cn (aq (aj (dk d1 2))) (da (aq (aj (dk d1 1))) (ao (dk d1 4)))))*
   1<=
  140737488355328/\
 ak (ao (dk d1 0))+
   ak
    (cn (aq (aj (dk d1 2))) (da (aq (aj (dk d1 1))) (ao (dk d1 4))))<=
  9223372036854775807 then
     (bif bw
 (ak (ao (dk d1 0))+
  ak
   (cn (aq (aj (dk d1 2))) (da (aq (aj (dk d1 1))) (ao (dk d1 4)))))
 (ak
  (ao (dk d1 0)++
   cn (aq (aj (dk d1 2))) (da (aq (aj (dk d1 1))) (ao (dk d1 4)))))then
      (k [bc
  (ao (dk d1 0)++
   cn (aq (aj (dk d1 2))) (da (aq (aj (dk d1 1))) (ao (dk d1 4))))] [])
     else
      none)
    else
     none)
   else
    none)) S c [] N (Nat.le_refl _) hS (by omega) hn
 rw[ly]at this;refine Eq.trans this ?_;have e1:(BM S c.toInt).take S=BM S c.toInt:=by rw[dr (by rw[Dj];omega)]
 simp only[ly,AF,AK,AO,Ac,AB,AI,DV,bf,kq,ia,e1,bt,Dj,br,cond_true];rw[if_pos (by omega)]
end
def q0f {R:Type} (N:Nat) (k2:KD R):KD R->KD R:=fun k3 d1 m1=>(bif decide (aj (dk d1 2)<aj (dk d1 0))then(k3 [dk d1 0,aw (al ar (2*aj (dk d1 1))),aw (al ar (aj (dk d1 2)+1))] [])else(k2 [dk d1 1] []))
def jZ (a0:C) (k1:KD R):Option R:=jn (fun d1 m1=>(k1 [dk d1 0] [])) (fun k2=>(Ae N (q0f N k2) [a0,aw 1,aw 0] []))
def Te:=lid "" (@jZ R N)
def q0g {R N a0 k}:@Te R N a0 k=jZ N a0 k:=by unfold Te;rw[AW]
def z1Y:OvG R:=Af [.int .i64] (Bs (Te N)) (BD (bn ar))
def z1Z:okX 59 (@z1Y R N):=Ai AZ N [] [(59,[([1,0,1,1],(Ah [(3,.d (.int .i64))])),
  ([4,1,0,1,1],(AY [0] [(3,.d (.int .i64)),(4,.d (.int .i64))])),
  ([9],(Ah [(2,.d (.int .i64))]))])] (fun _ _=>q0g)
def jW (a0 a1 a2 a3 a4:C) (k1:KD R):Option R:=FM N (bc []) (aw (al av (aj a2))) (aw 4) (fun d1 m1=>(Gq N a0 (aw 1) (bc [bc (cut (ao a1) 0 32),bc (ao (dk d1 0)),bc [aw (al bp (aj a3)),aw (al bp (aj a4))]]) (fun d2 m2=>(Po N (dk d2 0) (fun d3 m3=>(k1 [dk d3 0] []))))))
def Ms:=lid "" (@jW R N)
def q0b {R N a0 a1 a2 a3 a4 k}:@Ms R N a0 a1 a2 a3 a4 k=jW N a0 a1 a2 a3 a4 k:=by unfold Ms;rw[AW]
def z1U:OvG R:=Af [Br,.arr 32 (.int .u8),.int .u32,.int .i64,.int .i64] (fun a=>Ms N (a 0) (a 1) (a 2) (a 3) (a 4)) (BD (cq 16 (bn bp)))
def q0a:okX 87 (@z1U R N):=Ai (AH (Mq N) <| AH (Xg N) <| AH (q0d N) <| AZ) N [(87,[(0,[(5,5),(6,5)]),(1,[(22,7),(23,7)])])] [(87,[([9],⟨[],[(10,.as (.ptr (.l 10) [] (.arr 16 (.int .u8))))],[],[(.l 10,.box (.d (.arr 16 (.int .u8))))],[],[]⟩)])] (fun _ _=>q0b)
def Tb (k4:KD R):KD R->KD R:=fun k5 d2 m2=>(bif decide (aj (dk d2 5)<2)then(Ms N (dk d2 1) (dk d2 2) (dk d2 0) (dk d2 3) (dk d2 5) (fun d3 m3=>(Mr N (dk d2 1) (dk d3 0) (fun d4 m4=>(bif bw (ak (ao (dk d2 4))) (ak (ao (dk d2 4)))then(if(ak (ao (dk d2 4))+ak (cn 16 (da 0 (ao (dk d4 0)))))*1<=140737488355328/\ak (ao (dk d2 4))+ak (cn 16 (da 0 (ao (dk d4 0))))<=9223372036854775807 then(bif bw (ak (ao (dk d2 4))+ak (cn 16 (da 0 (ao (dk d4 0))))) (ak (ao (dk d2 4)++cn 16 (da 0 (ao (dk d4 0)))))then(k5 [dk d2 0,dk d2 1,dk d2 2,dk d2 3,bc (ao (dk d2 4)++cn 16 (da 0 (ao (dk d4 0)))),aw (al ar (aj (dk d2 5)+1)),dk d2 6] [])else none)else none)else none)))))else(bif bw (ak (ao (dk d2 4))) (ak (ao (dk d2 4)))then(k4 [dk d2 0,dk d2 1,dk d2 2,dk d2 3,bc (ao (dk d2 4)),dk d2 6] [])else none))
def Xn (k2:KD R):KD R->KD R:=fun k3 d1 m1=>(bif decide (aj (dk d1 4)<32)then(jn (fun d2 m2=>(bif bw (ak (ao (dk d2 4))) (ak (ao (dk d2 4)))then(k3 [dk d2 0,dk d2 1,dk d2 2,bc (ao (dk d2 4)),aw (al ar (aj (dk d2 3)+1)),dk d2 5] [])else none)) (fun k4=>(bif bw (ak (ao (dk d1 3))) (ak (ao (dk d1 3)))then(Ae N (Tb N k4) [dk d1 0,dk d1 1,dk d1 2,dk d1 4,bc (ao (dk d1 3)),aw 0,dk d1 5] [])else none)))else(bif bw (ak (ao (dk d1 3))) (ak (ao (dk d1 3)))then(k2 [dk d1 1,bc (ao (dk d1 3)),dk d1 5] [])else none))
def jV (a0 a1 a2:C) (k1:KD R):Option R:=jn (fun d1 m1=>(Gq N (dk d1 0) (aw 2) (bc [bc (ao (dk d1 1))]) (fun d2 m2=>(k1 [dk d2 0] [])))) (fun k2=>(Ae N (Xn N k2) [a2,a0,a1,bc [],aw 0,AJ (cq 32 (bn bp))] []))
def Tc:=lid "" (@jV R N)
def F9 {R N a0 a1 a2 k}:@Tc R N a0 a1 a2 k=jV N a0 a1 a2 k:=by unfold Tc;rw[AW]
def z1S:OvG R:=Af [Br,.arr 32 (.int .u8),.int .u32] (Ds (Tc N)) (BD (cq 32 (bn bp)))
def z1T:okX 60 (@z1S R N):=Ai (AH (Mq N) <| AH (jS N) <| AH (q0a N) <| AZ) N [(60,[(0,[(3,5),(4,5)]),(8,[(25,7),(26,7)])])] [(60,[([1,0,1,1],(AY [3,6] [(7,.sl 1 (.int .u8) 5007)])),
  ([4,1,0,1,1],(AY [2,3,4,6] [(7,.sl 1 (.int .u8) 5007),(8,.d (.int .i64))])),
  ([1,4,0,1,5,4,1,0,1,1],(AY [2,3,4,6,8] [(7,.sl 1 (.int .u8) 5007)])),
  ([4,1,4,0,1,5,4,1,0,1,1],(AY [2,3,4,6,8] [(7,.sl 1 (.int .u8) 5007),(9,.d (.int .i64))])),
  ([9],⟨[],[(6,.as (.ptr (.l 6) [] (.arr 32 (.int .u8))))],[],[(.l 6,.box (.d (.arr 32 (.int .u8))))],[],[]⟩)])] (fun _ _=>F9)
def Tf (k4:KD R):KD R->KD R:=fun k5 d3 m3=>(bif decide (aj (dk d3 4)<(↑(ak (ao (dk d3 1))):Int))then(if 0<=aj (dk d3 4)/\aj (dk d3 4)<(↑(ak (ao (dk d3 1))):Int)then(if 0<=al ar (aj (dk d3 4)+1)/\al ar (aj (dk d3 4)+1)<(↑(ak (ao (dk d3 1))):Int)then(Gq N (dk d3 0) (aw 3) (bc [bc (cut (ao (bj (ao (dk d3 1)) (aq (aj (dk d3 4))) du)) 0 32),bc (cut (ao (bj (ao (dk d3 1)) (aq (al ar (aj (dk d3 4)+1))) du)) 0 32)]) (fun d4 m4=>(bif bw (ak (ao (dk d3 3))) (ak (ao (dk d3 3)))then(if(ak (ao (dk d3 3))+1)*32<=140737488355328/\ak (ao (dk d3 3))+1<=9223372036854775807 then(bif bw (ak (ao (dk d3 1))) (ak (ao (dk d3 1)))then(bif bw (ak (ao (dk d3 2))) (ak (ao (dk d3 2)))then(bif bw (ak (ao (dk d3 3))+1) (ak (ao (dk d3 3)++[dk d4 0]))then(k5 [dk d3 0,bc (ao (dk d3 1)),bc (ao (dk d3 2)),bc (ao (dk d3 3)++[dk d4 0]),aw (al ar (aj (dk d3 4)+2))] [])else none)else none)else none)else none)else none)))else none)else none)else(bif bw (ak (ao (dk d3 2))) (ak (ao (dk d3 2)))then(bif bw (ak (ao (dk d3 3))) (ak (ao (dk d3 3)))then(k4 [dk d3 0,bc (ao (dk d3 2)),bc (ao (dk d3 3))] [])else none)else none))
def Xq (k2:KD R):KD R->KD R:=fun k3 d2 m2=>(bif decide (1<(↑(ak (ao (dk d2 1))):Int))then(jn (fun d3 m3=>(bif bw (ak (ao (dk d3 1))) (ak (ao (dk d3 1)))then(if(ak (ao (dk d3 1))+1)*24<=140737488355328/\ak (ao (dk d3 1))+1<=9223372036854775807 then(bif bw (ak (ao (dk d3 2))) (ak (ao (dk d3 2)))then(bif bw (ak (ao (dk d3 1))+1) (ak (ao (dk d3 1)++[bc (ao (dk d3 2))]))then(k3 [dk d3 0,bc (ao (dk d3 2)),bc (ao (dk d3 1)++[bc (ao (dk d3 2))])] [])else none)else none)else none)else none)) (fun k4=>(bif bw (ak (ao (dk d2 1))) (ak (ao (dk d2 1)))then(bif bw (ak (ao (dk d2 2))) (ak (ao (dk d2 2)))then(Ae N (Tf N k4) [dk d2 0,bc (ao (dk d2 1)),bc (ao (dk d2 2)),bc [],aw 0] [])else none)else none)))else(bif bw (ak (ao (dk d2 2))) (ak (ao (dk d2 2)))then(k2 [bc (ao (dk d2 2))] [])else none))
def Xr (k2:KD R):KD R->KD R:=fun k3 d1 m1=>(Te N (dk d1 0) (fun d2 m2=>(bif decide (aj (dk d1 4)<aj (dk d2 0))then(Tc N (dk d1 1) (dk d1 2) (aw (al cf (aj (dk d1 4)))) (fun d3 m3=>(bif bw (ak (ao (dk d1 3))) (ak (ao (dk d1 3)))then(if(ak (ao (dk d1 3))+1)*32<=140737488355328/\ak (ao (dk d1 3))+1<=9223372036854775807 then(bif bw (ak (ao (dk d1 3))+1) (ak (ao (dk d1 3)++[dk d3 0]))then(k3 [dk d1 0,dk d1 1,dk d1 2,bc (ao (dk d1 3)++[dk d3 0]),aw (al ar (aj (dk d1 4)+1))] [])else none)else none)else none)))else(bif bw (ak (ao (dk d1 3))) (ak (ao (dk d1 3)))then(k2 [dk d1 1,bc (ao (dk d1 3))] [])else none))))
def kA (a0 a1 a2:C) (k1:KD R):Option R:=jn (fun d1 m1=>(jn (fun d2 m2=>(bif bw (ak (ao (dk d2 0))) (ak (ao (dk d2 0)))then(k1 [bc (ao (dk d2 0))] [])else none)) (fun k2=>(bif bw (ak (ao (dk d1 1))) (ak (ao (dk d1 1)))then(Ae N (Xq N k2) [dk d1 0,bc (ao (dk d1 1)),bc [bc (ao (dk d1 1))]] [])else none)))) (fun k2=>(Ae N (Xr N k2) [a2,a0,a1,bc [],aw 0] []))
def Pp:=lid "" (@kA R N)
def q0h {R N a0 a1 a2 k}:@Pp R N a0 a1 a2 k=kA N a0 a1 a2 k:=by unfold Pp;rw[AW]
def z10:OvG R:=Af [Br,.arr 32 (.int .u8),.int .i64] (Ds (Pp N)) fun a K d1 m1=>K (vb 24 (Ty.slice 32 (cq 32 (bn bp))) (ao (dk d1 0))) []
def z11:okX 32 (@z10 R N):=Ai (AH (z1Z N) <| AH (z1T N) <| AH (Mq N) <| AZ) N [(32,[(0,[(3,5),(4,5)]),(6,[(27,4)]),(12,[(49,7)])])] [(32,[([1,0,1,1],(AY [3] [(7,.sl 32 (.arr 32 (.int .u8)) 5007)])),
  ([4,1,0,1,1],(AY [2,3,4] [(7,.sl 32 (.arr 32 (.int .u8)) 5007),(8,.d (.int .i64))])),
  ([0,1,1,1,1],(Ah [(9,.sl 24 (.slice 32 (.arr 32 (.int .u8))) 5009)])),
  ([4,0,1,1,1,1],(AY [3] [(7,.sl 32 (.arr 32 (.int .u8)) 5007),(9,.sl 24 (.slice 32 (.arr 32 (.int .u8))) 5009)])),
  ([1,0,1,4,1,5,4,0,1,1,1,1],(AY [3] [(9,.sl 24 (.slice 32 (.arr 32 (.int .u8))) 5009),(10,.sl 32 (.arr 32 (.int .u8)) 5010)])),
  ([4,1,0,1,4,1,5,4,0,1,1,1,1],(AY [3] [(7,.sl 32 (.arr 32 (.int .u8)) 5007),(9,.sl 24 (.slice 32 (.arr 32 (.int .u8))) 5009),(10,.sl 32 (.arr 32 (.int .u8)) 5010),(11,.d (.int .i64))])),
  ([9],(Ah [(6,.sl 24 (.slice 32 (.arr 32 (.int .u8))) 5006)]))])] (fun _ _=>q0h) fun a K=>(show _=jn (fun d1 m1=>(bif bw (ak (ao (dk d1 0))) (ak (ao (dk d1 0)))then
  (K (vb 24 (Ty.slice 32 (cq 32 (bn bp))) (ao (dk d1 0))) [])
 else
  none)) _ by kernel_rfl).trans (congrArg (fun k=>jn k _) (funext fun _=>funext fun _=>by simp only[br,cond_true]))
def Xo (k2:KD R):KD R->KD R:=fun k3 d1 m1=>(bif decide (aj (dk d1 4)<32)then(Pn N (dk d1 3) (dk d1 4) (fun d2 m2=>(Ms N (dk d1 1) (dk d1 2) (dk d1 0) (dk d1 4) (dk d2 0) (fun d3 m3=>(if 0<=aj (dk d1 4)/\aj (dk d1 4)<32 then(Ms N (dk d1 1) (dk d1 2) (dk d1 0) (dk d1 4) (aw (al ar (1-aj (dk d2 0)))) (fun d4 m4=>(Mr N (dk d1 1) (dk d4 0) (fun d5 m5=>(if 0<=aj (dk d1 4)/\aj (dk d1 4)<32 then(k3 [dk d1 0,dk d1 1,dk d1 2,dk d1 3,aw (al ar (aj (dk d1 4)+1)),dk d1 5,ct (ct (dk d1 6) 0 (ct (ax (dk d1 6) 0) (aq (aj (dk d1 4))) (dk d3 0))) 1 (ct (ax (ct (dk d1 6) 0 (ct (ax (dk d1 6) 0) (aq (aj (dk d1 4))) (dk d3 0))) 1) (aq (aj (dk d1 4))) (dk d5 0))] [])else none)))))else none)))))else(k2 [dk d1 5,dk d1 6] []))
def jX (a0 a1 a2 a3:C) (k1:KD R):Option R:=jn (fun d1 m1=>(k1 [dk d1 1] [])) (fun k2=>(Ae N (Xo N k2) [a2,a0,a1,a3,aw 0,dh [dh (ay 32 (dh (ay 16 (aw 0)))),dh (ay 32 (dh (ay 16 (aw 0))))],dh [dh (ay 32 (dh (ay 16 (aw 0)))),dh (ay 32 (dh (ay 16 (aw 0))))]] []))
def Td:=lid "" (@jX R N)
def q0c {R N a0 a1 a2 a3 k}:@Td R N a0 a1 a2 a3 k=jX N a0 a1 a2 a3 k:=by unfold Td;rw[AW]
def z1V:OvG R:=Af [Br,.arr 32 (.int .u8),.int .u32,.arr 32 (.int .u8)] (fun a=>Td N (a 0) (a 1) (a 2) (a 3)) (BD Gb)
def z1W:okX 70 (@z1V R N):=Ai (AH (jS N) <| AH (q0a N) <| AH (F5 N) <| AZ) N [(70,[(0,[(4,5),(5,5),(7,5)]),(7,[(36,7),(37,7)])])] [(70,[([1,0,1,1],(AY [8,9] [])),
  ([4,1,0,1,1],(AY [2,4,5,7,8,9] [(10,.d (.int .i64))])),
  ([9],⟨[],[(8,.as (.ptr (.l 8) [] Gb))],[],[(.l 8,.box (.d Gb))],[],[]⟩)])] (fun _ _=>q0c)
def Tg {R:Type} (N:Nat) (k2:KD R):KD R->KD R:=fun k3 d2 m2=>(bif decide (aj (dk d2 2)<al ar ((↑(ak (ao (dk d2 0))):Int)-1))then(jn (fun d3 m3=>(if 0<=aj (dk d3 2)/\aj (dk d3 2)<(↑(ak (ao (dk d3 0))):Int)then(if 0<=aj (dk d3 3)/\aj (dk d3 3)<(↑(ak (ao (bj (ao (dk d3 0)) (aq (aj (dk d3 2))) du))):Int)then(bif bw (ak (ao (dk d3 6))) (ak (ao (dk d3 6)))then(if(ak (ao (dk d3 6))+1)*32<=140737488355328/\ak (ao (dk d3 6))+1<=9223372036854775807 then(bif bw (ak (ao (dk d3 6))+1) (ak (ao (dk d3 6)++[bj (ao (bj (ao (dk d3 0)) (aq (aj (dk d3 2))) du)) (aq (aj (dk d3 3))) du]))then(k3 [dk d3 0,aw (al ar (dx (aj (dk d3 1)) 2)),aw (al ar (aj (dk d3 2)+1)),dk d3 4,dk d3 5,bc (ao (dk d3 6)++[bj (ao (bj (ao (dk d3 0)) (aq (aj (dk d3 2))) du)) (aq (aj (dk d3 3))) du]),dk d3 7] [])else none)else none)else none)else none)else none)) (fun k4=>(bif decide (bm (aj (dk d2 1)) 2=1)then(k4 [dk d2 0,dk d2 1,dk d2 2,aw (al ar (aj (dk d2 1)-1)),dk d2 3,dk d2 4,bc (ao (dk d2 5)),dk d2 6] [])else(k4 [dk d2 0,dk d2 1,dk d2 2,aw (al ar (aj (dk d2 1)+1)),dk d2 3,dk d2 4,bc (ao (dk d2 5)),dk d2 6] []))))else(k2 [dk d2 3,dk d2 4,bc (ao (dk d2 5)),dk d2 6] []))
def kB (a0 a1 a2 a3 a4:C) (k1:KD R):Option R:=Td N a0 a1 (aw (al cf (aj a3))) a4 (fun d1 m1=>(jn (fun d2 m2=>(k1 [dh [dk d2 0,dk d2 1,bc (ao (dk d2 2))]] [])) (fun k2=>(Ae N (Tg N k2) [a2,a3,aw 0,dk d1 0,aw (al cf (aj a3)),bc [],dh [dh [dh (ay 32 (dh (ay 16 (aw 0)))),dh (ay 32 (dh (ay 16 (aw 0))))],AJ (bn cf),bc []]] []))))
def Th:=lid "" (@kB R N)
def q0i {R N a0 a1 a2 a3 a4 k}:@Th R N a0 a1 a2 a3 a4 k=kB N a0 a1 a2 a3 a4 k:=by unfold Th;rw[AW]
def z12:OvG R:=Af [Br,.arr 32 (.int .u8),.slice 24 (.slice 32 (.arr 32 (.int .u8))),.int .i64,.arr 32 (.int .u8)] (fun a=>Th N (a 0) (a 1) (a 2) (a 3) (a 4)) (BD Cd)
def z13:okX 44 (@z12 R N):=Ai (AH (z1W N) <| AZ) N [(44,[(0,[(5,5),(6,5),(9,5)])])] [(44,[([1,0,1,1,1],⟨[10,11],[],[],[(.l 11,.box (.agg Cd [.d Gb,.d (.int .u32),(.ts 32 (.arr 32 (.int .u8)))]))],[],[]⟩),
  ([4,1,0,1,1,1],⟨[2,10,11],[(12,.d (.int .i64)),(13,.d (.int .i64))],[],[(.l 11,.box (.agg Cd [.d Gb,.d (.int .u32),(.ts 32 (.arr 32 (.int .u8)))]))],[],[]⟩),
  ([1,0,1,4,0,1,5,4,1,0,1,1,1],⟨[2,10,11,12,13],[(14,.d (.int .i64))],[],[(.l 11,.box (.agg Cd [.d Gb,.d (.int .u32),(.ts 32 (.arr 32 (.int .u8)))]))],[],[]⟩),
  ([9],⟨[],[(10,.as (.ptr (.l 10) [] Cd))],[],[(.l 10,.box (.d Cd))],[],[]⟩)])] (fun _ _=>q0i)
section
variable {R:Type} {N:Nat}
section
variable {t:C} (hOf:∀(p:List C),p.length<=200000->∃c,Dig c/\∀k:KD R,LV N t (.slice p) k=k [c] [])
include hOf
omit hOf in
end
end
def q5i:List Sh:=[.ts 1 (.int .u8),.d DQ]
def q5l:List (Key × OSh):=[]
def bA (a0 a1:C) (k1:KD R):Option R:=bif bw (ak (ao a0)) (ak (ao a0))then(KL N (bc (ao a0)) (bc [ax a1 0]) (fun d1 m1=>(bif bw (ak (ao (dk d1 0))) (ak (ao (dk d1 0)))then(Mm N (bc (ao (dk d1 0))) (bc [aw (al bp (aj (ax a1 1)))]) (fun d2 m2=>(bif bw (ak (ao (dk d2 0))) (ak (ao (dk d2 0)))then(KL N (bc (ao (dk d2 0))) (bc [ax a1 2]) (fun d3 m3=>(bif bw (ak (ao (dk d3 0))) (ak (ao (dk d3 0)))then(Sp N (bc (ao (dk d3 0))) (bc [ax a1 3]) du (fun d4 m4=>(bif bw (ak (ao (dk d4 0))) (ak (ao (dk d4 0)))then(KL N (bc (ao (dk d4 0))) (bc [ax a1 4]) (fun d5 m5=>(bif bw (ak (ao (dk d5 0))) (ak (ao (dk d5 0)))then(k1 [bc (ao (dk d5 0))] [])else none)))else none)))else none)))else none)))else none)))else none
def Qy:=lid "" (@bA R N)
def sH {R N a0 a1 k}:@Qy R N a0 a1 k=bA N a0 a1 k:=by unfold Qy;rw[AW]
def q5j:OvG R:=Cf q5i q5l (fun ds ms=>Qy N (dk ds 0) (dk ds 1)) fun ds ms K d1 m1=>K (vb 1 (bn bp) (ao (dk d1 0))) []
def q5k:okX 151 (@q5j R N):=Cq (AH (o9 N) <| AH (j6 N) <| AH (z0r N) <| AZ) N [(151,[(0,[(3,5)]),(1,[(9,1),(14,1),(18,1),(22,1),(26,1)])])] [(151,[([9],(Ah [(4,.sl 1 (.int .u8) 5004)]))])] (fun _ _ _=>sH) fun ds ms K=>(show _=jn (fun d1 m1=>(bif bw (ak (ao (dk d1 0))) (ak (ao (dk d1 0)))then
  (K (vb 1 (bn bp) (ao (dk d1 0))) [])
 else
  none)) _ by kernel_rfl).trans (congrArg (fun k=>jn k _) (funext fun _=>funext fun _=>by simp only[br,cond_true]))
def kV (a0 a1:C) (k1:KD R):Option R:=FM N a0 (ax a1 0) (aw 8) (fun d1 m1=>(bif bw (ak (ao (dk d1 0))) (ak (ao (dk d1 0)))then(if(ak (ao (dk d1 0))+1)*1<=140737488355328/\ak (ao (dk d1 0))+1<=9223372036854775807 then(FM N (bc (ao (dk d1 0)++[aw (al bp (aj (ax a1 1)))])) (ax a1 2) (aw 8) (fun d2 m2=>(bif bw (ak (ao (dk d2 0))) (ak (ao (dk d2 0)))then(if(ak (ao (dk d2 0))+ak (cut (ao (ax a1 3)) 0 32))*1<=140737488355328/\ak (ao (dk d2 0))+ak (cut (ao (ax a1 3)) 0 32)<=9223372036854775807 then(FM N (bc (ao (dk d2 0)++cut (ao (ax a1 3)) 0 32)) (ax a1 4) (aw 8) (fun d3 m3=>(bif bw (ak (ao (dk d3 0))) (ak (ao (dk d3 0)))then(k1 [bc (ao (dk d3 0))] [])else none)))else none)else none)))else none)else none))
def Tw:=lid "" (@kV R N)
def q0F {R N a0 a1 k}:@Tw R N a0 a1 k=kV N a0 a1 k:=by unfold Tw;rw[AW]
def z2G:OvG R:=Af [.slice 1 (.int .u8),DQ] (Bl (Tw N)) fun a K d1 m1=>K (vb 1 (bn bp) (ao (dk d1 0))) []
def z2H:okX 123 (@z2G R N):=Ai (AH (Xg N) <| AZ) N [(123,[(0,[(3,5)])])] [(123,[([9],(Ah [(4,.sl 1 (.int .u8) 5004)]))])] (fun _ _=>q0F) fun a K=>(show _=jn (fun d1 m1=>(bif bw (ak (ao (dk d1 0))) (ak (ao (dk d1 0)))then
  (K (vb 1 (bn bp) (ao (dk d1 0))) [])
 else
  none)) _ by kernel_rfl).trans (congrArg (fun k=>jn k _) (funext fun _=>funext fun _=>by simp only[br,cond_true]))
section
variable {R:Type} {N:Nat}
structure QT (c:C):Prop where
 id:W64 (c.get 0).toInt
 am:W64 (c.get 2).toInt
 hash:(c.get 3).elems.length=32
 exp:W64 (c.get 4).toInt
def GJ (c:C):List C:=BM 8 (c.get 0).toInt++[.int ((c.get 1).toInt%256)]++BM 8 (c.get 2).toInt++(c.get 3).elems++BM 8 (c.get 4).toInt
def q4T {c} (h:QT c):(GJ c).length=57:=by simp[GJ,Dj,h.hash]
def Sm (k:Nat) (c:C):DZ k [c]=BM k c.toInt:=by simp[DZ]
def vJ {f:C->List C} {l:List C} {i:Nat} (h:i<l.length):(l.take (i+1)).flatMap f=(l.take i).flatMap f++f (l.getD i .nil):=by
 have:l.take (i+1)=l.take i++[l.getD i .nil]:=by rw[lz,bg h,bh,bg h];rfl
 rw[this];simp
def gZ {c:C} (h:W64 c.toInt):∀x∈[c],0<=x.toInt:=by intro x hx;simp at hx;subst hx;exact h.1
def q8B (out:List C) (c:C) (h:QT c) (hl:out.length<=100000000) (hN:200<N) (k:KD R):Qy N (.slice out) c k=k [.slice (out++GJ c)] []:=by rw[sH];unfold bA;simp only[AI,br,cond_true];rw[XO _ _ (gZ h.id) (by simp;omega) (by simp;omega)];simp only[AF,AI,br,cond_true,wrap_u8,Sm];rw[Y3 _ _ (by simp[Dj];omega)];simp only[AF,AI,br,cond_true];rw[XO _ _ (gZ h.am) (by simp[Dj];omega) (by simp;omega)];simp only[AF,AI,br,cond_true,Sm];rw[z0M _ _ _ h.hash (by simp[Dj];omega) (by omega)];simp only[AF,AI,br,cond_true];rw[XO _ _ (gZ h.exp) (by simp[Dj,h.hash];omega) (by simp;omega)];simp only[AF,AI,br,cond_true,Sm,GJ,dp]
def z1j (out:List C) (c:C) (h:QT c) (hl:out.length<=100000000) (hN:200<N) (k:KD R):Tw N (.slice out) c k=k [.slice (out++GJ c)] []:=by
 have e1:cut (c.get 3).elems 0 32=(c.get 3).elems:=by unfold cut;rw[dr (by rw[h.hash];decide)];rfl
 have e8:aw 8=aw ((8:Nat):Int):=rfl;rw[q0F];unfold kV;rw[e8,Pf _ _ h.id 8 (by omega) (by omega) (by omega)];simp only[AF,AI,br,cond_true,wrap_u8];rw[if_pos (by simp[Dj];omega),Pf _ _ h.am 8 (by omega) (by simp[Dj];omega) (by omega)];simp only[AF,AI,br,cond_true,e1,h.hash];rw[if_pos (by simp[Dj];omega),Pf _ _ h.exp 8 (by omega) (by simp[Dj,h.hash];omega) (by omega)];simp only[AF,AI,br,cond_true,GJ,dp]
end
def YA (k2:KD R):KD R->KD R:=fun k3 d7 m7=>(bif decide (aj (dk d7 2)<(↑(ak (ao (ax (dk d7 0) 4))):Int))then(if 0<=aj (dk d7 2)/\aj (dk d7 2)<(↑(ak (ao (ax (dk d7 0) 4))):Int)then(Tw N (bc (ao (dk d7 1))) (bj (ao (ax (dk d7 0) 4)) (aq (aj (dk d7 2))) du) (fun d8 m8=>(bif bw (ak (ao (dk d8 0))) (ak (ao (dk d8 0)))then(k3 [dk d7 0,bc (ao (dk d8 0)),aw (al ar (aj (dk d7 2)+1))] [])else none)))else none)else(bif bw (ak (ao (dk d7 1))) (ak (ao (dk d7 1)))then(k2 [bc (ao (dk d7 1))] [])else none))
def kY (a0 a1:C) (k1:KD R):Option R:=FM N a0 (aw (al av (aj (ax a1 0)))) (aw 4) (fun d1 m1=>(FM N (bc (ao (dk d1 0))) (ax a1 1) (aw 8) (fun d2 m2=>(FM N (bc (ao (dk d2 0))) (ax (ax a1 2) (aq 0)) (aw 8) (fun d3 m3=>(FM N (bc (ao (dk d3 0))) (ax (ax a1 2) (aq 1)) (aw 8) (fun d4 m4=>(FM N (bc (ao (dk d4 0))) (ax (ax a1 3) (aq 0)) (aw 8) (fun d5 m5=>(FM N (bc (ao (dk d5 0))) (ax (ax a1 3) (aq 1)) (aw 8) (fun d6 m6=>(bif bw (ak (ao (dk d6 0))) (ak (ao (dk d6 0)))then(if(ak (ao (dk d6 0))+1)*1<=140737488355328/\ak (ao (dk d6 0))+1<=9223372036854775807 then(jn (fun d7 m7=>(bif bw (ak (ao (dk d7 0))) (ak (ao (dk d7 0)))then(k1 [bc (ao (dk d7 0))] [])else none)) (fun k2=>(bif bw (ak (ao (dk d6 0))+1) (ak (ao (dk d6 0)++[aw (al bp (↑(ak (ao (ax a1 4))):Int))]))then(Ae N (YA N k2) [a1,bc (ao (dk d6 0)++[aw (al bp (↑(ak (ao (ax a1 4))):Int))]),aw 0] [])else none)))else none)else none))))))))))))
def Tx:=lid "" (@kY R N)
def q0I {R N a0 a1 k}:@Tx R N a0 a1 k=kY N a0 a1 k:=by unfold Tx;rw[AW]
def z2M:OvG R:=Af [.slice 1 (.int .u8),Bk] (Bl (Tx N)) fun a K d1 m1=>K (vb 1 (bn bp) (ao (dk d1 0))) []
def z2N:okX 100 (@z2M R N):=Ai (AH (Xg N) <| AH (z2H N) <| AZ) N [(100,[(0,[(3,5)])])] [(100,[([1,0,1,1,1,1,1],(Ah [(0,.sl 1 (.int .u8) 5000)])),
  ([4,1,0,1,1,1,1,1],(AY [3] [(0,.sl 1 (.int .u8) 5000),(5,.d (.int .i64))])),
  ([9],(Ah [(4,.sl 1 (.int .u8) 5004)]))])] (fun _ _=>q0I) fun a K=>(show _=jn (fun d1 m1=>(bif bw (ak (ao (dk d1 0))) (ak (ao (dk d1 0)))then
  (K (vb 1 (bn bp) (ao (dk d1 0))) [])
 else
  none)) _ by kernel_rfl).trans (congrArg (fun k=>jn k _) (funext fun _=>funext fun _=>by simp only[br,cond_true]))
def lB (a0:C) (k1:KD R):Option R:=FM N (bc []) (aw (al av (aj (ax a0 0)))) (aw 4) (fun d1 m1=>(Tx N (bc []) a0 (fun d2 m2=>(Pm N (aw 4) (bc [bc (ao (dk d1 0)),bc (ao (dk d2 0))]) (fun d3 m3=>(k1 [bc (ao (dk d3 0))] []))))))
def YB:=lid "" (@lB R N)
def q0L {R N a0 k}:@YB R N a0 k=lB N a0 k:=by unfold YB;rw[AW]
def z2P:OvG R:=Af [Bk] (Bs (YB N)) (BD (Ty.slice 1 (bn bp)))
def z2Q:okX 72 (@z2P R N):=Ai (AH (F0 N) <| AH (Xg N) <| AH (z2N N) <| AZ) N [(72,[(0,[(1,5)])])] [(72,[([9],(Ah [(2,.d (.slice 1 (.int .u8)))]))])] (fun _ _=>q0L)
def kZ (a0 a1:C) (k1:KD R):Option R:=YB N a1 (fun d1 m1=>(LV N a0 (dk d1 0) (fun d2 m2=>(k1 [dk d2 0] []))))
def Mv:=lid "" (@kZ R N)
def q0K {R N a0 a1 k}:@Mv R N a0 a1 k=kZ N a0 a1 k:=by unfold Mv;rw[AW]
def z2O:OvG R:=Af [Br,Bk] (Bl (Mv N)) (BD (cq 32 (bn bp)))
def q0J:okX 45 (@z2O R N):=Ai (AH (H7 N) <| AH (z2Q N) <| AZ) N [(45,[(0,[(2,5),(3,5)]),(1,[(7,7),(8,7)])])] [(45,[([9],⟨[],[(4,.as (.ptr (.l 4) [] (.arr 32 (.int .u8))))],[],[(.l 4,.box (.d (.arr 32 (.int .u8))))],[],[]⟩)])] (fun _ _=>q0K)
def yF (k3:KD R):KD R->KD R:=fun k4 d2 m2=>(bif decide (aj (dk d2 2)<2)then(if 0<=aj (dk d2 2)/\aj (dk d2 2)<2 then(if 0<=aj (dk d2 2)/\aj (dk d2 2)<2 then(Mv N (ax (dk d2 0) 0) (dk d2 1) (fun d3 m3=>(Th N (ax (dk d2 0) 0) (ax (ax (dk d2 0) 1) (aq (aj (dk d2 2)))) (ax (ax (dk d2 0) 2) (aq (aj (dk d2 2)))) (aw (al ar (aj (ax (dk d2 1) 1)))) (dk d3 0) (fun d4 m4=>(if 0<=aj (dk d2 2)/\aj (dk d2 2)<2 then(k4 [dk d2 0,dk d2 1,aw (al ar (aj (dk d2 2)+1)),dk d2 3,ct (dk d2 4) 1 (ct (ax (dk d2 4) 1) (aq (aj (dk d2 2))) (dk d4 0))] [])else none)))))else none)else none)else(k3 [dk d2 3,dk d2 4] []))
def Rz (a0 a1:C) (k1:KD R):Option R:=jn (fun d1 m1=>(jn (fun d2 m2=>(k1 [dk d2 1] [])) (fun k2=>(bif C.toBool (dk d1 2)then(jn (fun d2 m2=>(k2 [dk d2 0,dk d2 1] [])) (fun k3=>(Ae N (yF N k3) [dk d1 0,dk d1 1,aw 0,dk d1 3,dk d1 4] [])))else(k2 [dk d1 3,dk d1 4] []))))) (fun k2=>(bif decide (0<aj (ax a1 1))then(k2 [a0,a1,C.bool (decide (aj (ax a1 1)<4)),dh [dh [AJ (bn cf),AJ (bn av),AJ (cq 2 (bn av)),AJ (cq 2 (bn av)),bc []],AJ (cq 2 Cd)],dh [a1,AJ (cq 2 Cd)]] [])else(k2 [a0,a1,C.bool false,dh [dh [AJ (bn cf),AJ (bn av),AJ (cq 2 (bn av)),AJ (cq 2 (bn av)),bc []],AJ (cq 2 Cd)],dh [a1,AJ (cq 2 Cd)]] [])))
def Ry:=lid "" (@Rz R N)
def Wd {R N a0 a1 k}:@Ry R N a0 a1 k=Rz N a0 a1 k:=by unfold Ry;rw[AW]
def q8k:OvG R:=Af [NG,Bk] (Bl (Ry N)) (BD EE)
def q8l:okX 14 (@q8k R N):=Ai (AH (z13 N) <| AH (q0J N) <| AZ) N [(14,[(0,[(2,5),(3,5)]),(6,[(37,7),(38,7)])])] [(14,[([0,0,1,1],(AY [2,3,4,5] [(16,.d .bool)])),
  ([1,0,1,1],(AY [4,5] [])),
  ([1,2,1,0,1,1],(AY [4,5] [])),
  ([4,1,2,1,0,1,1],(AY [2,3,4,5] [(17,.d (.int .i64))])),
  ([9],⟨[],[(4,.as (.ptr (.l 4) [] EE))],[],[(.l 4,.box (.d EE))],[],[]⟩)])] (fun _ _=>Wd)
def eD (a0 a1:C) (k1:KD R):Option R:=TR N (fun d1 m1=>(jn (fun d2 m2=>(k1 [dk d2 1] [])) (fun k2=>(Pp N (dk d1 0) a0 (aw 2) (fun d2 m2=>(bif bw (ak (ao (dk d2 0))) (ak (ao (dk d2 0)))then(Pp N (dk d1 0) a1 (aw 2) (fun d3 m3=>(bif bw (ak (ao (dk d3 0))) (ak (ao (dk d3 0)))then(k2 [dh [dh [C.str [],C.str []],dh [dh (ay 32 (aw 0)),dh (ay 32 (aw 0))],dh [bc [],bc []]],dh [dk d1 0,ct (ct (AJ (cq 2 (cq 32 (bn bp)))) 0 a0) 1 a1,dh [bc (ao (dk d2 0)),bc (ao (dk d3 0))]]] [])else none)))else none))))))
def SB:=lid "" (@eD R N)
def yI {R N a0 a1 k}:@SB R N a0 a1 k=eD N a0 a1 k:=by unfold SB;rw[AW]
def q8q:OvG R:=Af [.arr 32 (.int .u8),.arr 32 (.int .u8)] (Bl (SB N)) (BD NG)
def q8r:okX 7 (@q8q R N):=Ai (AH (z1D N) <| AH (z11 N) <| AZ) N [(7,[(0,[(2,5),(3,5)]),(1,[(7,7)])])] [(7,[([1,0,1,1],(AY [4,5] [])),
  ([9],⟨[],[(4,.as (.ptr (.l 4) [] NG))],[],[(.l 4,.box (.d NG))],[],[]⟩)])] (fun _ _=>yI)
end Go.Proofs.YtgdonkaoajbclaaGreatDoor
