/-
 What the functions on the way compute, part 3.
 Conditions: none.
-/
import Derived.Test.YtgdonkaoajbclaaGreatDoorKb
set_option linter.all false
noncomputable section
set_option maxRecDepth 100000
set_option maxHeartbeats 4000000
open Go.E.C renaming agg->dj,elems->au,get->bc,int->az,nil->dw,set->db,slice->bj,toInt->ao
open Go.E.Ty renaming arr->ct,int->br
open Go.E.V renaming ts->vf
open Go.IntKind renaming i64->aw,u32->cm,u64->ay,u8->bt,wrap->ar
open Int renaming ediv_ediv_of_nonneg->tu,fdiv->fx,fdiv_eq_ediv_of_nonneg->ic,lt_irrefl->fb,natCast_nonneg->bu,pow_pos->vi,tdiv->dz,tdiv_eq_ediv_of_nonneg->ek,tmod->bq,tmod_eq_emod_of_nonneg->dp,toNat->av,toNat_natCast->bh,toNat_zero->kb
open List renaming append_assoc->dq,append_nil->lz,cons_append->ji,drop->dc,drop_zero->ib,flatMap_append->kc,foldl_append->im,getD->bp,getD_eq_getElem?_getD->bn,getElem?_eq_getElem->bm,length->aq,length_append->bx,length_cons->cn,length_nil->df,mem_append->dy,mem_flatMap->wb,mem_singleton->ft,nil_append->fz,range->fi,range_succ->xa,replicate->bf,replicate_succ->pf,replicate_zero->pg,take->cr,take_add_one->mb,take_length->ir,take_of_length_le->du
open Nat renaming beq->bo,beq_refl->bw,sub_self->uq,zero_add->cq
namespace Go.Proofs.YtgdonkaoajbclaaGreatDoor
open Go Go.E
variable {R:Type} (N:Nat)
section
variable {R:Type} {N:Nat}
theorem oD (d:C) (l:List C) (B:Nat) (hb:Hc B l) (hB:B<=1000000) (hl:l.length<=100000) (hN:l.length+1000<N) (k:KD R):Pg N d (.slice l) k=k [.slice (CH d l)] []:=by
 have z7Y:∀i,i<=l.length->((l.take i).flatMap CY).length<=i*(B+4):=by
  intro i hi
  induction i with
  |zero=>simp
  |succ i ih=>
   rw[Ld (by omega),kc,bx];have h1:=ih (by omega);have h2:=(hb _ (CR (show i<l.length by omega))).2.2;have h3:([l.getD i dw].flatMap CY).length=4+(l.getD i dw).elems.length:=by simp[CY,JD]
   rw[h3,Nat.succ_mul];omega
 have lp:∀K:KD R,Ac N (TT N K) [.slice l,.slice [d,az (ar bt (l.length:Int))],.int 0] []=K [.slice (CH d l)] []:=fun K=>by
  have key:=Dd (F:=TT N K) (fun i=>[.slice l,.slice ([d,az (ar bt (l.length:Int))]++(l.take i).flatMap CY),.int (i:Nat)]) (fun _=>[]) l.length (K [.slice (CH d l)] []) ?_ ?_ (N:=N) (by omega)
  ·exact key
  ·intro i hi rec;have e1:(i:Int)<(l.length:Int):=by omega
   obtain⟨y1,y2,y3⟩:=hb _ (CR hi);have h1:=z7Y i (by omega);have m1:i*(B+4)<=100000*1000004:=Nat.mul_le_mul (by omega) (by omega);obtain⟨o,ho⟩:∃o,[d,az (ar bt (l.length:Int))]++(l.take i).flatMap CY=o:=⟨_,rfl⟩;have hol:o.length<=2+100000*1000004:=by rw[<-ho];simp only[bx,cn,df];omega
   obtain⟨y,hy⟩:∃y,(l.getD i .nil).elems=y:=⟨_,rfl⟩;rw[hy]at y3;have g1:(o.length+4)*1<=140737488355328/\o.length+4<=9223372036854775807:=by omega
   have g2:(o.length+4+y.length)*1<=140737488355328/\o.length+4+y.length<=9223372036854775807:=by omega
   have w1:IntKind.u8.wrap (IntKind.i64.wrap (dz (y.length:Int) 16777216))=((y.length / 256 / 256 / 256%256:Nat):Int):=by rw[ek (by omega),wrap_i64 (by omega) (by omega),wrap_u8];omega
   have w2:IntKind.u8.wrap (IntKind.i64.wrap (dz (y.length:Int) 65536))=((y.length / 256 / 256%256:Nat):Int):=by rw[ek (by omega),wrap_i64 (by omega) (by omega),wrap_u8];omega
   have w3:IntKind.u8.wrap (IntKind.i64.wrap (dz (y.length:Int) 256))=((y.length / 256%256:Nat):Int):=by rw[ek (by omega),wrap_i64 (by omega) (by omega),wrap_u8];omega
   have w4:IntKind.u8.wrap (y.length:Int)=((y.length%256:Nat):Int):=by rw[wrap_u8];omega
   have ec:o++[az ((y.length / 256 / 256 / 256%256:Nat):Int),az ((y.length / 256 / 256%256:Nat):Int),az ((y.length / 256%256:Nat):Int),az ((y.length%256:Nat):Int)]++y=[d,az (ar bt (l.length:Int))]++(l.take (i+1)).flatMap CY:=by
    rw[<-VH _ (by omega),Ld hi,kc,<-dq,ho,dq];have:[l.getD i dw].flatMap CY=b4 (IntKind.u32.wrap ((l.getD i .nil).elems.length:Int))++(l.getD i .nil).elems:=by simp[CY]
    rw[this,hy];rw[show IntKind.u32.wrap (y.length:Int)=(y.length:Int) by rw[wrap_u32];omega]
   rw[ho,<-ec];unfold TT;simp only[AF,AL,AP,AB,AJ,e1,hy,w1,w2,w3,w4,g1,g2,AE,bu,and_self,bh,bw,bx,cn,df,cq,Nat.reduceAdd,BM (show i<4611686018427387904 by omega)]
  ·intro rec;unfold TT;simp only[AF,AL,AP,AB,AJ,fb,AE,bw,ir];rfl
 rw[J3];unfold jE;simp only[AQ,AJ];refine(lp _).trans ?_;simp only[AF,AJ,bw,cond_true]
theorem QQ (t:C) (ht:Cz t) (d:C) (hd:BO d) (l:List C) (B:Nat) (hb:Hc B l) (hB:B<=1000000) (hl:l.length<=100000) (hm:(CH d l).length<=4398046511104) (hN:(CH d l).length+l.length+1000<N) (k:KD R):Gi N t d (.slice l) k=k [HZ (CH d l)] []:=by
 have hbb:∀c∈CH d l,BO c:=by
  intro c hc;unfold CH at hc;rcases dy.1 hc with hc|hc
  ·simp only[List.mem_cons,List.not_mem_nil,or_false]at hc;rcases hc with rfl|rfl
   ·exact hd
   ·exact Nl _
  ·obtain⟨x,hx,hc⟩:=wb.1 hc;unfold CY at hc;rcases dy.1 hc with hc|hc
   ·exact Ng _ c hc
   ·exact(hb x hx).2.1 c hc
 rw[U7];unfold jA;simp only[AQ,oD d l B hb hB hl (show l.length+1000<N by omega),AF,AJ,oA t ht _ hbb hm (show(CH d l).length+1000<N by omega)]
theorem q1X (s:List UInt8) (n:Nat) (g:Nat->Int) (h:(fi n).map (fun i=>Jr s i 8)=(fi n).map g):∀i,i<n->Jr s i 8=g i:=fun i hi=>by
 have:=congrArg (fun l=>l.getD i 0) h;simpa[hi]using this
theorem q8B (k:KD R):∃t,Cz t/\∀k:KD R,TM N k=k [t] []:=by
 refine⟨?w,?a,fun k=>?b⟩
 case b=>rw[U6];unfold iZ;simp only[AQ];rfl
 ·exact⟨by kernel_rfl,by kernel_rfl,q1X _ 8 (fun i=>((([1779033703,3144134277,1013904242,2773480762,1359893119,2600822924,528734635,1541459225]:List W32).getD i 0).toNat:Int)) (by kernel_rfl),q1X _ 64 (fun i=>((ksW.getD i 0).toNat:Int)) (by kernel_rfl)⟩
end
def dF {R:Type} (N:Nat) (a0 a1:C) (k1:KD R):Option R:=if 0<=ar aw (dz (ao a1) 8)/\ar aw (dz (ao a1) 8)<32 then(if 0<=ar aw (7-bq (ao a1) 8)then(k1 [az (Aj BinOp.and bt (fx (ao (bc a0 (av (ar aw (dz (ao a1) 8))))) (2^min (av (ar aw (7-bq (ao a1) 8))) 8)) 1)] [])else none)else none
def Rj:=lid "" (@dF R N)
theorem xB {R N a0 a1 k}:@Rj R N a0 a1 k=dF N a0 a1 k:=by unfold Rj;rw[AV]
def q7q:OvG R:=Ae [.arr 32 (.int .u8),.int .i64] (Bq (Rj N)) (BD (br bt))
theorem q7r:okX 145 (@q7q R N):=Ai AW N [(145,[(0,[(2,5)])])] [(145,[([9],(Af [(4,.d (.int .u8))]))])] (fun _ _=>xB)
def dG (a0:C) (k1:KD R):Option R:=Jy N (az 5) (bj [bj (cut (au a0) 0 16)]) (fun d1 m1=>(if 16<=aq (cr 16 (dc 0 (au (dk d1 0))))then(k1 [dj (cr 16 (cr 16 (dc 0 (au (dk d1 0)))))] [])else none))
def Rk:=lid "" (@dG R N)
theorem xC {R N a0 k}:@Rk R N a0 k=dG N a0 k:=by unfold Rk;rw[AV]
def q7s:OvG R:=Ae [.arr 16 (.int .u8)] (Bw (Rk N)) (BD (ct 16 (br bt)))
theorem q7t:okX 146 (@q7s R N):=Ai (AH (SK N) <| AW) N [(146,[(0,[(1,5)]),(2,[(8,100)])])] [(146,[([9],⟨[],[(2,.as (.ptr (.l 2) [] (.arr 16 (.int .u8))))],[],[(.l 2,.box (.d (.arr 16 (.int .u8))))],[],[]⟩)])] (fun _ _=>xC)
def WS {R:Type} (N:Nat) (k2:KD R):KD R->KD R:=fun k3 d1 m1=>(bif decide (ao (dk d1 2)<32)then(if 0<=ao (dk d1 2)/\ao (dk d1 2)<32 then(bif bo (aq (au (dk d1 1))) (aq (au (dk d1 1)))then(if(aq (au (dk d1 1))+aq (cr 16 (dc (av 0) (au (bc (bc (dk d1 0) (av (ao (dk d1 2)))) (av 0))))))*1<=140737488355328/\aq (au (dk d1 1))+aq (cr 16 (dc (av 0) (au (bc (bc (dk d1 0) (av (ao (dk d1 2)))) (av 0)))))<=9223372036854775807 then(bif bo (aq (au (dk d1 1))+aq (cr 16 (dc (av 0) (au (bc (bc (dk d1 0) (av (ao (dk d1 2)))) (av 0)))))) (aq (au (dk d1 1)++cr 16 (dc (av 0) (au (bc (bc (dk d1 0) (av (ao (dk d1 2)))) (av 0))))))then(if(aq (au (dk d1 1)++cr 16 (dc (av 0) (au (bc (bc (dk d1 0) (av (ao (dk d1 2)))) (av 0)))))+aq (cr 16 (dc (av 0) (au (bc (bc (dk d1 0) (av (ao (dk d1 2)))) (av 1))))))*1<=140737488355328/\aq (au (dk d1 1)++cr 16 (dc (av 0) (au (bc (bc (dk d1 0) (av (ao (dk d1 2)))) (av 0)))))+aq (cr 16 (dc (av 0) (au (bc (bc (dk d1 0) (av (ao (dk d1 2)))) (av 1)))))<=9223372036854775807 then(bif bo (aq (au (dk d1 1)++cr 16 (dc (av 0) (au (bc (bc (dk d1 0) (av (ao (dk d1 2)))) (av 0)))))+aq (cr 16 (dc (av 0) (au (bc (bc (dk d1 0) (av (ao (dk d1 2)))) (av 1)))))) (aq (au (dk d1 1)++cr 16 (dc (av 0) (au (bc (bc (dk d1 0) (av (ao (dk d1 2)))) (av 0))))++cr 16 (dc (av 0) (au (bc (bc (dk d1 0) (av (ao (dk d1 2)))) (av 1))))))then(k3 [dk d1 0,bj (au (dk d1 1)++cr 16 (dc (av 0) (au (bc (bc (dk d1 0) (av (ao (dk d1 2)))) (av 0))))++cr 16 (dc (av 0) (au (bc (bc (dk d1 0) (av (ao (dk d1 2)))) (av 1))))),az (ar aw (ao (dk d1 2)+1)),dk d1 3] [])else none)else none)else none)else none)else none)else none)else(bif bo (aq (au (dk d1 1))) (aq (au (dk d1 1)))then(k2 [bj (au (dk d1 1)),dk d1 3] [])else none))
def dH (a0:C) (k1:KD R):Option R:=jn (fun d1 m1=>(Jy N (az 2) (bj [bj (au (dk d1 0))]) (fun d2 m2=>(k1 [dk d2 0] [])))) (fun k2=>(Ac N (WS N k2) [a0,bj [],az 0,AI (ct 32 (br bt))] []))
def Rl:=lid "" (@dH R N)
theorem xD {R N a0 k}:@Rl R N a0 k=dH N a0 k:=by unfold Rl;rw[AV]
def q7u:OvG R:=Ae [.arr 32 (.arr 2 (.arr 16 (.int .u8)))] (Bw (Rl N)) (BD (ct 32 (br bt)))
theorem q7v:okX 147 (@q7u R N):=Ai (AH (SK N) <| AW) N [(147,[(0,[(1,5)])])] [(147,[([1,0,1,1],(AX [2] [(3,.sl 1 (.int .u8) 5003)])),
  ([4,1,0,1,1],(AX [2,6] [(3,.sl 1 (.int .u8) 5003),(7,.d (.int .i64))])),
  ([9],⟨[],[(2,.as (.ptr (.l 2) [] (.arr 32 (.int .u8))))],[],[(.l 2,.box (.d (.arr 32 (.int .u8))))],[],[]⟩)])] (fun _ _=>xD)
def WR (k2:KD R):KD R->KD R:=fun k3 d1 m1=>(bif decide (ao (dk d1 2)<32)then(Rj N (dk d1 1) (dk d1 2) (fun d2 m2=>(if 0<=ao (dk d1 2)/\ao (dk d1 2)<32 then(Rk N (bc (bc (dk d1 0) 0) (av (ao (dk d1 2)))) (fun d3 m3=>(if 0<=ao (dk d1 2)/\ao (dk d1 2)<32 then(if 0<=ao (dk d2 0)/\ao (dk d2 0)<2 then(if 0<=ao (dk d1 2)/\ao (dk d1 2)<32 then(if 0<=ao (dk d1 2)/\ao (dk d1 2)<32 then(if 0<=ar bt (1-ao (dk d2 0))/\ar bt (1-ao (dk d2 0))<2 then(k3 [dk d1 0,dk d1 1,az (ar aw (ao (dk d1 2)+1)),dk d1 3,db (db (dk d1 4) (av (ao (dk d1 2))) (db (bc (dk d1 4) (av (ao (dk d1 2)))) (av (ao (dk d2 0))) (dk d3 0))) (av (ao (dk d1 2))) (db (bc (db (dk d1 4) (av (ao (dk d1 2))) (db (bc (dk d1 4) (av (ao (dk d1 2)))) (av (ao (dk d2 0))) (dk d3 0))) (av (ao (dk d1 2)))) (av (ar bt (1-ao (dk d2 0)))) (bc (bc (dk d1 0) 1) (av (ao (dk d1 2)))))] [])else none)else none)else none)else none)else none)))else none)))else(k2 [dk d1 3,dk d1 4] []))
def dD (a0 a1:C) (k1:KD R):Option R:=jn (fun d1 m1=>(Rl N (dk d1 1) (fun d2 m2=>(k1 [dk d2 0] [])))) (fun k2=>(Ac N (WR N k2) [a0,a1,az 0,AI (ct 32 (br bt)),AI (ct 32 (ct 2 (ct 16 (br bt))))] []))
def Ri:=lid "" (@dD R N)
theorem xA {R N a0 a1 k}:@Ri R N a0 a1 k=dD N a0 a1 k:=by unfold Ri;rw[AV]
def q7o:OvG R:=Ae [GU,.arr 32 (.int .u8)] (Bq (Ri N)) (BD (ct 32 (br bt)))
theorem q7p:okX 135 (@q7o R N):=Ai (AH (q7r N) <| AH (q7t N) <| AH (q7v N) <| AW) N [(135,[(0,[(2,5),(3,5)]),(6,[(20,7)])])] [(135,[([1,0,1,1],(AX [4,5] [])),
  ([4,1,0,1,1],(AX [2,3,4,5] [(8,.d (.int .i64))])),
  ([9],⟨[],[(4,.as (.ptr (.l 4) [] (.arr 32 (.int .u8))))],[],[(.l 4,.box (.d (.arr 32 (.int .u8))))],[],[]⟩)])] (fun _ _=>xA)
def Xl {R:Type} (N:Nat) (k2:KD R):KD R->KD R:=fun k3 d1 m1=>(bif decide (ao (dk d1 1)<16)then(if 0<=ao (dk d1 1)/\ao (dk d1 1)<32 then(if 0<=ao (dk d1 1)/\ao (dk d1 1)<16 then(k3 [dk d1 0,az (ar aw (ao (dk d1 1)+1)),dk d1 2,db (dk d1 3) (av (ao (dk d1 1))) (bc (dk d1 0) (av (ao (dk d1 1))))] [])else none)else none)else(k2 [dk d1 2,dk d1 3] []))
def jO (a0:C) (k1:KD R):Option R:=jn (fun d1 m1=>(k1 [dk d1 1] [])) (fun k2=>(Ac N (Xl N k2) [a0,az 0,AI (ct 16 (br bt)),AI (ct 16 (br bt))] []))
def Pj:=lid "" (@jO R N)
theorem H7 {R N a0 k}:@Pj R N a0 k=jO N a0 k:=by unfold Pj;rw[AV]
def z1y:OvG R:=Ae [.arr 32 (.int .u8)] (Bw (Pj N)) (BD (ct 16 (br bt)))
theorem H6:okX 110 (@z1y R N):=Ai AW N [(110,[(0,[(1,5)])])] [(110,[([1,0,1,1],(AX [2,3] [])),
  ([4,1,0,1,1],(AX [1,2,3] [(4,.d (.int .i64))])),
  ([9],⟨[],[(2,.as (.ptr (.l 2) [] (.arr 16 (.int .u8))))],[],[(.l 2,.box (.d (.arr 16 (.int .u8))))],[],[]⟩)])] (fun _ _=>H7)
def jJ (a0 a1:C) (k1:KD R):Option R:=Gi N a0 (az 5) (bj [bj (cut (au a1) 0 16)]) (fun d1 m1=>(Pj N (dk d1 0) (fun d2 m2=>(k1 [dk d2 0] []))))
def Mo:=lid "" (@jJ R N)
theorem J9 {R N a0 a1 k}:@Mo R N a0 a1 k=jJ N a0 a1 k:=by unfold Mo;rw[AV]
def z1q:OvG R:=Ae [Bo,.arr 16 (.int .u8)] (Bq (Mo N)) (BD (ct 16 (br bt)))
theorem jI:okX 86 (@z1q R N):=Ai (AH (Mn N) <| AH (H6 N) <| AW) N [(86,[(0,[(2,5),(3,5)]),(1,[(8,7),(9,7)])])] [(86,[([9],⟨[],[(4,.as (.ptr (.l 4) [] (.arr 16 (.int .u8))))],[],[(.l 4,.box (.d (.arr 16 (.int .u8))))],[],[]⟩)])] (fun _ _=>J9)
def Xh {R:Type} (N:Nat) (k2:KD R):KD R->KD R:=fun k3 d1 m1=>(bif decide (ao (dk d1 2)<ar aw (7-bq (ao (dk d1 0)) 8))then(k3 [dk d1 0,az (ar aw (dz (ao (dk d1 1)) 2)),az (ar aw (ao (dk d1 2)+1))] [])else(k2 [dk d1 1] []))
def jH (a0 a1:C) (k1:KD R):Option R:=if 0<=ar aw (dz (ao a1) 8)/\ar aw (dz (ao a1) 8)<32 then(jn (fun d1 m1=>(k1 [az (bq (ao (dk d1 0)) 2)] [])) (fun k2=>(Ac N (Xh N k2) [a1,az (ar aw (ao (bc a0 (av (ar aw (dz (ao a1) 8)))))),az 0] [])))else none
def Ph:=lid "" (@jH R N)
theorem J8 {R N a0 a1 k}:@Ph R N a0 a1 k=jH N a0 a1 k:=by unfold Ph;rw[AV]
def z1p:OvG R:=Ae [.arr 32 (.int .u8),.int .i64] (Bq (Ph N)) (BD (br aw))
theorem J7:okX 96 (@z1p R N):=Ai AW N [(96,[(0,[(2,5)])])] [(96,[([1,0,1,1],(Af [(5,.d (.int .i64))])),
  ([4,1,0,1,1],(AX [1] [(5,.d (.int .i64)),(6,.d (.int .i64))])),
  ([9],(Af [(4,.d (.int .i64))]))])] (fun _ _=>J8)
def Xi (k2:KD R):KD R->KD R:=fun k3 d1 m1=>(bif decide (ao (dk d1 4)<32)then(if 0<=ao (dk d1 4)/\ao (dk d1 4)<32 then(Mo N (dk d1 0) (bc (bc (dk d1 1) 0) (av (ao (dk d1 4)))) (fun d2 m2=>(if 0<=ao (dk d1 4)/\ao (dk d1 4)<32 then(Ph N (dk d1 2) (dk d1 4) (fun d3 m3=>(jn (fun d4 m4=>(bif bo (aq (au (dk d4 4))) (aq (au (dk d4 4)))then(k3 [dk d4 0,dk d4 1,dk d4 2,bj (au (dk d4 4)),az (ar aw (ao (dk d4 3)+1)),dk d4 5] [])else none)) (fun k4=>(bif decide (ao (dk d3 0)=0)then(bif bo (aq (au (dk d1 3))) (aq (au (dk d1 3)))then(if(aq (au (dk d1 3))+aq (cr 16 (dc 0 (au (dk d2 0)))))*1<=140737488355328/\aq (au (dk d1 3))+aq (cr 16 (dc 0 (au (dk d2 0))))<=9223372036854775807 then(bif bo (aq (au (dk d1 3))+aq (cr 16 (dc 0 (au (dk d2 0))))) (aq (au (dk d1 3)++cr 16 (dc 0 (au (dk d2 0)))))then(if(aq (au (dk d1 3)++cr 16 (dc 0 (au (dk d2 0))))+aq (cr 16 (dc 0 (au (bc (bc (dk d1 1) 1) (av (ao (dk d1 4))))))))*1<=140737488355328/\aq (au (dk d1 3)++cr 16 (dc 0 (au (dk d2 0))))+aq (cr 16 (dc 0 (au (bc (bc (dk d1 1) 1) (av (ao (dk d1 4)))))))<=9223372036854775807 then(bif bo (aq (au (dk d1 3)++cr 16 (dc 0 (au (dk d2 0))))+aq (cr 16 (dc 0 (au (bc (bc (dk d1 1) 1) (av (ao (dk d1 4)))))))) (aq (au (dk d1 3)++cr 16 (dc 0 (au (dk d2 0)))++cr 16 (dc 0 (au (bc (bc (dk d1 1) 1) (av (ao (dk d1 4))))))))then(k4 [dk d1 0,dk d1 1,dk d1 2,dk d1 4,bj (au (dk d1 3)++cr 16 (dc 0 (au (dk d2 0)))++cr 16 (dc 0 (au (bc (bc (dk d1 1) 1) (av (ao (dk d1 4))))))),dk d1 5] [])else none)else none)else none)else none)else none)else(bif bo (aq (au (dk d1 3))) (aq (au (dk d1 3)))then(if(aq (au (dk d1 3))+aq (cr 16 (dc 0 (au (bc (bc (dk d1 1) 1) (av (ao (dk d1 4))))))))*1<=140737488355328/\aq (au (dk d1 3))+aq (cr 16 (dc 0 (au (bc (bc (dk d1 1) 1) (av (ao (dk d1 4)))))))<=9223372036854775807 then(bif bo (aq (au (dk d1 3))+aq (cr 16 (dc 0 (au (bc (bc (dk d1 1) 1) (av (ao (dk d1 4)))))))) (aq (au (dk d1 3)++cr 16 (dc 0 (au (bc (bc (dk d1 1) 1) (av (ao (dk d1 4))))))))then(if(aq (au (dk d1 3)++cr 16 (dc 0 (au (bc (bc (dk d1 1) 1) (av (ao (dk d1 4)))))))+aq (cr 16 (dc 0 (au (dk d2 0)))))*1<=140737488355328/\aq (au (dk d1 3)++cr 16 (dc 0 (au (bc (bc (dk d1 1) 1) (av (ao (dk d1 4)))))))+aq (cr 16 (dc 0 (au (dk d2 0))))<=9223372036854775807 then(bif bo (aq (au (dk d1 3)++cr 16 (dc 0 (au (bc (bc (dk d1 1) 1) (av (ao (dk d1 4)))))))+aq (cr 16 (dc 0 (au (dk d2 0))))) (aq (au (dk d1 3)++cr 16 (dc 0 (au (bc (bc (dk d1 1) 1) (av (ao (dk d1 4))))))++cr 16 (dc 0 (au (dk d2 0)))))then(k4 [dk d1 0,dk d1 1,dk d1 2,dk d1 4,bj (au (dk d1 3)++cr 16 (dc 0 (au (bc (bc (dk d1 1) 1) (av (ao (dk d1 4))))))++cr 16 (dc 0 (au (dk d2 0)))),dk d1 5] [])else none)else none)else none)else none)else none))))))else none)))else none)else(bif bo (aq (au (dk d1 3))) (aq (au (dk d1 3)))then(k2 [dk d1 0,bj (au (dk d1 3)),dk d1 5] [])else none))
def jK (a0 a1 a2:C) (k1:KD R):Option R:=jn (fun d1 m1=>(Gi N (dk d1 0) (az 2) (bj [bj (au (dk d1 1))]) (fun d2 m2=>(k1 [dk d2 0] [])))) (fun k2=>(Ac N (Xi N k2) [a0,a1,a2,bj [],az 0,AI (ct 32 (br bt))] []))
def TW:=lid "" (@jK R N)
theorem H0 {R N a0 a1 a2 k}:@TW R N a0 a1 a2 k=jK N a0 a1 a2 k:=by unfold TW;rw[AV]
def z1r:OvG R:=Ae [Bo,GU,.arr 32 (.int .u8)] (Eb (TW N)) (BD (ct 32 (br bt)))
theorem z1s:okX 152 (@z1r R N):=Ai (AH (Mn N) <| AH (jI N) <| AH (J7 N) <| AW) N [(152,[(0,[(3,5),(4,5),(5,5)]),(5,[(20,7)])])] [(152,[([1,0,1,1],(AX [3,6] [(7,.sl 1 (.int .u8) 5007)])),
  ([4,1,0,1,1],(AX [3,4,5,6] [(7,.sl 1 (.int .u8) 5007),(8,.d (.int .i64))])),
  ([1,1,1,4,0,1,5,4,1,0,1,1],(AX [3,4,5,6,8] [(7,.sl 1 (.int .u8) 5007)])),
  ([9],⟨[],[(6,.as (.ptr (.l 6) [] (.arr 32 (.int .u8))))],[],[(.l 6,.box (.d (.arr 32 (.int .u8))))],[],[]⟩)])] (fun _ _=>H0)
def WU {R:Type} (N:Nat) (k2:KD R):KD R->KD R:=fun k3 d1 m1=>(bif decide (ao (dk d1 1)<32)then(if 0<=ao (dk d1 1)/\ao (dk d1 1)<32 then(if 0<=ao (dk d1 1)/\ao (dk d1 1)<32 then(if 0<=ao (dk d1 1)/\ao (dk d1 1)<32 then(if 0<=ao (dk d1 1)/\ao (dk d1 1)<32 then(k3 [dk d1 0,az (ar aw (ao (dk d1 1)+1)),dk d1 2,db (db (dk d1 3) 0 (db (bc (dk d1 3) 0) (av (ao (dk d1 1))) (bc (bc (dk d1 0) 0) (av (ao (dk d1 1)))))) 1 (db (bc (db (dk d1 3) 0 (db (bc (dk d1 3) 0) (av (ao (dk d1 1))) (bc (bc (dk d1 0) 0) (av (ao (dk d1 1)))))) 1) (av (ao (dk d1 1))) (bc (bc (dk d1 0) 1) (av (ao (dk d1 1)))))] [])else none)else none)else none)else none)else(k2 [dk d1 2,dk d1 3] []))
def dJ (a0:C) (k1:KD R):Option R:=jn (fun d1 m1=>(k1 [dk d1 1] [])) (fun k2=>(Ac N (WU N k2) [a0,az 0,dj [dj (bf 32 (dj (bf 16 (az 0)))),dj (bf 32 (dj (bf 16 (az 0))))],dj [dj (bf 32 (dj (bf 16 (az 0)))),dj (bf 32 (dj (bf 16 (az 0))))]] []))
def Rn:=lid "" (@dJ R N)
theorem xE {R N a0 k}:@Rn R N a0 k=dJ N a0 k:=by unfold Rn;rw[AV]
def q7x:OvG R:=Ae [GU] (Bw (Rn N)) (BD GU)
theorem q7y:okX 69 (@q7x R N):=Ai AW N [(69,[(0,[(1,5)])])] [(69,[([1,0,1,1],(AX [2,3] [])),
  ([4,1,0,1,1],(AX [1,2,3] [(5,.d (.int .i64))])),
  ([9],⟨[],[(2,.as (.ptr (.l 2) [] GU))],[],[(.l 2,.box (.d GU))],[],[]⟩)])] (fun _ _=>xE)
section
variable {R:Type} {N:Nat}
def Ao (n:Nat) (p:C):Prop:=∃l:List C,p= .agg l/\l.length=n/\∀c∈l,BO c
theorem KM (p:List C):Ao 32 (HZ p):=by
 have h8:((Dc p.length).foldl feed ((Ci p.length).foldl feed (p.foldl feed (ivW,[])))).1.length=8:=by rw[<-im,<-im];exact uB rfl _ _
 unfold HZ;generalize ((Dc p.length).foldl feed ((Ci p.length).foldl feed (p.foldl feed (ivW,[])))).1=h at h8;refine⟨h.flatMap fun x=>b4 x.toNat,rfl,by rw[Vc,h8],fun c hc=>?_⟩;obtain⟨w,_,hc⟩:=wb.1 hc;exact Ng _ c hc
theorem Sw (n B:Nat) (hB:n<=B) (p:C) (hp:Ao n p):Hc B [bj (cut (au p) 0 n)]/\cut (au p) 0 n=au p:=by
 obtain⟨l,rfl,hl,hb⟩:=hp;have e:cut l 0 n=l:=by unfold cut;simp;exact du (by omega)
 rw[DQ,e];refine⟨fun x hx=>?_,rfl⟩;rw[ft.1 hx];exact⟨rfl,by simpa[AJ]using hb,by rw[AJ];omega⟩
theorem KA (d:C) (l:List C):(CH d [bj l]).length=l.length+6:=by
 unfold CH CY;simp[JD,AJ];omega
theorem q1t (l:List C) (i:Nat) (x:C):db (.agg l) i x= .agg (l.set i x):=rfl
def JI (p:C):C:=.agg ((HZ (CH (.int 5) [bj (au p)])).elems.take 16)
theorem Nr (p:C):Ao 16 (JI p):=by
 obtain⟨l,e,hl,hb⟩:=KM (CH (.int 5) [bj (au p)]);unfold JI;rw[e,DQ];exact⟨_,rfl,by simp;omega,fun c hc=>hb c (List.mem_of_mem_take hc)⟩
theorem uU:BO (.int 5):=⟨rfl,by decide,by decide⟩
theorem q4z (p:C) (hp:Ao 16 p) (hN:5000<N) (hN2:N<4611686018427387904) (k:KD R):Rk N p k=k [JI p] []:=by
 obtain⟨h1,h2⟩:=Sw 16 100 (by omega) p hp;obtain⟨l,rfl,hl,hb⟩:=hp;obtain⟨s,e,hs,_⟩:=KM (CH (.int 5) [bj (au (.agg l))]);have:=QR (R:=R) (N:=N) (.int 5) uU [bj (cut (au (.agg l)) 0 16)] 100 h1 (by simp;omega) (by omega) hN2 (by rw[show cut (au (.agg l)) 0 16=au (.agg l) from h2,KA,DQ];omega);rw[show cut (au (.agg l)) 0 16=au (.agg l) from h2]at this;rw[xC];unfold dG;simp only[show cut (au (.agg l)) 0 16=au (.agg l) from h2,this,AF];unfold JI;refine(if_pos (by rw[e,DQ];simp;omega)).trans ?_;rw[ib,List.take_take];rfl
theorem UY {l m:List C} {i:Nat} (h:l.length=i) (x y:C):db (.agg (l++x::m)) i y= .agg (l++y::m):=by
 subst h;rw[q1t];simp
theorem vP {l m:List C} {i:Nat} (h:l.length=i) (x:C):bc (.agg (l++x::m)) i=x:=by
 subst h;rw[Fa];simp
theorem uQ (l:List C) (hl:l.length=32) (hN:100<N) (k:KD R):Pj N (.agg l) k=k [.agg (l.take 16)] []:=by
 obtain⟨d,rfl,h⟩:=FO (R:=R) (F:=fun k2=>Xl N k2) 16 (fun i st=>st=[.agg l,.int i,AI (.arr 16 (.int .u8)),.agg (l.take i++bf (16-i) (.int 0))]) (fun d=>d=[AI (.arr 16 (.int .u8)),.agg (l.take 16)])
  (fun i st hi hst=>by
   subst hst;have e1:(i:Int)<16:=by omega
   have e2:(i:Int)<32:=by omega
   refine⟨_,rfl,fun k rec=>?_⟩;unfold Xl;have e3:db (.agg (l.take i++bf (16-i) (.int 0))) i (bc (.agg l) i)= .agg (l.take (i+1)++bf (16-(i+1)) (.int 0)):=by
    obtain⟨m,hm⟩:∃m,16-i=m+1:=⟨15-i,by omega⟩;have lt:(l.take i).length=i:=by simp;omega
    rw[hm,show 16-(i+1)=m by omega,Ld (show i<l.length by omega),Fa,pf,UY lt,dq];rfl
   simp only[AF,AL,AP,AU,AB,e1,e2,e3,AE,bu,and_self,bh,BM (show i<4611686018427387904 by omega)])
  (fun st hst=>by
   subst hst;refine⟨_,rfl,fun k rec=>?_⟩;unfold Xl;have e:¬((16:Nat):Int)<16:=by decide
   simp only[AF,AL,AP,AU,AB,e,AE,uq,pg,lz])
  (N:=N) (by omega) (st:=[.agg l,.int (0:Nat),AI (.arr 16 (.int .u8)),AI (.arr 16 (.int .u8))]) rfl
 rw[H7];unfold jO;simp only[AQ];exact(h _).trans rfl
theorem iQ (t:C) (ht:Cz t) (p:C) (hp:Ao 16 p) (hN:5000<N) (k:KD R):Mo N t p k=k [JI p] []:=by
 obtain⟨h1,h2⟩:=Sw 16 100 (by omega) p hp;obtain⟨l,rfl,hl,hb⟩:=hp;obtain⟨s,e,hs,_⟩:=KM (CH (.int 5) [bj (au (.agg l))]);have h2':cut (au (.agg l)) 0 16=au (.agg l):=h2;have:=QQ (R:=R) (N:=N) t ht (.int 5) uU [bj (cut (au (.agg l)) 0 16)] 100 h1 (by omega) (by simp) (by rw[h2',KA,DQ];omega) (by rw[h2',KA,DQ];simp;omega);rw[h2']at this;rw[J9];unfold jJ;simp only[h2',this,AF];unfold JI;rw[e,uQ s hs (by omega)];rfl
def Jh (d:C) (i:Nat):Int:=(d.get (i / 8)).toInt / 2^(7-i%8)%2
theorem q29:∀y:Fin 256,Aj BinOp.and bt (y.val:Int) 1=(y.val:Int)%2:=by decide
theorem pO (d:C) (i:Nat):Jh d i=0\/Jh d i=1:=by unfold Jh;omega
theorem rY {d:C} (hd:Ao 32 d) {i:Nat} (hi:i<32):BO (d.get i):=by
 obtain⟨l,rfl,hl,hb⟩:=hd;rw[Fa];exact hb _ (CR (by omega))
theorem aW {x:Int} (h0:0<=x) (h:x<256) (n:Nat):0<=x / 2^n/\x / 2^n<256:=by
 have p:(0:Int)<2^n:=vi (by decide);refine⟨Int.ediv_nonneg h0 (by omega),Int.lt_of_le_of_lt (Int.ediv_le_self _ h0) h⟩
theorem q3q (d:C) (hd:Ao 32 d) (i:Nat) (hi:i<32) (k:KD R):Rj N d (.int i) k=k [.int (Jh d i)] []:=by
 obtain⟨b1,b2,b3⟩:=rY hd (show i / 8<32 by omega);have q:dz (i:Int) 8=((i / 8:Nat):Int):=by rw[ek (by omega)];omega
 have q1:IntKind.i64.wrap ((i / 8:Nat):Int)=((i / 8:Nat):Int):=wrap_i64 (by omega) (by omega);have r:bq (i:Int) 8=((i%8:Nat):Int):=by rw[dp (by omega)];omega
 have q2:IntKind.i64.wrap (7-((i%8:Nat):Int))=((7-i%8:Nat):Int):=by rw[wrap_i64 (by omega) (by omega)];omega
 have c1:((i / 8:Nat):Int)<32:=by omega
 have m:min (7-i%8) 8=7-i%8:=by omega
 rw[xB];unfold dF;simp only[AB,q,q1,r,q2,c1,bu,and_self,if_true,bh,m];have f:fx (ao (bc d (i / 8))) (2^(7-i%8))=(bc d (i / 8)).toInt / 2^(7-i%8):=ic _ (Int.le_of_lt (vi (by decide)));obtain⟨g1,g2⟩:=aW b2 b3 (7-i%8);have a:=q29 ⟨((bc d (i / 8)).toInt / 2^(7-i%8)).toNat,by omega⟩;dsimp only at a;rw[Int.toNat_of_nonneg g1]at a;rw[f,a];rfl
theorem W8 (d:C) (hd:Ao 32 d) (i:Nat) (hi:i<32) (hN:100<N) (k:KD R):Ph N d (.int i) k=k [.int (Jh d i)] []:=by
 obtain⟨b1,b2,b3⟩:=rY hd (show i / 8<32 by omega);have q:dz (i:Int) 8=((i / 8:Nat):Int):=by rw[ek (by omega)];omega
 have q1:IntKind.i64.wrap ((i / 8:Nat):Int)=((i / 8:Nat):Int):=wrap_i64 (by omega) (by omega);have r:bq (i:Int) 8=((i%8:Nat):Int):=by rw[dp (by omega)];omega
 have q2:IntKind.i64.wrap (7-((i%8:Nat):Int))=((7-i%8:Nat):Int):=by rw[wrap_i64 (by omega) (by omega)];omega
 have c1:((i / 8:Nat):Int)<32:=by omega
 generalize hx:(bc d (i / 8)).toInt=x at*
 obtain⟨dd,rfl,h⟩:=FO (R:=R) (F:=fun k2=>Xh N k2) (7-i%8) (fun j st=>st=[.int i,.int (x / 2^j),.int j]) (fun dd=>dd=[.int (x / 2^(7-i%8))])
  (fun j st hj hst=>by
   subst hst;have e1:(j:Int)<((7-i%8:Nat):Int):=by omega
   obtain⟨g1,g2⟩:=aW b2 b3 j;have e2:IntKind.i64.wrap (dz (x / 2^j) 2)=x / 2^(j+1):=by rw[ek g1,wrap_i64 (by omega) (by omega),Int.pow_succ,tu (Int.le_of_lt (vi (by decide)))]
   refine⟨_,rfl,fun k rec=>?_⟩;unfold Xh;simp only[AF,AL,AP,AB,r,q2,e1,e2,AE,BM (show j<4611686018427387904 by omega)])
  (fun st hst=>by
   subst hst;refine⟨_,rfl,fun k rec=>?_⟩;unfold Xh;simp only[AF,AL,AP,AB,r,q2,fb,AE])
  (N:=N) (by omega) (st:=[.int i,.int x,.int (0:Nat)]) (by simp)
 rw[J8];unfold jH;simp only[AQ,AB,q,q1,c1,bu,and_self,if_true,bh,hx,wrap_i64 (show-9223372036854775808<=x by omega) (show x<9223372036854775808 by omega)];refine(h _).trans ?_;obtain⟨g1,g2⟩:=aW b2 b3 (7-i%8);simp only[AF,AB,dp g1];unfold Jh;rw[hx]
def JA (s:C):Prop:=∃o t:List C,s= .agg [.agg o,.agg t]/\o.length=32/\t.length=32/\(∀p∈o,Ao 16 p)/\∀p∈t,Ao 16 p
def EO (d:C) (o t:List C) (j:Nat):C:=if Jh d j=0 then .agg [JI (o.getD j .nil),t.getD j .nil]else .agg [t.getD j .nil,JI (o.getD j .nil)]
def Kx (d:C) (o t:List C) (j:Nat):List C:=((EO d o t j).get 0).elems++((EO d o t j).get 1).elems
def HK (d:C) (o t:List C) (n:Nat):List C:=(fi n).flatMap (Kx d o t)
theorem eA (d:C) (o t:List C) (n:Nat):HK d o t (n+1)=HK d o t n++Kx d o t n:=by
 unfold HK;rw[xa,kc];simp
theorem FI {n:Nat} {p:C} (h:Ao n p):p.elems.length=n/\p= .agg p.elems/\∀c∈p.elems,BO c:=by
 obtain⟨l,rfl,hl,hb⟩:=h;exact⟨hl,rfl,hb⟩
theorem Y8 {d:C} {o t:List C} (ho:o.length=32) (ht:t.length=32) (hpo:∀p∈o,Ao 16 p) (hpt:∀p∈t,Ao 16 p) {j:Nat} (hj:j<32):
  Ao 16 ((EO d o t j).get 0)/\Ao 16 ((EO d o t j).get 1):=by
 have h1:=hpt _ (CR (l:=t) (i:=j) (by omega));have h2:=Nr (o.getD j .nil);unfold EO;split
 ·exact⟨h2,h1⟩
 ·exact⟨h1,h2⟩
theorem q8m {d:C} {o t:List C} (ho:o.length=32) (ht:t.length=32) (hpo:∀p∈o,Ao 16 p) (hpt:∀p∈t,Ao 16 p) {j:Nat} (hj:j<32):
  (Kx d o t j).length=32/\∀c∈Kx d o t j,BO c:=by
 obtain⟨h1,h2⟩:=Y8 (d:=d) ho ht hpo hpt hj;obtain⟨a1,_,a2⟩:=FI h1;obtain⟨b1,_,b2⟩:=FI h2;unfold Kx;refine⟨by rw[bx];omega,fun c hc=>?_⟩;rcases dy.1 hc with hc|hc
 ·exact a2 c hc
 ·exact b2 c hc
theorem Rz {d:C} {o t:List C} (ho:o.length=32) (ht:t.length=32) (hpo:∀p∈o,Ao 16 p) (hpt:∀p∈t,Ao 16 p):∀{n:Nat},n<=32->
  (HK d o t n).length=32*n/\∀c∈HK d o t n,BO c
 |0,_=>⟨rfl,fun _ h=>nomatch h⟩
 |n+1,hn=>by
  obtain⟨a1,a2⟩:=Rz (d:=d) ho ht hpo hpt (n:=n) (by omega);obtain⟨b1,b2⟩:=q8m (d:=d) ho ht hpo hpt (j:=n) (by omega);rw[eA];refine⟨by rw[bx];omega,fun c hc=>?_⟩;rcases dy.1 hc with hc|hc
  ·exact a2 c hc
  ·exact b2 c hc
theorem nD:BO (.int 2):=⟨rfl,by decide,by decide⟩
theorem iC (B:Nat) (l:List C) (h:∀c∈l,BO c) (hl:l.length<=B):Hc B [bj l]:=fun x hx=>by
 rw[ft.1 hx];exact⟨rfl,by simpa[AJ]using h,by rw[AJ];omega⟩
theorem Uf {p:C} (h:Ao 16 p):cr 16 (dc 0 (au p))=au p:=by rw[ib,du (by rw[(FI h).1];omega)]
theorem q8i {d:C} {o t:List C} (ho:o.length=32) (ht:t.length=32) (hpo:∀p∈o,Ao 16 p) (hpt:∀p∈t,Ao 16 p) (hN:5000<N) (hN2:N<4611686018427387904) (k:KD R):
  Rl N (.agg ((fi 32).map (EO d o t))) k=k [HZ (CH (.int 2) [.slice (HK d o t 32)])] []:=by
 obtain⟨dd,rfl,h⟩:=FO (R:=R) (F:=fun k2=>WS N k2) 32 (fun i st=>st=[.agg ((fi 32).map (EO d o t)),.slice (HK d o t i),.int i,AI (.arr 32 (.int .u8))]) (fun dd=>dd=[.slice (HK d o t 32),AI (.arr 32 (.int .u8))])
  (fun i st hi hst=>by
   subst hst;have e1:(i:Int)<32:=by omega
   obtain⟨p0,p1⟩:=Y8 (d:=d) ho ht hpo hpt hi;obtain⟨a1,_,_⟩:=FI p0;obtain⟨b1,_,_⟩:=FI p1;obtain⟨c1,_⟩:=Rz (d:=d) ho ht hpo hpt (n:=i) (by omega);have g:bc (dj ((fi 32).map (EO d o t))) i=EO d o t i:=by rw[Fa,bn,List.getElem?_map,List.getElem?_range hi];rfl
   have t0:=Uf p0;have t1:=Uf p1;have g1:(32*i+16)*1<=140737488355328/\32*i+16<=9223372036854775807:=by omega
   have g2:(32*i+16+16)*1<=140737488355328/\32*i+16+16<=9223372036854775807:=by omega
   refine⟨_,rfl,fun k rec=>?_⟩;unfold WS;simp only[AF,AL,AP,AU,AB,AJ,e1,AE,bu,and_self,bh,kb,Int.reduceToNat,g,t0,t1,a1,b1,c1,g1,g2,bw,bx,BM (show i<4611686018427387904 by omega)];rw[eA];unfold Kx;rw[dq])
  (fun st hst=>by
   subst hst;refine⟨_,rfl,fun k rec=>?_⟩;unfold WS;have e:¬((32:Nat):Int)<32:=by decide
   simp only[AF,AL,AP,AU,AB,AJ,e,AE,bw])
  (N:=N) (by omega) (st:=[.agg ((fi 32).map (EO d o t)),.slice [],.int (0:Nat),AI (.arr 32 (.int .u8))]) rfl
 obtain⟨c1,c2⟩:=Rz (d:=d) ho ht hpo hpt (n:=32) (by omega);have h2:=QR (R:=R) (N:=N) (.int 2) nD [bj (HK d o t 32)] 1100 (iC 1100 _ c2 (by omega)) (by simp;omega) (by omega) hN2 (by rw[KA,c1];omega);rw[xD];unfold dH;simp only[AQ];refine(h _).trans ?_;simp only[AF,AJ,h2]
def RY (s d:C):C:=HZ (CH (.int 2) [.slice (HK d (s.get 0).elems (s.get 1).elems 32)])
def nV:C:=.agg [.agg (bf 16 (.int 0)),.agg (bf 16 (.int 0))]
theorem q6n (s d:C) (hs:JA s) (hd:Ao 32 d) (hN:5000<N) (hN2:N<4611686018427387904) (k:KD R):Ri N s d k=k [RY s d] []:=by
 obtain⟨o,t,rfl,ho,ht,hpo,hpt⟩:=hs
 obtain⟨dd,rfl,h⟩:=FO (R:=R) (F:=fun k2=>WR N k2) 32 (fun i st=>st=[.agg [.agg o,.agg t],d,.int i,AI (.arr 32 (.int .u8)),.agg ((fi i).map (EO d o t)++bf (32-i) nV)]) (fun dd=>dd=[AI (.arr 32 (.int .u8)),.agg ((fi 32).map (EO d o t))])
  (fun i st hi hst=>by
   subst hst;have e1:(i:Int)<32:=by omega
   have h1:=fun k:KD R=>q3q (N:=N) d hd i hi k;have h2:=fun k:KD R=>q4z (N:=N) (o.getD i .nil) (hpo _ (CR (by omega))) hN hN2 k;obtain⟨m,hm⟩:∃m,32-i=m+1:=⟨31-i,by omega⟩;have hm':32-(i+1)=m:=by omega
   have hl:((fi i).map (EO d o t)).length=i:=by simp
   have e2:List.map (EO d o t) (fi (i+1))=List.map (EO d o t) (fi i)++[EO d o t i]:=by rw[xa,List.map_append];rfl
   refine⟨_,rfl,fun k rec=>?_⟩;unfold WR;rw[hm,hm',pf,e2];rcases pO d i with z|z
   ·have w:IntKind.u8.wrap (1-0)=1:=by decide
    simp only[AF,AL,AP,AU,Ab,AB,e1,h1,EW,GI,Fa o,Fa t,h2,z,w,AE,bu,and_self,bh,kb,Int.reduceToNat,Int.le_refl,Int.reduceLT,Int.reduceLE,vP hl,UY hl,BM (show i<4611686018427387904 by omega)];unfold EO nV;rw[if_pos z];simp only[HY,IC,dq,ji,fz]
   ·have w:IntKind.u8.wrap (1-1)=0:=by decide
    simp only[AF,AL,AP,AU,Ab,AB,e1,h1,EW,GI,Fa o,Fa t,h2,z,w,AE,bu,and_self,bh,kb,Int.reduceToNat,Int.le_refl,Int.reduceLT,Int.reduceLE,vP hl,UY hl,BM (show i<4611686018427387904 by omega)];unfold EO nV;rw[if_neg (by omega)];simp only[HY,IC,dq,ji,fz])
  (fun st hst=>by
   subst hst;refine⟨_,rfl,fun k rec=>?_⟩;unfold WR;have e:¬((32:Nat):Int)<32:=by decide
   simp only[AF,AL,AP,AU,Ab,AB,e,AE,uq,pg,lz])
  (N:=N) (by omega) (st:=[.agg [.agg o,.agg t],d,.int (0:Nat),AI (.arr 32 (.int .u8)),AI (.arr 32 (.arr 2 (.arr 16 (.int .u8))))]) rfl
 rw[xA];unfold dD;simp only[AQ];refine(h _).trans ?_;simp only[AF,AL,q8i ho ht hpo hpt hN hN2];rfl
theorem z24 (T:C) (hT:Cz T) (s d:C) (hs:JA s) (hd:Ao 32 d) (hN:5000<N) (k:KD R):TW N T s d k=k [RY s d] []:=by
 obtain⟨o,t,rfl,ho,ht,hpo,hpt⟩:=hs
 obtain⟨dd,rfl,h⟩:=FO (R:=R) (F:=fun k2=>Xi N k2) 32 (fun i st=>st=[T,.agg [.agg o,.agg t],d,.slice (HK d o t i),.int i,AI (.arr 32 (.int .u8))]) (fun dd=>dd=[T,.slice (HK d o t 32),AI (.arr 32 (.int .u8))])
  (fun i st hi hst=>by
   subst hst;have e1:(i:Int)<32:=by omega
   have h1:=fun k:KD R=>W8 (N:=N) d hd i hi (by omega) k;have h2:=fun k:KD R=>iQ (N:=N) T hT (o.getD i .nil) (hpo _ (CR (by omega))) hN k;obtain⟨c1,_⟩:=Rz (d:=d) ho ht hpo hpt (n:=i) (by omega);have t0:=Uf (Nr (o.getD i .nil));have t1:=Uf (hpt _ (CR (l:=t) (i:=i) (by omega)));obtain⟨a1,_,_⟩:=FI (Nr (o.getD i .nil));obtain⟨b1,_,_⟩:=FI (hpt _ (CR (l:=t) (i:=i) (by omega)));have g1:(32*i+16)*1<=140737488355328/\32*i+16<=9223372036854775807:=by omega
   have g2:(32*i+16+16)*1<=140737488355328/\32*i+16+16<=9223372036854775807:=by omega
   refine⟨_,rfl,fun k rec=>?_⟩;unfold Xi;rw[eA];rcases pO d i with z|z
   ·simp only[AQ,AF,AL,AP,AU,Ab,Av,AB,AJ,e1,h1,EW,GI,Fa o,Fa t,h2,z,t0,t1,a1,b1,c1,g1,g2,AE,bu,and_self,bh,bw,bx,BM (show i<4611686018427387904 by omega)];unfold Kx EO;rw[if_pos z,dq];rfl
   ·simp only[AQ,AF,AL,AP,AU,Ab,Av,AB,AJ,e1,h1,EW,GI,Fa o,Fa t,h2,z,show ¬((1:Int)=0) by decide,t0,t1,a1,b1,c1,g1,g2,AE,bu,and_self,bh,bw,bx,BM (show i<4611686018427387904 by omega)];unfold Kx EO;rw[if_neg (by omega),dq];rfl)
  (fun st hst=>by
   subst hst;refine⟨_,rfl,fun k rec=>?_⟩;unfold Xi;have e:¬((32:Nat):Int)<32:=by decide
   simp only[AF,AL,AP,AU,Ab,Av,AB,AJ,e,AE,bw])
  (N:=N) (by omega) (st:=[T,.agg [.agg o,.agg t],d,.slice [],.int (0:Nat),AI (.arr 32 (.int .u8))]) rfl
 obtain⟨c1,c2⟩:=Rz (d:=d) ho ht hpo hpt (n:=32) (by omega);have h2:=QQ (R:=R) (N:=N) T hT (.int 2) nD [bj (HK d o t 32)] 1100 (iC 1100 _ c2 (by omega)) (by omega) (by simp) (by rw[KA,c1];omega) (by rw[KA,c1];simp;omega);rw[H0];unfold jK;simp only[AQ];refine(h _).trans ?_;simp only[AF,AL,AJ,h2];rfl
theorem q7n (s:C) (hs:JA s) (hN:100<N) (k:KD R):Rn N s k=k [s] []:=by
 obtain⟨o,t,rfl,ho,ht,hpo,hpt⟩:=hs
 obtain⟨dd,rfl,h⟩:=FO (R:=R) (F:=fun k2=>WU N k2) 32 (fun i st=>st=[.agg [.agg o,.agg t],.int i,.agg [.agg (bf 32 (.agg (bf 16 (.int 0)))),.agg (bf 32 (.agg (bf 16 (.int 0))))],.agg [.agg (o.take i++bf (32-i) (.agg (bf 16 (.int 0)))),.agg (t.take i++bf (32-i) (.agg (bf 16 (.int 0))))]])
  (fun dd=>dd=[.agg [.agg (bf 32 (.agg (bf 16 (.int 0)))),.agg (bf 32 (.agg (bf 16 (.int 0))))],.agg [.agg o,.agg t]])
  (fun i st hi hst=>by
   subst hst;have e1:(i:Int)<32:=by omega
   obtain⟨m,hm⟩:∃m,32-i=m+1:=⟨31-i,by omega⟩;have hm':32-(i+1)=m:=by omega
   have l1:(o.take i).length=i:=by simp;omega
   have l2:(t.take i).length=i:=by simp;omega
   refine⟨_,rfl,fun k rec=>?_⟩;unfold WU;rw[hm,hm',pf (n:=m),Ld (show i<o.length by omega),Ld (show i<t.length by omega)];simp only[AF,AL,AP,AU,AB,e1,EW,GI,HY,IC,Fa o,Fa t,UY l1,UY l2,AE,bu,and_self,bh,dq,ji,fz,BM (show i<4611686018427387904 by omega)])
  (fun st hst=>by
   subst hst;refine⟨_,rfl,fun k rec=>?_⟩;unfold WU;have e:¬((32:Nat):Int)<32:=by decide
   simp only[AF,AL,AP,AU,AB,e,AE,uq,pg,lz,du (show o.length<=32 by omega),du (show t.length<=32 by omega)])
  (N:=N) (by omega) (st:=[.agg [.agg o,.agg t],.int (0:Nat),.agg [.agg (bf 32 (.agg (bf 16 (.int 0)))),.agg (bf 32 (.agg (bf 16 (.int 0))))],.agg [.agg (bf 32 (.agg (bf 16 (.int 0)))),.agg (bf 32 (.agg (bf 16 (.int 0))))]]) rfl
 rw[xE];unfold dJ;simp only[AQ];exact(h _).trans rfl
end
section
variable {R:Type} {N:Nat}
end
section
variable {R:Type} {N:Nat}
end
def q95:List Sh:=[.ts 1 (.int .u8),.d (.int .u64),.d (.int .i64)]
def q97:List (Key × OSh):=[]
def Sk {R:Type} (N:Nat) (k2:KD R):KD R->KD R:=fun k3 d1 m1=>(bif decide (0<=ao (dk d1 2))then(if 0<=ar aw (8*ao (dk d1 2))then(bif bo (aq (au (dk d1 1))) (aq (au (dk d1 1)))then(if(aq (au (dk d1 1))+1)*1<=140737488355328/\aq (au (dk d1 1))+1<=9223372036854775807 then(bif bo (aq (au (dk d1 1))+1) (aq (au (dk d1 1)++[az (ar bt (fx (ao (dk d1 0)) (2^min (av (ar aw (8*ao (dk d1 2)))) 64)))]))then(k3 [dk d1 0,bj (au (dk d1 1)++[az (ar bt (fx (ao (dk d1 0)) (2^min (av (ar aw (8*ao (dk d1 2)))) 64)))]),az (ar aw (ao (dk d1 2)-1))] [])else none)else none)else none)else none)else(bif bo (aq (au (dk d1 1))) (aq (au (dk d1 1)))then(k2 [bj (au (dk d1 1))] [])else none))
def gH (a0 a1 a2:C) (k1:KD R):Option R:=jn (fun d1 m1=>(bif bo (aq (au (dk d1 0))) (aq (au (dk d1 0)))then(k1 [bj (au (dk d1 0))] [])else none)) (fun k2=>(bif bo (aq (au a0)) (aq (au a0))then(Ac N (Sk N k2) [a1,bj (au a0),az (ar aw (ao a2-1))] [])else none))
def Oy:=lid "" (@gH R N)
theorem p8 {R N a0 a1 a2 k}:@Oy R N a0 a1 a2 k=gH N a0 a1 a2 k:=by unfold Oy;rw[AV]
def q96:OvG R:=Cc q95 q97 (fun ds ms=>Oy N (dk ds 0) (dk ds 1) (dk ds 2)) fun ds ms K d1 m1=>K (vf 1 (br bt) (au (dk d1 0))) []
theorem r9:okX 148 (@q96 R N):=Cj AW N [] [(148,[([1,0,1],(Af [(0,.sl 1 (.int .u8) 5000)])),
  ([4,1,0,1],(AX [1] [(0,.sl 1 (.int .u8) 5000),(7,.d (.int .i64))])),
  ([9],(Af [(6,.sl 1 (.int .u8) 5006)]))])] (fun _ _ _=>p8) fun ds ms K=>(show _=jn (fun d1 m1=>(bif bo (aq (au (dk d1 0))) (aq (au (dk d1 0)))then
  (K (vf 1 (br bt) (au (dk d1 0))) [])
 else
  none)) _ by kernel_rfl).trans (congrArg (fun k=>jn k _) (funext fun _=>funext fun _=>by simp only[bw,cond_true]))
def q9S:List Sh:=[.ts 1 (.int .u8),.d (.slice 8 (.int .u64))]
def q9U:List (Key × OSh):=[]
def XB (k2:KD R):KD R->KD R:=fun k3 d1 m1=>(bif decide (ao (dk d1 3)<ao (dk d1 1))then(if 0<=ao (dk d1 3)/\ao (dk d1 3)<(↑(aq (au (dk d1 0))):Int)then(bif bo (aq (au (dk d1 2))) (aq (au (dk d1 2)))then(Oy N (bj (au (dk d1 2))) (bp (au (dk d1 0)) (av (ao (dk d1 3))) dw) (az 8) (fun d2 m2=>(bif bo (aq (au (dk d2 0))) (aq (au (dk d2 0)))then(k3 [dk d1 0,dk d1 1,bj (au (dk d2 0)),az (ar aw (ao (dk d1 3)+1))] [])else none)))else none)else none)else(bif bo (aq (au (dk d1 2))) (aq (au (dk d1 2)))then(k2 [bj (au (dk d1 2))] [])else none))
def gD (a0 a1:C) (k1:KD R):Option R:=jn (fun d1 m1=>(bif bo (aq (au (dk d1 0))) (aq (au (dk d1 0)))then(k1 [bj (au (dk d1 0))] [])else none)) (fun k2=>(bif bo (aq (au a0)) (aq (au a0))then(Ac N (XB N k2) [a1,az (↑(aq (au a1)):Int),bj (au a0),az 0] [])else none))
def KF:=lid "" (@gD R N)
theorem u5 {R N a0 a1 k}:@KF R N a0 a1 k=gD N a0 a1 k:=by unfold KF;rw[AV]
def q9T:OvG R:=Cc q9S q9U (fun ds ms=>KF N (dk ds 0) (dk ds 1)) fun ds ms K d1 m1=>K (vf 1 (br bt) (au (dk d1 0))) []
theorem u4:okX 149 (@q9T R N):=Cj (AH (r9 N) <| AW) N [(149,[(4,[(15,1)])])] [(149,[([1,0,1],(Af [(0,.sl 1 (.int .u8) 5000)])),
  ([4,1,0,1],(AX [7,8] [(0,.sl 1 (.int .u8) 5000),(9,.d (.int .i64))])),
  ([9],(Af [(4,.sl 1 (.int .u8) 5004)]))])] (fun _ _ _=>u5) fun ds ms K=>(show _=jn (fun d1 m1=>(bif bo (aq (au (dk d1 0))) (aq (au (dk d1 0)))then
  (K (vf 1 (br bt) (au (dk d1 0))) [])
 else
  none)) _ by kernel_rfl).trans (congrArg (fun k=>jn k _) (funext fun _=>funext fun _=>by simp only[bw,cond_true]))
def q9Y:List Sh:=[.ts 1 (.int .u8),.d (.slice 1 (.int .u8))]
def q90:List (Key × OSh):=[]
def gF {R:Type} (N:Nat) (a0 a1:C) (k1:KD R):Option R:=bif bo (aq (au a0)) (aq (au a0))then(if(aq (au a0)+aq (au a1))*1<=140737488355328/\aq (au a0)+aq (au a1)<=9223372036854775807 then(bif bo (aq (au a0)+aq (au a1)) (aq (au a0++au a1))then(k1 [bj (au a0++au a1)] [])else none)else none)else none
def Mj:=lid "" (@gF R N)
theorem s8 {R N a0 a1 k}:@Mj R N a0 a1 k=gF N a0 a1 k:=by unfold Mj;rw[AV]
def q9Z:OvG R:=Cc q9Y q90 (fun ds ms=>Mj N (dk ds 0) (dk ds 1)) fun ds ms K d1 m1=>K (vf 1 (br bt) (au (dk d1 0))) []
theorem u9:okX 150 (@q9Z R N):=Cj AW N [] [(150,[([9],(Af [(4,.sl 1 (.int .u8) 5004)]))])] (fun _ _ _=>s8) fun ds ms K=>(show _=jn (fun d1 m1=>(bif bo (aq (au (dk d1 0))) (aq (au (dk d1 0)))then
  (K (vf 1 (br bt) (au (dk d1 0))) [])
 else
  none)) _ by kernel_rfl).trans (congrArg (fun k=>jn k _) (funext fun _=>funext fun _=>by simp only[bw,cond_true]))
def q9V:List Sh:=[.ts 1 (.int .u8),.d (.slice 4 (.int .u32))]
def q9X:List (Key × OSh):=[]
def XC (k2:KD R):KD R->KD R:=fun k3 d1 m1=>(bif decide (ao (dk d1 3)<ao (dk d1 1))then(if 0<=ao (dk d1 3)/\ao (dk d1 3)<(↑(aq (au (dk d1 0))):Int)then(bif bo (aq (au (dk d1 2))) (aq (au (dk d1 2)))then(Oy N (bj (au (dk d1 2))) (az (ar ay (ao (bp (au (dk d1 0)) (av (ao (dk d1 3))) dw)))) (az 4) (fun d2 m2=>(bif bo (aq (au (dk d2 0))) (aq (au (dk d2 0)))then(k3 [dk d1 0,dk d1 1,bj (au (dk d2 0)),az (ar aw (ao (dk d1 3)+1))] [])else none)))else none)else none)else(bif bo (aq (au (dk d1 2))) (aq (au (dk d1 2)))then(k2 [bj (au (dk d1 2))] [])else none))
def gE (a0 a1:C) (k1:KD R):Option R:=jn (fun d1 m1=>(bif bo (aq (au (dk d1 0))) (aq (au (dk d1 0)))then(k1 [bj (au (dk d1 0))] [])else none)) (fun k2=>(bif bo (aq (au a0)) (aq (au a0))then(Ac N (XC N k2) [a1,az (↑(aq (au a1)):Int),bj (au a0),az 0] [])else none))
def LJ:=lid "" (@gE R N)
theorem u7 {R N a0 a1 k}:@LJ R N a0 a1 k=gE N a0 a1 k:=by unfold LJ;rw[AV]
def q9W:OvG R:=Cc q9V q9X (fun ds ms=>LJ N (dk ds 0) (dk ds 1)) fun ds ms K d1 m1=>K (vf 1 (br bt) (au (dk d1 0))) []
theorem u6:okX 137 (@q9W R N):=Cj (AH (r9 N) <| AW) N [(137,[(4,[(16,1)])])] [(137,[([1,0,1],(Af [(0,.sl 1 (.int .u8) 5000)])),
  ([4,1,0,1],(AX [7,8] [(0,.sl 1 (.int .u8) 5000),(9,.d (.int .i64))])),
  ([9],(Af [(4,.sl 1 (.int .u8) 5004)]))])] (fun _ _ _=>u7) fun ds ms K=>(show _=jn (fun d1 m1=>(bif bo (aq (au (dk d1 0))) (aq (au (dk d1 0)))then
  (K (vf 1 (br bt) (au (dk d1 0))) [])
 else
  none)) _ by kernel_rfl).trans (congrArg (fun k=>jn k _) (funext fun _=>funext fun _=>by simp only[bw,cond_true]))
def q91:List Sh:=[.ts 1 (.int .u8),.d (.slice 32 (.arr 32 (.int .u8)))]
def q94:List (Key × OSh):=[]
def s9 {R:Type} (N:Nat) (k2:KD R):KD R->KD R:=fun k3 d1 m1=>(bif decide (ao (dk d1 3)<ao (dk d1 1))then(if 0<=ao (dk d1 3)/\ao (dk d1 3)<(↑(aq (au (dk d1 0))):Int)then(bif bo (aq (au (dk d1 2))) (aq (au (dk d1 2)))then(if(aq (au (dk d1 2))+aq (cr 32 (dc 0 (au (bp (au (dk d1 0)) (av (ao (dk d1 3))) dw)))))*1<=140737488355328/\aq (au (dk d1 2))+aq (cr 32 (dc 0 (au (bp (au (dk d1 0)) (av (ao (dk d1 3))) dw))))<=9223372036854775807 then(bif bo (aq (au (dk d1 2))+aq (cr 32 (dc 0 (au (bp (au (dk d1 0)) (av (ao (dk d1 3))) dw))))) (aq (au (dk d1 2)++cr 32 (dc 0 (au (bp (au (dk d1 0)) (av (ao (dk d1 3))) dw)))))then(k3 [dk d1 0,dk d1 1,bj (au (dk d1 2)++cr 32 (dc 0 (au (bp (au (dk d1 0)) (av (ao (dk d1 3))) dw)))),az (ar aw (ao (dk d1 3)+1))] [])else none)else none)else none)else none)else(bif bo (aq (au (dk d1 2))) (aq (au (dk d1 2)))then(k2 [bj (au (dk d1 2))] [])else none))
def gG (a0 a1 a2:C) (k1:KD R):Option R:=jn (fun d1 m1=>(bif bo (aq (au (dk d1 0))) (aq (au (dk d1 0)))then(k1 [bj (au (dk d1 0))] [])else none)) (fun k2=>(bif bo (aq (au a0)) (aq (au a0))then(Ac N (s9 N k2) [a1,az (↑(aq (au a1)):Int),bj (au a0),az 0] [])else none))
def Sj:=lid "" (@gG R N)
theorem r7 {R N a0 a1 a2 k}:@Sj R N a0 a1 a2 k=gG N a0 a1 a2 k:=by unfold Sj;rw[AV]
def q92:OvG R:=Cc q91 q94 (fun ds ms=>Sj N (dk ds 0) (dk ds 1) (dk ds 2)) fun ds ms K d1 m1=>K (vf 1 (br bt) (au (dk d1 0))) []
theorem q93:okX 155 (@q92 R N):=Cj AW N [] [(155,[([1,0,1],(Af [(0,.sl 1 (.int .u8) 5000)])),
  ([4,1,0,1],(AX [7,8] [(0,.sl 1 (.int .u8) 5000),(9,.d (.int .i64))])),
  ([9],(Af [(4,.sl 1 (.int .u8) 5004)]))])] (fun _ _ _=>r7) fun ds ms K=>(show _=jn (fun d1 m1=>(bif bo (aq (au (dk d1 0))) (aq (au (dk d1 0)))then
  (K (vf 1 (br bt) (au (dk d1 0))) [])
 else
  none)) _ by kernel_rfl).trans (congrArg (fun k=>jn k _) (funext fun _=>funext fun _=>by simp only[bw,cond_true]))
def TH {R:Type} (N:Nat) (a2:C) (k2:KD R):KD R->KD R:=fun k3 d1 m1=>(bif decide (0<=ao (dk d1 5))then(if 0<=ao (dk d1 5)/\ao (dk d1 5)<(↑(av (ao (dk d1 2))):Int)then(if ct (av (ao a2)) (br bt)=ct (av (ao a2)) (br bt)then(k3 [dk d1 0,az (↑(av (ao (dk d1 1))):Int),az (↑(av (ao (dk d1 2))):Int),az (↑(av (ao (dk d1 3))):Int),az (ar ay (dz (ao (dk d1 4)) 256)),az (ar aw (ao (dk d1 5)-1)),db (dk d1 6) (av (ao (dk d1 1))+av (ao (dk d1 5))) (az (ar bt (bq (ao (dk d1 4)) 256)))] [])else none)else none)else(if ct (av (ao a2)) (br bt)=ct (av (ao a2)) (br bt)then(k2 [dk d1 0,az (↑(av (ao (dk d1 1))):Int),az (↑(av (ao (dk d1 2))):Int),az (↑(av (ao (dk d1 3))):Int),dk d1 6] [])else none))
def iR (a0 a1 a2:C) (k1:KD R):Option R:=if 0<=ao a2/\ao a2<=ao a2/\ao a2<=9223372036854775807/\av (ao a2)*1<=140737488355328 then(jn (fun d1 m1=>(bif bo (aq (au (dk d1 0))) (aq (au (dk d1 0)))then(if(aq (au (dk d1 0))+aq (cr (av (ao (dk d1 2))) (dc (av (ao (dk d1 1))) (au (dk d1 4)))))*1<=140737488355328/\aq (au (dk d1 0))+aq (cr (av (ao (dk d1 2))) (dc (av (ao (dk d1 1))) (au (dk d1 4))))<=9223372036854775807 then(bif bo (aq (au (dk d1 0))+aq (cr (av (ao (dk d1 2))) (dc (av (ao (dk d1 1))) (au (dk d1 4))))) (aq (au (dk d1 0)++cr (av (ao (dk d1 2))) (dc (av (ao (dk d1 1))) (au (dk d1 4)))))then(k1 [bj (au (dk d1 0)++cr (av (ao (dk d1 2))) (dc (av (ao (dk d1 1))) (au (dk d1 4))))] [])else none)else none)else none)) (fun k2=>(if ct (av (ao a2)) (br bt)=ct (av (ao a2)) (br bt)then(Ac N (TH N a2 k2) [a0,az 0,az (↑(av (ao a2)):Int),az (↑(av (ao a2)):Int),a1,az (ar aw (ao a2-1)),dj (bf (av (ao a2)) (AI (br bt)))] [])else none)))else none
def FF:=lid "" (@iR R N)
theorem U3 {R N a0 a1 a2 k}:@FF R N a0 a1 a2 k=iR N a0 a1 a2 k:=by unfold FF;rw[AV]
def z06:OvG R:=Ae [.slice 1 (.int .u8),.int .u64,.int .i64] (Eb (FF N)) fun a K d1 m1=>K (vf 1 (br bt) (au (dk d1 0))) []
theorem Xd:okX 99 (@z06 R N):=Ai AW N [] [(99,[([1,0,1,1],(AX [0,7] [])),
  ([4,1,0,1,1],(AX [0,7] [(1,.d (.int .u64)),(8,.d (.int .i64))])),
  ([9],(Af [(6,.sl 1 (.int .u8) 5006)]))])] (fun _ _=>U3) fun a K=>(show _=jn (fun d1 m1=>(bif bo (aq (au (dk d1 0))) (aq (au (dk d1 0)))then
  (K (vf 1 (br bt) (au (dk d1 0))) [])
 else
  none)) _ by kernel_rfl).trans (congrArg (fun k=>jn k _) (funext fun _=>funext fun _=>by simp only[bw,cond_true]))
section
variable {R:Type} {N:Nat}
def BK:Nat->Int->List C
 |0,_=>[]
 |k+1,n=>BK k (n / 256)++[.int (n%256)]
theorem De:∀(k:Nat) (n:Int),(BK k n).length=k
 |0,_=>rfl
 |k+1,n=>by simp[BK,De k]
theorem v5:∀(k:Nat) (n:Int),BK (k+1) n= .int (n / 256^k%256)::BK k n
 |0,n=>by simp[BK]
 |k+1,n=>by
  have e:n / 256 / 256^k=n / 256^(k+1):=by rw[tu (by omega),Int.pow_succ,Int.mul_comm]
  rw[BK,v5 k (n / 256),e];rfl
theorem Z0 (k2:KD R) (c:C) (hc:0<=c.toInt):∀(m:Nat) (out:List C) (N':Nat),m<=8->m<N'->out.length+m<=1000000000000->
  Ac N' (Sk N k2) [c,.slice out,.int ((m:Int)-1)] []=k2 [.slice (out++BK m c.toInt)] []
 |0,out,N',_,hN,_=>by
  obtain⟨n,rfl⟩:∃n,N'=n+1:=⟨N'-1,by omega⟩;rw[Bm];unfold Sk;simp[go_sem,AB,AJ,BK]
 |m+1,out,N',hm,hN,hl=>by
  obtain⟨n,rfl⟩:∃n,N'=n+1:=⟨N'-1,by omega⟩;have e0:((m+1:Nat):Int)-1=m:=by omega
  have e1:IntKind.i64.wrap (8*(m:Int))=8*m:=wrap_i64 (by omega) (by omega);have e2:IntKind.i64.wrap ((m:Int)-1)=m-1:=wrap_i64 (by omega) (by omega);have e3:min (8*(m:Int)).toNat 64=8*m:=by omega
  have e4:fx c.toInt (2^(8*m))=c.toInt / 256^m:=by rw[ic _ (Int.pow_nonneg (by omega)),Int.pow_mul];rfl
  have h1:(0:Int)<=8*m:=by omega
  have h2:(out.length+1)*1<=140737488355328/\out.length+1<=9223372036854775807:=by omega
  have hb:∀rec:KD R,Sk N k2 rec [c,.slice out,.int m] []=rec [c,.slice (out++[.int (c.toInt / 256^m%256)]),.int ((m:Int)-1)] []:=by
   intro rec;unfold Sk;simp only[AF,AL,AP,AB,AJ,e1,e2,e3,e4,wrap_u8,h1,h2,and_self,AE,bu,bw,bx,cn,df,cq]
  rw[Bm,e0,hb];rw[Z0 k2 c hc m _ n (by omega) (by omega) (by simp;omega),v5];simp
theorem Q9 (out:List C) (c:C) (hc:0<=c.toInt) (m:Nat) (hm:m<=8) (hl:out.length+m<=1000000000000) (hN:100<N) (k:KD R):
  Oy N (.slice out) c (.int m) k=k [.slice (out++BK m c.toInt)] []:=by
 rw[p8];unfold gH;simp only[AQ,AB,AJ,AF,bw,cond_true];rw[wrap_i64 (by omega) (by omega),Z0 _ c hc m out N hm (by omega) hl];rfl
theorem Q8 (out l:List C) (hl:out.length+l.length<=1000000000000) (k:KD R):Mj N (.slice out) (.slice l) k=k [.slice (out++l)] []:=by
 rw[s8];unfold gF;simp only[AJ,bw,cond_true,bx];rw[if_pos (by omega)]
def DS (k:Nat) (l:List C):List C:=l.flatMap fun c=>BK k c.toInt
theorem v8 {k:Nat} {l:List C} {i:Nat} (h:i<l.length):DS k (l.take (i+1))=DS k (l.take i)++BK k (l.getD i .nil).toInt:=by
 have:l.take (i+1)=l.take i++[l.getD i .nil]:=by rw[mb,bm h,bn,bm h];rfl
 rw[this];simp[DS]
theorem gA (k:Nat):∀l:List C,(DS k l).length=k*l.length
 | []=>rfl
 |c::l=>by
  have:=gA k l;simp only[DS,List.flatMap_cons,bx,De,cn]at this ⊢;rw[this,Nat.mul_succ];omega
theorem XL (out l:List C) (hc:∀c∈l,0<=c.toInt) (hl:out.length+8*l.length<=1000000000000) (hN:l.length+100<N) (k:KD R):
  KF N (.slice out) (.slice l) k=k [.slice (out++DS 8 l)] []:=by
 rw[u5];unfold gD;simp only[AQ,AB,AJ,AF,bw,cond_true];have key:=Dd (F:=XB N fun d1 m1=>k [.slice (dk d1 0).elems] []) (fun i=>[.slice l,.int l.length,.slice (out++DS 8 (l.take i)),.int i]) (fun _=>[]) l.length (k [.slice (out++DS 8 l)] []) ?_ ?_ (N:=N) (by omega)
 ·simpa[DS]using key
 ·intro i hi rec;have h1:(i:Int)<(l.length:Int):=by omega
  unfold XB;simp only[AF,AL,AP,AU,AB,AJ,h1,AE,bu,and_self,bw,bh];rw[show az 8=az ((8:Nat):Int) from rfl,Q9 _ _ (hc _ (CR hi)) 8 (by omega) (by simp[gA];omega) (by omega)];simp only[AF,AJ,bw,cond_true,v8 hi,BM (show i<4611686018427387904 by omega),dq]
 ·intro rec;unfold XB;simp only[AF,AL,AP,AU,AB,AJ,fb,AE,bw,ir]
theorem Q7 (out l:List C) (hc:∀c∈l,0<=c.toInt/\c.toInt<18446744073709551616) (hl:out.length+4*l.length<=1000000000000) (hN:l.length+100<N) (k:KD R):
  LJ N (.slice out) (.slice l) k=k [.slice (out++DS 4 l)] []:=by
 rw[u7];unfold gE;simp only[AQ,AB,AJ,AF,bw,cond_true];have key:=Dd (F:=XC N fun d1 m1=>k [.slice (dk d1 0).elems] []) (fun i=>[.slice l,.int l.length,.slice (out++DS 4 (l.take i)),.int i]) (fun _=>[]) l.length (k [.slice (out++DS 4 l)] []) ?_ ?_ (N:=N) (by omega)
 ·simpa[DS]using key
 ·intro i hi rec;have h1:(i:Int)<(l.length:Int):=by omega
  have h2:=hc _ (CR hi);unfold XC;simp only[AF,AL,AP,AU,AB,AJ,h1,AE,bu,and_self,bw,bh];rw[wrap_u64 h2.1 h2.2,show az 4=az ((4:Nat):Int) from rfl,Q9 _ _ (by simpa[AB]using h2.1) 4 (by omega) (by simp[gA];omega) (by omega)];simp only[AF,AB,AJ,bw,cond_true,v8 hi,BM (show i<4611686018427387904 by omega),dq]
 ·intro rec;unfold XC;simp only[AF,AL,AP,AU,AB,AJ,fb,AE,bw,ir]
theorem z0o (out:List C) (c x:C) (hc:c.elems.length=32) (hl:out.length+32<=1000000000000) (hN:100<N) (k:KD R):
  Sj N (.slice out) (.slice [c]) x k=k [.slice (out++c.elems)] []:=by
 obtain⟨n,rfl⟩:∃n,N=n+2:=⟨N-2,by omega⟩;have e1:c.elems.take 32=c.elems:=by rw[du (by omega)]
 have w1:IntKind.i64.wrap (0+1)=1:=by decide
 rw[r7];unfold gG;simp only[AQ,AB,AJ,AF,bw,cond_true];rw[Bm];unfold s9;simp only[AF,AL,AP,AU,AB,AJ,cn,df,cq,List.getD_cons_zero,kb,ib,e1,hc,bw,cond_true,bx,w1];rw[if_pos (by omega),Bm];simp[go_sem,AB,AJ];intro h;omega
theorem q05 (a0:C) (S:Nat) (k2:KD R):∀(m:Nat) (c:C) (X:List C) (N':Nat),m<=S->S<=8->m<N'->W64 c.toInt->
  Ac N' (TH N (.int S) k2) [a0,.int 0,.int S,.int S,c,.int ((m:Int)-1),.agg (bf m (.int 0)++X)] []=k2 [a0,.int 0,.int S,.int S,.agg (BK m c.toInt++X)] []
 |0,c,X,N',_,_,hN,_=>by
  obtain⟨n',rfl⟩:∃n,N'=n+1:=⟨N'-1,by omega⟩;rw[Bm];unfold TH;simp[go_sem,AB,AJ,BK]
 |m+1,c,X,N',hm,hS,hN,hn=>by
  generalize hcn:c.toInt=n at hn ⊢;obtain⟨n',rfl⟩:∃n,N'=n+1:=⟨N'-1,by omega⟩;have e0:((m+1:Nat):Int)-1=m:=by omega
  have e2:IntKind.i64.wrap ((m:Int)-1)=m-1:=wrap_i64 (by omega) (by omega);have e3:dz n 256=n / 256:=ek hn.1;have e4:bq n 256=n%256:=dp hn.1;have e5:IntKind.u64.wrap (n / 256)=n / 256:=wrap_u64 (by have:=hn.1;omega) (by have:=hn.2;omega);have h1:(m:Int)<(S:Int):=by omega
  have e6:db (.agg (bf (m+1) (.int 0)++X)) m (.int (n%256%256))= .agg (bf m (.int 0)++(.int (n%256)::X)):=by
   have:bf (m+1) (az 0)++X=bf m (az 0)++(.int 0::X):=by rw[List.replicate_succ'];simp
   rw[this];simp[db,List.set_append]
  have hb:∀rec:KD R,TH N (.int S) k2 rec [a0,.int 0,.int S,.int S,c,.int m,.agg (bf (m+1) (.int 0)++X)] []=
    rec [a0,.int 0,.int S,.int S,.int (n / 256),.int ((m:Int)-1),.agg (bf m (.int 0)++(.int (n%256)::X))] []:=by
   intro rec;unfold TH;simp only[AF,AL,AP,AU,Ab,Av,Ba,AB,hcn,bu,AE,bh,h1,and_self,kb,cq,e2,e3,e4,e5,wrap_u8,e6];rfl
  rw[Bm,e0,hb,q05 a0 S k2 m (.int (n / 256)) _ n' (by omega) hS (by omega) (by simp only[AB];exact⟨by have:=hn.1;omega,by have:=hn.2;omega⟩)];simp[BK,AB]
theorem PZ (out:List C) (c:C) (hn:W64 c.toInt) (S:Nat) (hS:S<=8) (hl:out.length+S<=1000000000000) (hN:100<N) (k:KD R):
  FF N (.slice out) c (.int S) k=k [.slice (out++BK S c.toInt)] []:=by
 rw[U3];unfold iR;simp only[AQ,AB,AJ,if_true,bh];rw[if_pos (by omega),wrap_i64 (by omega) (by omega)]
 have:=q05 (N:=N) (.slice out) S (fun d1 m1=>(bif bo (aq (au (dk d1 0))) (aq (au (dk d1 0)))then
    (if(aq (au (dk d1 0))+
    aq
     (cr (av (ao (dk d1 2))) (dc (av (ao (dk d1 1))) (au (dk d1 4)))))*
   1<=
  140737488355328/\
 aq (au (dk d1 0))+
   aq
    (cr (av (ao (dk d1 2))) (dc (av (ao (dk d1 1))) (au (dk d1 4))))<=
  9223372036854775807 then
     (bif bo
 (aq (au (dk d1 0))+
  aq
   (cr (av (ao (dk d1 2))) (dc (av (ao (dk d1 1))) (au (dk d1 4)))))
 (aq
  (au (dk d1 0)++
   cr (av (ao (dk d1 2))) (dc (av (ao (dk d1 1))) (au (dk d1 4)))))then
      (k [bj
  (au (dk d1 0)++
   cr (av (ao (dk d1 2))) (dc (av (ao (dk d1 1))) (au (dk d1 4))))] [])
     else
      none)
    else
     none)
   else
    none)) S c [] N (Nat.le_refl _) hS (by omega) hn
 rw[lz]at this;refine Eq.trans this ?_;have e1:(BK S c.toInt).take S=BK S c.toInt:=by rw[du (by rw[De];omega)]
 simp only[lz,AF,AL,AP,Ab,AB,AJ,DQ,bh,kb,ib,e1,bx,De,bw,cond_true];rw[if_pos (by omega)]
end
def H8 {R:Type} (N:Nat) (k2:KD R):KD R->KD R:=fun k3 d1 m1=>(bif decide (ao (dk d1 2)<ao (dk d1 0))then(k3 [dk d1 0,az (ar aw (2*ao (dk d1 1))),az (ar aw (ao (dk d1 2)+1))] [])else(k2 [dk d1 1] []))
def jP (a0:C) (k1:KD R):Option R:=jn (fun d1 m1=>(k1 [dk d1 0] [])) (fun k2=>(Ac N (H8 N k2) [a0,az 1,az 0] []))
def Ta:=lid "" (@jP R N)
theorem H9 {R N a0 k}:@Ta R N a0 k=jP N a0 k:=by unfold Ta;rw[AV]
def z1z:OvG R:=Ae [.int .i64] (Bw (Ta N)) (BD (br aw))
theorem z1A:okX 59 (@z1z R N):=Ai AW N [] [(59,[([1,0,1,1],(Af [(3,.d (.int .i64))])),
  ([4,1,0,1,1],(AX [0] [(3,.d (.int .i64)),(4,.d (.int .i64))])),
  ([9],(Af [(2,.d (.int .i64))]))])] (fun _ _=>H9)
def jM (a0 a1 a2 a3 a4:C) (k1:KD R):Option R:=FF N (bj []) (az (ar ay (ao a2))) (az 4) (fun d1 m1=>(Gi N a0 (az 1) (bj [bj (cut (au a1) 0 32),bj (au (dk d1 0)),bj [az (ar bt (ao a3)),az (ar bt (ao a4))]]) (fun d2 m2=>(Pj N (dk d2 0) (fun d3 m3=>(k1 [dk d3 0] []))))))
def Mp:=lid "" (@jM R N)
theorem H4 {R N a0 a1 a2 a3 a4 k}:@Mp R N a0 a1 a2 a3 a4 k=jM N a0 a1 a2 a3 a4 k:=by unfold Mp;rw[AV]
def z1v:OvG R:=Ae [Bo,.arr 32 (.int .u8),.int .u32,.int .i64,.int .i64] (fun a=>Mp N (a 0) (a 1) (a 2) (a 3) (a 4)) (BD (ct 16 (br bt)))
theorem H3:okX 87 (@z1v R N):=Ai (AH (Mn N) <| AH (Xd N) <| AH (H6 N) <| AW) N [(87,[(0,[(5,5),(6,5)]),(1,[(22,7),(23,7)])])] [(87,[([9],⟨[],[(10,.as (.ptr (.l 10) [] (.arr 16 (.int .u8))))],[],[(.l 10,.box (.d (.arr 16 (.int .u8))))],[],[]⟩)])] (fun _ _=>H4)
def TX (k4:KD R):KD R->KD R:=fun k5 d2 m2=>(bif decide (ao (dk d2 5)<2)then(Mp N (dk d2 1) (dk d2 2) (dk d2 0) (dk d2 3) (dk d2 5) (fun d3 m3=>(Mo N (dk d2 1) (dk d3 0) (fun d4 m4=>(bif bo (aq (au (dk d2 4))) (aq (au (dk d2 4)))then(if(aq (au (dk d2 4))+aq (cr 16 (dc 0 (au (dk d4 0)))))*1<=140737488355328/\aq (au (dk d2 4))+aq (cr 16 (dc 0 (au (dk d4 0))))<=9223372036854775807 then(bif bo (aq (au (dk d2 4))+aq (cr 16 (dc 0 (au (dk d4 0))))) (aq (au (dk d2 4)++cr 16 (dc 0 (au (dk d4 0)))))then(k5 [dk d2 0,dk d2 1,dk d2 2,dk d2 3,bj (au (dk d2 4)++cr 16 (dc 0 (au (dk d4 0)))),az (ar aw (ao (dk d2 5)+1)),dk d2 6] [])else none)else none)else none)))))else(bif bo (aq (au (dk d2 4))) (aq (au (dk d2 4)))then(k4 [dk d2 0,dk d2 1,dk d2 2,dk d2 3,bj (au (dk d2 4)),dk d2 6] [])else none))
def Xj (k2:KD R):KD R->KD R:=fun k3 d1 m1=>(bif decide (ao (dk d1 4)<32)then(jn (fun d2 m2=>(bif bo (aq (au (dk d2 4))) (aq (au (dk d2 4)))then(k3 [dk d2 0,dk d2 1,dk d2 2,bj (au (dk d2 4)),az (ar aw (ao (dk d2 3)+1)),dk d2 5] [])else none)) (fun k4=>(bif bo (aq (au (dk d1 3))) (aq (au (dk d1 3)))then(Ac N (TX N k4) [dk d1 0,dk d1 1,dk d1 2,dk d1 4,bj (au (dk d1 3)),az 0,dk d1 5] [])else none)))else(bif bo (aq (au (dk d1 3))) (aq (au (dk d1 3)))then(k2 [dk d1 1,bj (au (dk d1 3)),dk d1 5] [])else none))
def jL (a0 a1 a2:C) (k1:KD R):Option R:=jn (fun d1 m1=>(Gi N (dk d1 0) (az 2) (bj [bj (au (dk d1 1))]) (fun d2 m2=>(k1 [dk d2 0] [])))) (fun k2=>(Ac N (Xj N k2) [a2,a0,a1,bj [],az 0,AI (ct 32 (br bt))] []))
def TY:=lid "" (@jL R N)
theorem H2 {R N a0 a1 a2 k}:@TY R N a0 a1 a2 k=jL N a0 a1 a2 k:=by unfold TY;rw[AV]
def z1t:OvG R:=Ae [Bo,.arr 32 (.int .u8),.int .u32] (Eb (TY N)) (BD (ct 32 (br bt)))
theorem z1u:okX 60 (@z1t R N):=Ai (AH (Mn N) <| AH (jI N) <| AH (H3 N) <| AW) N [(60,[(0,[(3,5),(4,5)]),(8,[(25,7),(26,7)])])] [(60,[([1,0,1,1],(AX [3,6] [(7,.sl 1 (.int .u8) 5007)])),
  ([4,1,0,1,1],(AX [2,3,4,6] [(7,.sl 1 (.int .u8) 5007),(8,.d (.int .i64))])),
  ([1,4,0,1,5,4,1,0,1,1],(AX [2,3,4,6,8] [(7,.sl 1 (.int .u8) 5007)])),
  ([4,1,4,0,1,5,4,1,0,1,1],(AX [2,3,4,6,8] [(7,.sl 1 (.int .u8) 5007),(9,.d (.int .i64))])),
  ([9],⟨[],[(6,.as (.ptr (.l 6) [] (.arr 32 (.int .u8))))],[],[(.l 6,.box (.d (.arr 32 (.int .u8))))],[],[]⟩)])] (fun _ _=>H2)
def Tb (k4:KD R):KD R->KD R:=fun k5 d3 m3=>(bif decide (ao (dk d3 4)<(↑(aq (au (dk d3 1))):Int))then(if 0<=ao (dk d3 4)/\ao (dk d3 4)<(↑(aq (au (dk d3 1))):Int)then(if 0<=ar aw (ao (dk d3 4)+1)/\ar aw (ao (dk d3 4)+1)<(↑(aq (au (dk d3 1))):Int)then(Gi N (dk d3 0) (az 3) (bj [bj (cut (au (bp (au (dk d3 1)) (av (ao (dk d3 4))) dw)) 0 32),bj (cut (au (bp (au (dk d3 1)) (av (ar aw (ao (dk d3 4)+1))) dw)) 0 32)]) (fun d4 m4=>(bif bo (aq (au (dk d3 3))) (aq (au (dk d3 3)))then(if(aq (au (dk d3 3))+1)*32<=140737488355328/\aq (au (dk d3 3))+1<=9223372036854775807 then(bif bo (aq (au (dk d3 1))) (aq (au (dk d3 1)))then(bif bo (aq (au (dk d3 2))) (aq (au (dk d3 2)))then(bif bo (aq (au (dk d3 3))+1) (aq (au (dk d3 3)++[dk d4 0]))then(k5 [dk d3 0,bj (au (dk d3 1)),bj (au (dk d3 2)),bj (au (dk d3 3)++[dk d4 0]),az (ar aw (ao (dk d3 4)+2))] [])else none)else none)else none)else none)else none)))else none)else none)else(bif bo (aq (au (dk d3 2))) (aq (au (dk d3 2)))then(bif bo (aq (au (dk d3 3))) (aq (au (dk d3 3)))then(k4 [dk d3 0,bj (au (dk d3 2)),bj (au (dk d3 3))] [])else none)else none))
def Xm (k2:KD R):KD R->KD R:=fun k3 d2 m2=>(bif decide (1<(↑(aq (au (dk d2 1))):Int))then(jn (fun d3 m3=>(bif bo (aq (au (dk d3 1))) (aq (au (dk d3 1)))then(if(aq (au (dk d3 1))+1)*24<=140737488355328/\aq (au (dk d3 1))+1<=9223372036854775807 then(bif bo (aq (au (dk d3 2))) (aq (au (dk d3 2)))then(bif bo (aq (au (dk d3 1))+1) (aq (au (dk d3 1)++[bj (au (dk d3 2))]))then(k3 [dk d3 0,bj (au (dk d3 2)),bj (au (dk d3 1)++[bj (au (dk d3 2))])] [])else none)else none)else none)else none)) (fun k4=>(bif bo (aq (au (dk d2 1))) (aq (au (dk d2 1)))then(bif bo (aq (au (dk d2 2))) (aq (au (dk d2 2)))then(Ac N (Tb N k4) [dk d2 0,bj (au (dk d2 1)),bj (au (dk d2 2)),bj [],az 0] [])else none)else none)))else(bif bo (aq (au (dk d2 2))) (aq (au (dk d2 2)))then(k2 [bj (au (dk d2 2))] [])else none))
def Xn (k2:KD R):KD R->KD R:=fun k3 d1 m1=>(Ta N (dk d1 0) (fun d2 m2=>(bif decide (ao (dk d1 4)<ao (dk d2 0))then(TY N (dk d1 1) (dk d1 2) (az (ar cm (ao (dk d1 4)))) (fun d3 m3=>(bif bo (aq (au (dk d1 3))) (aq (au (dk d1 3)))then(if(aq (au (dk d1 3))+1)*32<=140737488355328/\aq (au (dk d1 3))+1<=9223372036854775807 then(bif bo (aq (au (dk d1 3))+1) (aq (au (dk d1 3)++[dk d3 0]))then(k3 [dk d1 0,dk d1 1,dk d1 2,bj (au (dk d1 3)++[dk d3 0]),az (ar aw (ao (dk d1 4)+1))] [])else none)else none)else none)))else(bif bo (aq (au (dk d1 3))) (aq (au (dk d1 3)))then(k2 [dk d1 1,bj (au (dk d1 3))] [])else none))))
def jQ (a0 a1 a2:C) (k1:KD R):Option R:=jn (fun d1 m1=>(jn (fun d2 m2=>(bif bo (aq (au (dk d2 0))) (aq (au (dk d2 0)))then(k1 [bj (au (dk d2 0))] [])else none)) (fun k2=>(bif bo (aq (au (dk d1 1))) (aq (au (dk d1 1)))then(Ac N (Xm N k2) [dk d1 0,bj (au (dk d1 1)),bj [bj (au (dk d1 1))]] [])else none)))) (fun k2=>(Ac N (Xn N k2) [a2,a0,a1,bj [],az 0] []))
def Pk:=lid "" (@jQ R N)
theorem F0 {R N a0 a1 a2 k}:@Pk R N a0 a1 a2 k=jQ N a0 a1 a2 k:=by unfold Pk;rw[AV]
def z1B:OvG R:=Ae [Bo,.arr 32 (.int .u8),.int .i64] (Eb (Pk N)) fun a K d1 m1=>K (vf 24 (Ty.slice 32 (ct 32 (br bt))) (au (dk d1 0))) []
theorem z1C:okX 32 (@z1B R N):=Ai (AH (z1A N) <| AH (z1u N) <| AH (Mn N) <| AW) N [(32,[(0,[(3,5),(4,5)]),(6,[(27,4)]),(12,[(49,7)])])] [(32,[([1,0,1,1],(AX [3] [(7,.sl 32 (.arr 32 (.int .u8)) 5007)])),
  ([4,1,0,1,1],(AX [2,3,4] [(7,.sl 32 (.arr 32 (.int .u8)) 5007),(8,.d (.int .i64))])),
  ([0,1,1,1,1],(Af [(9,.sl 24 (.slice 32 (.arr 32 (.int .u8))) 5009)])),
  ([4,0,1,1,1,1],(AX [3] [(7,.sl 32 (.arr 32 (.int .u8)) 5007),(9,.sl 24 (.slice 32 (.arr 32 (.int .u8))) 5009)])),
  ([1,0,1,4,1,5,4,0,1,1,1,1],(AX [3] [(9,.sl 24 (.slice 32 (.arr 32 (.int .u8))) 5009),(10,.sl 32 (.arr 32 (.int .u8)) 5010)])),
  ([4,1,0,1,4,1,5,4,0,1,1,1,1],(AX [3] [(7,.sl 32 (.arr 32 (.int .u8)) 5007),(9,.sl 24 (.slice 32 (.arr 32 (.int .u8))) 5009),(10,.sl 32 (.arr 32 (.int .u8)) 5010),(11,.d (.int .i64))])),
  ([9],(Af [(6,.sl 24 (.slice 32 (.arr 32 (.int .u8))) 5006)]))])] (fun _ _=>F0) fun a K=>(show _=jn (fun d1 m1=>(bif bo (aq (au (dk d1 0))) (aq (au (dk d1 0)))then
  (K (vf 24 (Ty.slice 32 (ct 32 (br bt))) (au (dk d1 0))) [])
 else
  none)) _ by kernel_rfl).trans (congrArg (fun k=>jn k _) (funext fun _=>funext fun _=>by simp only[bw,cond_true]))
def Xk (k2:KD R):KD R->KD R:=fun k3 d1 m1=>(bif decide (ao (dk d1 4)<32)then(Ph N (dk d1 3) (dk d1 4) (fun d2 m2=>(Mp N (dk d1 1) (dk d1 2) (dk d1 0) (dk d1 4) (dk d2 0) (fun d3 m3=>(if 0<=ao (dk d1 4)/\ao (dk d1 4)<32 then(Mp N (dk d1 1) (dk d1 2) (dk d1 0) (dk d1 4) (az (ar aw (1-ao (dk d2 0)))) (fun d4 m4=>(Mo N (dk d1 1) (dk d4 0) (fun d5 m5=>(if 0<=ao (dk d1 4)/\ao (dk d1 4)<32 then(k3 [dk d1 0,dk d1 1,dk d1 2,dk d1 3,az (ar aw (ao (dk d1 4)+1)),dk d1 5,db (db (dk d1 6) 0 (db (bc (dk d1 6) 0) (av (ao (dk d1 4))) (dk d3 0))) 1 (db (bc (db (dk d1 6) 0 (db (bc (dk d1 6) 0) (av (ao (dk d1 4))) (dk d3 0))) 1) (av (ao (dk d1 4))) (dk d5 0))] [])else none)))))else none)))))else(k2 [dk d1 5,dk d1 6] []))
def jN (a0 a1 a2 a3:C) (k1:KD R):Option R:=jn (fun d1 m1=>(k1 [dk d1 1] [])) (fun k2=>(Ac N (Xk N k2) [a2,a0,a1,a3,az 0,dj [dj (bf 32 (dj (bf 16 (az 0)))),dj (bf 32 (dj (bf 16 (az 0))))],dj [dj (bf 32 (dj (bf 16 (az 0)))),dj (bf 32 (dj (bf 16 (az 0))))]] []))
def TZ:=lid "" (@jN R N)
theorem H5 {R N a0 a1 a2 a3 k}:@TZ R N a0 a1 a2 a3 k=jN N a0 a1 a2 a3 k:=by unfold TZ;rw[AV]
def z1w:OvG R:=Ae [Bo,.arr 32 (.int .u8),.int .u32,.arr 32 (.int .u8)] (fun a=>TZ N (a 0) (a 1) (a 2) (a 3)) (BD GU)
theorem z1x:okX 70 (@z1w R N):=Ai (AH (jI N) <| AH (H3 N) <| AH (J7 N) <| AW) N [(70,[(0,[(4,5),(5,5),(7,5)]),(7,[(36,7),(37,7)])])] [(70,[([1,0,1,1],(AX [8,9] [])),
  ([4,1,0,1,1],(AX [2,4,5,7,8,9] [(10,.d (.int .i64))])),
  ([9],⟨[],[(8,.as (.ptr (.l 8) [] GU))],[],[(.l 8,.box (.d GU))],[],[]⟩)])] (fun _ _=>H5)
def Tc {R:Type} (N:Nat) (k2:KD R):KD R->KD R:=fun k3 d2 m2=>(bif decide (ao (dk d2 2)<ar aw ((↑(aq (au (dk d2 0))):Int)-1))then(jn (fun d3 m3=>(if 0<=ao (dk d3 2)/\ao (dk d3 2)<(↑(aq (au (dk d3 0))):Int)then(if 0<=ao (dk d3 3)/\ao (dk d3 3)<(↑(aq (au (bp (au (dk d3 0)) (av (ao (dk d3 2))) dw))):Int)then(bif bo (aq (au (dk d3 6))) (aq (au (dk d3 6)))then(if(aq (au (dk d3 6))+1)*32<=140737488355328/\aq (au (dk d3 6))+1<=9223372036854775807 then(bif bo (aq (au (dk d3 6))+1) (aq (au (dk d3 6)++[bp (au (bp (au (dk d3 0)) (av (ao (dk d3 2))) dw)) (av (ao (dk d3 3))) dw]))then(k3 [dk d3 0,az (ar aw (dz (ao (dk d3 1)) 2)),az (ar aw (ao (dk d3 2)+1)),dk d3 4,dk d3 5,bj (au (dk d3 6)++[bp (au (bp (au (dk d3 0)) (av (ao (dk d3 2))) dw)) (av (ao (dk d3 3))) dw]),dk d3 7] [])else none)else none)else none)else none)else none)) (fun k4=>(bif decide (bq (ao (dk d2 1)) 2=1)then(k4 [dk d2 0,dk d2 1,dk d2 2,az (ar aw (ao (dk d2 1)-1)),dk d2 3,dk d2 4,bj (au (dk d2 5)),dk d2 6] [])else(k4 [dk d2 0,dk d2 1,dk d2 2,az (ar aw (ao (dk d2 1)+1)),dk d2 3,dk d2 4,bj (au (dk d2 5)),dk d2 6] []))))else(k2 [dk d2 3,dk d2 4,bj (au (dk d2 5)),dk d2 6] []))
def jR (a0 a1 a2 a3 a4:C) (k1:KD R):Option R:=TZ N a0 a1 (az (ar cm (ao a3))) a4 (fun d1 m1=>(jn (fun d2 m2=>(k1 [dj [dk d2 0,dk d2 1,bj (au (dk d2 2))]] [])) (fun k2=>(Ac N (Tc N k2) [a2,a3,az 0,dk d1 0,az (ar cm (ao a3)),bj [],dj [dj [dj (bf 32 (dj (bf 16 (az 0)))),dj (bf 32 (dj (bf 16 (az 0))))],AI (br cm),bj []]] []))))
def Td:=lid "" (@jR R N)
theorem F1 {R N a0 a1 a2 a3 a4 k}:@Td R N a0 a1 a2 a3 a4 k=jR N a0 a1 a2 a3 a4 k:=by unfold Td;rw[AV]
def z1D:OvG R:=Ae [Bo,.arr 32 (.int .u8),.slice 24 (.slice 32 (.arr 32 (.int .u8))),.int .i64,.arr 32 (.int .u8)] (fun a=>Td N (a 0) (a 1) (a 2) (a 3) (a 4)) (BD Ca)
theorem z1E:okX 44 (@z1D R N):=Ai (AH (z1x N) <| AW) N [(44,[(0,[(5,5),(6,5),(9,5)])])] [(44,[([1,0,1,1,1],⟨[10,11],[],[],[(.l 11,.box (.agg Ca [.d GU,.d (.int .u32),(.ts 32 (.arr 32 (.int .u8)))]))],[],[]⟩),
  ([4,1,0,1,1,1],⟨[2,10,11],[(12,.d (.int .i64)),(13,.d (.int .i64))],[],[(.l 11,.box (.agg Ca [.d GU,.d (.int .u32),(.ts 32 (.arr 32 (.int .u8)))]))],[],[]⟩),
  ([1,0,1,4,0,1,5,4,1,0,1,1,1],⟨[2,10,11,12,13],[(14,.d (.int .i64))],[],[(.l 11,.box (.agg Ca [.d GU,.d (.int .u32),(.ts 32 (.arr 32 (.int .u8)))]))],[],[]⟩),
  ([9],⟨[],[(10,.as (.ptr (.l 10) [] Ca))],[],[(.l 10,.box (.d Ca))],[],[]⟩)])] (fun _ _=>F1)
section
variable {R:Type} {N:Nat}
section
variable {t:C} (hOf:∀(p:List C),p.length<=200000->∃c,Dig c/\∀k:KD R,LQ N t (.slice p) k=k [c] [])
include hOf
omit hOf in
end
end
def q4T:List Sh:=[.ts 1 (.int .u8),.d DI]
def q4W:List (Key × OSh):=[]
def aU (a0 a1:C) (k1:KD R):Option R:=bif bo (aq (au a0)) (aq (au a0))then(KF N (bj (au a0)) (bj [bc a1 0]) (fun d1 m1=>(bif bo (aq (au (dk d1 0))) (aq (au (dk d1 0)))then(Mj N (bj (au (dk d1 0))) (bj [az (ar bt (ao (bc a1 1)))]) (fun d2 m2=>(bif bo (aq (au (dk d2 0))) (aq (au (dk d2 0)))then(KF N (bj (au (dk d2 0))) (bj [bc a1 2]) (fun d3 m3=>(bif bo (aq (au (dk d3 0))) (aq (au (dk d3 0)))then(Sj N (bj (au (dk d3 0))) (bj [bc a1 3]) dw (fun d4 m4=>(bif bo (aq (au (dk d4 0))) (aq (au (dk d4 0)))then(KF N (bj (au (dk d4 0))) (bj [bc a1 4]) (fun d5 m5=>(bif bo (aq (au (dk d5 0))) (aq (au (dk d5 0)))then(k1 [bj (au (dk d5 0))] [])else none)))else none)))else none)))else none)))else none)))else none
def Qs:=lid "" (@aU R N)
theorem rS {R N a0 a1 k}:@Qs R N a0 a1 k=aU N a0 a1 k:=by unfold Qs;rw[AV]
def q4U:OvG R:=Cc q4T q4W (fun ds ms=>Qs N (dk ds 0) (dk ds 1)) fun ds ms K d1 m1=>K (vf 1 (br bt) (au (dk d1 0))) []
theorem q4V:okX 151 (@q4U R N):=Cj (AH (u4 N) <| AH (u9 N) <| AH (q93 N) <| AW) N [(151,[(0,[(3,5)]),(1,[(9,1),(14,1),(18,1),(22,1),(26,1)])])] [(151,[([9],(Af [(4,.sl 1 (.int .u8) 5004)]))])] (fun _ _ _=>rS) fun ds ms K=>(show _=jn (fun d1 m1=>(bif bo (aq (au (dk d1 0))) (aq (au (dk d1 0)))then
  (K (vf 1 (br bt) (au (dk d1 0))) [])
 else
  none)) _ by kernel_rfl).trans (congrArg (fun k=>jn k _) (funext fun _=>funext fun _=>by simp only[bw,cond_true]))
def kK (a0 a1:C) (k1:KD R):Option R:=FF N a0 (bc a1 0) (az 8) (fun d1 m1=>(bif bo (aq (au (dk d1 0))) (aq (au (dk d1 0)))then(if(aq (au (dk d1 0))+1)*1<=140737488355328/\aq (au (dk d1 0))+1<=9223372036854775807 then(FF N (bj (au (dk d1 0)++[az (ar bt (ao (bc a1 1)))])) (bc a1 2) (az 8) (fun d2 m2=>(bif bo (aq (au (dk d2 0))) (aq (au (dk d2 0)))then(if(aq (au (dk d2 0))+aq (cut (au (bc a1 3)) 0 32))*1<=140737488355328/\aq (au (dk d2 0))+aq (cut (au (bc a1 3)) 0 32)<=9223372036854775807 then(FF N (bj (au (dk d2 0)++cut (au (bc a1 3)) 0 32)) (bc a1 4) (az 8) (fun d3 m3=>(bif bo (aq (au (dk d3 0))) (aq (au (dk d3 0)))then(k1 [bj (au (dk d3 0))] [])else none)))else none)else none)))else none)else none))
def Tr:=lid "" (@kK R N)
theorem q0o {R N a0 a1 k}:@Tr R N a0 a1 k=kK N a0 a1 k:=by unfold Tr;rw[AV]
def z2h:OvG R:=Ae [.slice 1 (.int .u8),DI] (Bq (Tr N)) fun a K d1 m1=>K (vf 1 (br bt) (au (dk d1 0))) []
theorem z2i:okX 123 (@z2h R N):=Ai (AH (Xd N) <| AW) N [(123,[(0,[(3,5)])])] [(123,[([9],(Af [(4,.sl 1 (.int .u8) 5004)]))])] (fun _ _=>q0o) fun a K=>(show _=jn (fun d1 m1=>(bif bo (aq (au (dk d1 0))) (aq (au (dk d1 0)))then
  (K (vf 1 (br bt) (au (dk d1 0))) [])
 else
  none)) _ by kernel_rfl).trans (congrArg (fun k=>jn k _) (funext fun _=>funext fun _=>by simp only[bw,cond_true]))
section
variable {R:Type} {N:Nat}
structure QP (c:C):Prop where
 id:W64 (c.get 0).toInt
 am:W64 (c.get 2).toInt
 hash:(c.get 3).elems.length=32
 exp:W64 (c.get 4).toInt
def Fz (c:C):List C:=BK 8 (c.get 0).toInt++[.int ((c.get 1).toInt%256)]++BK 8 (c.get 2).toInt++(c.get 3).elems++BK 8 (c.get 4).toInt
theorem q4u {c:C} (h:QP c):(Fz c).length=57:=by simp[Fz,De,h.hash]
theorem Sg (k:Nat) (c:C):DS k [c]=BK k c.toInt:=by simp[DS]
theorem uV {f:C->List C} {l:List C} {i:Nat} (h:i<l.length):(l.take (i+1)).flatMap f=(l.take i).flatMap f++f (l.getD i .nil):=by
 have:l.take (i+1)=l.take i++[l.getD i .nil]:=by rw[mb,bm h,bn,bm h];rfl
 rw[this];simp
theorem gP {c:C} (h:W64 c.toInt):∀x∈[c],0<=x.toInt:=by intro x hx;simp at hx;subst hx;exact h.1
theorem q8e (out:List C) (c:C) (h:QP c) (hl:out.length<=100000000) (hN:200<N) (k:KD R):Qs N (.slice out) c k=k [.slice (out++Fz c)] []:=by
 rw[rS];unfold aU;simp only[AJ,bw,cond_true];rw[XL _ _ (gP h.id) (by simp;omega) (by simp;omega)];simp only[AF,AJ,bw,cond_true,wrap_u8,Sg];rw[Q8 _ _ (by simp[De];omega)];simp only[AF,AJ,bw,cond_true];rw[XL _ _ (gP h.am) (by simp[De];omega) (by simp;omega)];simp only[AF,AJ,bw,cond_true,Sg];rw[z0o _ _ _ h.hash (by simp[De];omega) (by omega)];simp only[AF,AJ,bw,cond_true];rw[XL _ _ (gP h.exp) (by simp[De,h.hash];omega) (by simp;omega)];simp only[AF,AJ,bw,cond_true,Sg,Fz,dq]
theorem z0W (out:List C) (c:C) (h:QP c) (hl:out.length<=100000000) (hN:200<N) (k:KD R):Tr N (.slice out) c k=k [.slice (out++Fz c)] []:=by
 have e1:cut (c.get 3).elems 0 32=(c.get 3).elems:=by
  unfold cut;rw[du (by rw[h.hash];decide)];rfl
 have e8:az 8=az ((8:Nat):Int):=rfl;rw[q0o];unfold kK;rw[e8,PZ _ _ h.id 8 (by omega) (by omega) (by omega)];simp only[AF,AJ,bw,cond_true,wrap_u8];rw[if_pos (by simp[De];omega),PZ _ _ h.am 8 (by omega) (by simp[De];omega) (by omega)];simp only[AF,AJ,bw,cond_true,e1,h.hash];rw[if_pos (by simp[De];omega),PZ _ _ h.exp 8 (by omega) (by simp[De,h.hash];omega) (by omega)];simp only[AF,AJ,bw,cond_true,Fz,dq]
end
def Xw (k2:KD R):KD R->KD R:=fun k3 d7 m7=>(bif decide (ao (dk d7 2)<(↑(aq (au (bc (dk d7 0) 4))):Int))then(if 0<=ao (dk d7 2)/\ao (dk d7 2)<(↑(aq (au (bc (dk d7 0) 4))):Int)then(Tr N (bj (au (dk d7 1))) (bp (au (bc (dk d7 0) 4)) (av (ao (dk d7 2))) dw) (fun d8 m8=>(bif bo (aq (au (dk d8 0))) (aq (au (dk d8 0)))then(k3 [dk d7 0,bj (au (dk d8 0)),az (ar aw (ao (dk d7 2)+1))] [])else none)))else none)else(bif bo (aq (au (dk d7 1))) (aq (au (dk d7 1)))then(k2 [bj (au (dk d7 1))] [])else none))
def kN (a0 a1:C) (k1:KD R):Option R:=FF N a0 (az (ar ay (ao (bc a1 0)))) (az 4) (fun d1 m1=>(FF N (bj (au (dk d1 0))) (bc a1 1) (az 8) (fun d2 m2=>(FF N (bj (au (dk d2 0))) (bc (bc a1 2) (av 0)) (az 8) (fun d3 m3=>(FF N (bj (au (dk d3 0))) (bc (bc a1 2) (av 1)) (az 8) (fun d4 m4=>(FF N (bj (au (dk d4 0))) (bc (bc a1 3) (av 0)) (az 8) (fun d5 m5=>(FF N (bj (au (dk d5 0))) (bc (bc a1 3) (av 1)) (az 8) (fun d6 m6=>(bif bo (aq (au (dk d6 0))) (aq (au (dk d6 0)))then(if(aq (au (dk d6 0))+1)*1<=140737488355328/\aq (au (dk d6 0))+1<=9223372036854775807 then(jn (fun d7 m7=>(bif bo (aq (au (dk d7 0))) (aq (au (dk d7 0)))then(k1 [bj (au (dk d7 0))] [])else none)) (fun k2=>(bif bo (aq (au (dk d6 0))+1) (aq (au (dk d6 0)++[az (ar bt (↑(aq (au (bc a1 4))):Int))]))then(Ac N (Xw N k2) [a1,bj (au (dk d6 0)++[az (ar bt (↑(aq (au (bc a1 4))):Int))]),az 0] [])else none)))else none)else none))))))))))))
def Tt:=lid "" (@kN R N)
theorem q0r {R N a0 a1 k}:@Tt R N a0 a1 k=kN N a0 a1 k:=by unfold Tt;rw[AV]
def z2n:OvG R:=Ae [.slice 1 (.int .u8),Bi] (Bq (Tt N)) fun a K d1 m1=>K (vf 1 (br bt) (au (dk d1 0))) []
theorem z2o:okX 100 (@z2n R N):=Ai (AH (Xd N) <| AH (z2i N) <| AW) N [(100,[(0,[(3,5)])])] [(100,[([1,0,1,1,1,1,1],(Af [(0,.sl 1 (.int .u8) 5000)])),
  ([4,1,0,1,1,1,1,1],(AX [3] [(0,.sl 1 (.int .u8) 5000),(5,.d (.int .i64))])),
  ([9],(Af [(4,.sl 1 (.int .u8) 5004)]))])] (fun _ _=>q0r) fun a K=>(show _=jn (fun d1 m1=>(bif bo (aq (au (dk d1 0))) (aq (au (dk d1 0)))then
  (K (vf 1 (br bt) (au (dk d1 0))) [])
 else
  none)) _ by kernel_rfl).trans (congrArg (fun k=>jn k _) (funext fun _=>funext fun _=>by simp only[bw,cond_true]))
def kP (a0:C) (k1:KD R):Option R:=FF N (bj []) (az (ar ay (ao (bc a0 0)))) (az 4) (fun d1 m1=>(Tt N (bj []) a0 (fun d2 m2=>(Pg N (az 4) (bj [bj (au (dk d1 0)),bj (au (dk d2 0))]) (fun d3 m3=>(k1 [bj (au (dk d3 0))] []))))))
def Xx:=lid "" (@kP R N)
theorem q0u {R N a0 k}:@Xx R N a0 k=kP N a0 k:=by unfold Xx;rw[AV]
def z2q:OvG R:=Ae [Bi] (Bw (Xx N)) (BD (Ty.slice 1 (br bt)))
theorem z2r:okX 72 (@z2q R N):=Ai (AH (J2 N) <| AH (Xd N) <| AH (z2o N) <| AW) N [(72,[(0,[(1,5)])])] [(72,[([9],(Af [(2,.d (.slice 1 (.int .u8)))]))])] (fun _ _=>q0u)
def kO (a0 a1:C) (k1:KD R):Option R:=Xx N a1 (fun d1 m1=>(LQ N a0 (dk d1 0) (fun d2 m2=>(k1 [dk d2 0] []))))
def Ms:=lid "" (@kO R N)
theorem q0t {R N a0 a1 k}:@Ms R N a0 a1 k=kO N a0 a1 k:=by unfold Ms;rw[AV]
def z2p:OvG R:=Ae [Bo,Bi] (Bq (Ms N)) (BD (ct 32 (br bt)))
theorem q0s:okX 45 (@z2p R N):=Ai (AH (U9 N) <| AH (z2r N) <| AW) N [(45,[(0,[(2,5),(3,5)]),(1,[(7,7),(8,7)])])] [(45,[([9],⟨[],[(4,.as (.ptr (.l 4) [] (.arr 32 (.int .u8))))],[],[(.l 4,.box (.d (.arr 32 (.int .u8))))],[],[]⟩)])] (fun _ _=>q0t)
def xQ (k3:KD R):KD R->KD R:=fun k4 d2 m2=>(bif decide (ao (dk d2 2)<2)then(if 0<=ao (dk d2 2)/\ao (dk d2 2)<2 then(if 0<=ao (dk d2 2)/\ao (dk d2 2)<2 then(Ms N (bc (dk d2 0) 0) (dk d2 1) (fun d3 m3=>(Td N (bc (dk d2 0) 0) (bc (bc (dk d2 0) 1) (av (ao (dk d2 2)))) (bc (bc (dk d2 0) 2) (av (ao (dk d2 2)))) (az (ar aw (ao (bc (dk d2 1) 1)))) (dk d3 0) (fun d4 m4=>(if 0<=ao (dk d2 2)/\ao (dk d2 2)<2 then(k4 [dk d2 0,dk d2 1,az (ar aw (ao (dk d2 2)+1)),dk d2 3,db (dk d2 4) 1 (db (bc (dk d2 4) 1) (av (ao (dk d2 2))) (dk d4 0))] [])else none)))))else none)else none)else(k3 [dk d2 3,dk d2 4] []))
def Rt (a0 a1:C) (k1:KD R):Option R:=jn (fun d1 m1=>(jn (fun d2 m2=>(k1 [dk d2 1] [])) (fun k2=>(bif C.toBool (dk d1 2)then(jn (fun d2 m2=>(k2 [dk d2 0,dk d2 1] [])) (fun k3=>(Ac N (xQ N k3) [dk d1 0,dk d1 1,az 0,dk d1 3,dk d1 4] [])))else(k2 [dk d1 3,dk d1 4] []))))) (fun k2=>(bif decide (0<ao (bc a1 1))then(k2 [a0,a1,C.bool (decide (ao (bc a1 1)<4)),dj [dj [AI (br cm),AI (br ay),AI (ct 2 (br ay)),AI (ct 2 (br ay)),bj []],AI (ct 2 Ca)],dj [a1,AI (ct 2 Ca)]] [])else(k2 [a0,a1,C.bool false,dj [dj [AI (br cm),AI (br ay),AI (ct 2 (br ay)),AI (ct 2 (br ay)),bj []],AI (ct 2 Ca)],dj [a1,AI (ct 2 Ca)]] [])))
def Rs:=lid "" (@Rt R N)
theorem Wa {R N a0 a1 k}:@Rs R N a0 a1 k=Rt N a0 a1 k:=by unfold Rs;rw[AV]
def q7U:OvG R:=Ae [ND,Bi] (Bq (Rs N)) (BD Dw)
theorem q7V:okX 14 (@q7U R N):=Ai (AH (z1E N) <| AH (q0s N) <| AW) N [(14,[(0,[(2,5),(3,5)]),(6,[(37,7),(38,7)])])] [(14,[([0,0,1,1],(AX [2,3,4,5] [(16,.d .bool)])),
  ([1,0,1,1],(AX [4,5] [])),
  ([1,2,1,0,1,1],(AX [4,5] [])),
  ([4,1,2,1,0,1,1],(AX [2,3,4,5] [(17,.d (.int .i64))])),
  ([9],⟨[],[(4,.as (.ptr (.l 4) [] Dw))],[],[(.l 4,.box (.d Dw))],[],[]⟩)])] (fun _ _=>Wa)
def dU (a0 a1:C) (k1:KD R):Option R:=TM N (fun d1 m1=>(jn (fun d2 m2=>(k1 [dk d2 1] [])) (fun k2=>(Pk N (dk d1 0) a0 (az 2) (fun d2 m2=>(bif bo (aq (au (dk d2 0))) (aq (au (dk d2 0)))then(Pk N (dk d1 0) a1 (az 2) (fun d3 m3=>(bif bo (aq (au (dk d3 0))) (aq (au (dk d3 0)))then(k2 [dj [dj [C.str [],C.str []],dj [dj (bf 32 (az 0)),dj (bf 32 (az 0))],dj [bj [],bj []]],dj [dk d1 0,db (db (AI (ct 2 (ct 32 (br bt)))) 0 a0) 1 a1,dj [bj (au (dk d2 0)),bj (au (dk d3 0))]]] [])else none)))else none))))))
def Rv:=lid "" (@dU R N)
theorem xT {R N a0 a1 k}:@Rv R N a0 a1 k=dU N a0 a1 k:=by unfold Rv;rw[AV]
def q72:OvG R:=Ae [.arr 32 (.int .u8),.arr 32 (.int .u8)] (Bq (Rv N)) (BD ND)
theorem q73:okX 7 (@q72 R N):=Ai (AH (z1e N) <| AH (z1C N) <| AW) N [(7,[(0,[(2,5),(3,5)]),(1,[(7,7)])])] [(7,[([1,0,1,1],(AX [4,5] [])),
  ([9],⟨[],[(4,.as (.ptr (.l 4) [] ND))],[],[(.l 4,.box (.d ND))],[],[]⟩)])] (fun _ _=>xT)
end Go.Proofs.YtgdonkaoajbclaaGreatDoor
