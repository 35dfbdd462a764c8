/-
What Go functions compute, part 2.
Conditions: none.
-/
import Derived.Test.YtgdonkaoajbclaaGreatDoorKa
set_option linter.all false
noncomputable section
set_option maxRecDepth 100000
set_option maxHeartbeats 4000000
open BitVec renaming eq_of_getLsbD_eq->mu,getLsbD_and->oy,getLsbD_not->uf,getLsbD_or->uw,getLsbD_xor->ug,ofInt->dt,ofInt_natCast->lb,toNat_add->ko,toNat_setWidth->sy
open Go.BinOp renaming and->dq,xor->ej
open Go.E.C renaming agg->dh,bool->cd,elems->ao,get->ax,int->aw,nil->du,set->ct,slice->bc,toInt->aj,toStr->yb
open Go.E.Ty renaming arr->cq,int->bn
open Go.IntKind renaming bits->jc,i64->ar,signed->ig,u64->av,u8->bp,wrap->al
open Int renaming fdiv->fw,fdiv_eq_ediv_of_nonneg->ib,lt_irrefl->fa,natCast_nonneg->bq,ofNat->ja,tdiv->dx,tdiv_eq_ediv_of_nonneg->ei,tmod->bm,tmod_eq_emod_of_nonneg->dj,toNat->aq,toNat_natCast->bf
open List renaming append_assoc->dp,drop->da,drop_of_length_le->oe,drop_zero->ia,eq_nil_of_length_eq_zero->fh,eq_of_mem_replicate->ik,ext_getElem?->fk,flatMap_append->ka,flatMap_cons->ju,foldl_append->iq,foldl_cons->nz,foldl_nil->xn,getD->bj,getD_eq_getElem?_getD->bh,getElem?_append_left->fm,getElem?_append_right->ft,getElem?_eq_getElem->bg,getElem?_map->dg,getElem?_set->gd,length->ak,length_append->bt,length_cons->cg,length_map->ep,length_nil->de,length_set->ed,length_take->kg,map->db,map_append->kn,map_cons->dy,map_nil->vo,mem_append->dw,mem_cons->fz,mem_of_mem_drop->jl,mem_of_mem_take->lj,not_mem_nil->ic,replicate->ay,take->cn,take_add_one->lz,take_append_drop->ku,take_left->xo,take_length->iu,take_of_length_le->dr
open Nat renaming beq->bw,beq_refl->br,le_refl->bx,mod_eq_of_lt->qg,zero_add->cm
open Option renaming getD_some->jh
open UInt8 renaming ofNat->nr,toNat->uu
namespace Go.Proofs.YtgdonkaoajbclaaGreatDoor
open Go Go.E
variable {R:Type} (N:Nat)
section
variable {R:Type} {N:Nat}
def nG (w:List C):Nat->List W32
 |0=>ay 16 0|i+1=>(nG w i).set i (JE ((w.drop (4*i)).take 4))
def Ml (w:List C):∀i,(nG w i).length=16
 |0=>rfl|i+1=>by simp[nG,Ml w i]
def aG (h s:List W32):Nat->List W32
 |0=>h|i+1=>(aG h s i).set i (h.getD i 0+s.getD i 0)
def Lu (h s:List W32):∀i,(aG h s i).length=h.length
 |0=>rfl|i+1=>by simp[aG,Lu h s i]
def MQ {l:List W32} {i j:Nat} {x} (hi:i<l.length):(l.set i x).getD j 0=if i=j then x else l.getD j 0:=by rw[bh,bh,gd];by_cases h:i=j;{subst h;simp[hi]};{simp[h]}
def oV (h s:List W32) (hh:h.length=8):∀i j,i<=j->i<=8->(aG h s i).getD j 0=h.getD j 0
 |0,_,_,_=>rfl|i+1,j,hj,hi=>by show((aG h s i).set i _).getD j 0=_;rw[MQ (by rw[Lu];omega),if_neg (by omega),oV h s hh i j (by omega) (by omega)]
def JO (h:List W32) (w:List C):List W32:=aG h (CI (nG w 16) h 64).2 8
def aI {h:List W32} (hh:h.length=8) (w:List C):(JO h w).length=8:=by unfold JO;rw[Lu];exact hh
def q6Z (h:List W32) (hh:h.length=8) (w:List C) (hw:w.length=64) (hb:∀c∈w,BQ c) (n:C) (hN:100<N) (k:KD R):
  SX N (.agg [.agg (h.map wI),.agg w,n]) k=k [.agg [.agg ((JO h w).map wI),.agg w,n]] []:=by
 rw[z8];unfold fK;simp only[AP,z4E,AF,AK,Eg];have l3:∀K:KD R,Ae N (SW N K) [.int 0,.agg [.agg (h.map wI),.agg w,n],AJ (.arr 16 (.int .u32))] []=K [.agg [.agg (h.map wI),.agg w,n],.agg ((nG w 16).map wI)] []:=fun K=>by
  refine DX (F:=SW N K) (fun i=>[.int i,.agg [.agg (h.map wI),.agg w,n],.agg ((nG w i).map wI)]) (fun _=>[]) 16 _ ?_ ?_ (N:=N) (by omega)
  ·intro i hi rec;have e1:(i:Int)<16:=by omega
   have e2:IntKind.i64.wrap (4*(i:Int))=((4*i:Nat):Int):=by rw[wrap_i64 (by omega) (by omega)];omega
   have e3:(64-((4*i:Nat):Int)).toNat=64-4*i:=by omega
   have c1:((4*i:Nat):Int)<=64/\ja 64<=64:=⟨by omega,by decide⟩;have hv:∀k:KD R,Ox N (.slice (cn (64-4*i) (da (4*i) w))) k=k [wI (JE ((w.drop (4*i)).take 4))] []:=fun k=>by rw[z5k _ (by simp;omega) (fun c hc=>hb c (jl (lj hc))) (by omega),List.take_take];rw[show min 4 (64-4*i)=4 by omega]
   unfold SW;simp only[AF,AK,AO,AB,DV,GR,e1,e2,e3,c1,hv,q1L,AE,bq,and_self,bf,BK (show i<4611686018427387904 by omega)];rfl
  ·intro rec;have e:¬((16:Nat):Int)<16:=by decide
   unfold SW;simp only[AF,AK,AO,AB,e,AE]
 have l2:∀K:KD R,Ae N (Ow N K) [.agg (ksW.map wI),.int 0,.agg [.agg (h.map wI),.agg w,n],.agg ((nG w 16).map wI),.agg (h.map wI)] []=K [.agg [.agg (h.map wI),.agg w,n],.agg ((CI (nG w 16) h 64).2.map wI)] []:=fun K=>by
  refine DX (F:=Ow N K) (fun i=>[.agg (ksW.map wI),.int i,.agg [.agg (h.map wI),.agg w,n],.agg ((CI (nG w 16) h i).1.map wI),.agg ((CI (nG w 16) h i).2.map wI)]) (fun _=>[]) 64 _ ?_ ?_ (N:=N) (by omega);{intro i hi rec;have hl:=QK (Ml w 16) hh i;exact z3F _ _ _ i hi hl.1 hl.2 hN K rec}
  ·intro rec;have e:¬((64:Nat):Int)<64:=by decide
   unfold Ow;simp only[AF,AK,AO,AV,Ac,AB,e,AE]
 have l1:∀s:List W32,s.length=8->∀K:KD R,Ae N (SV N K) [.int 0,.agg [.agg (h.map wI),.agg w,n],.agg (s.map wI)] []=K [.agg [.agg ((aG h s 8).map wI),.agg w,n]] []:=fun s hs K=>by
  refine DX (F:=SV N K) (fun i=>[.int i,.agg [.agg ((aG h s i).map wI),.agg w,n],.agg (s.map wI)]) (fun _=>[]) 8 _ ?_ ?_ (N:=N) (by omega)
  ·intro i hi rec;have e1:(i:Int)<8:=by omega
   have g1:ax (.agg ((aG h s i).map wI)) i=wI (h.getD i 0):=by rw[HL (by rw[Lu];omega),oV h s hh i i (bx _) (by omega)]
   have g2:ax (.agg (s.map wI)) i=wI (s.getD i 0):=HL (by omega);unfold SV;simp only[AF,AK,AO,AB,e1,Eg,Hf,g1,g2,Gv,Ys,mO,AE,bq,and_self,bf,BK (show i<4611686018427387904 by omega)];rfl
  ·intro rec;have e:¬((8:Nat):Int)<8:=by decide
   unfold SV;simp only[AF,AK,AO,AB,e,AE]
 rw[l3];simp only[AF,AK,Eg];rw[l2];simp only[AF,AK];rw[l1 _ (QK (Ml w 16) hh 64).2];rfl
end
def TY {R:Type} (N:Nat) (k2:KD R):KD R->KD R:=fun k3 d1 m1=>(bif decide (aj (dk d1 3)<al ar (al ar (8*aj (dk d1 1))+8))then(if 0<=aj (dk d1 3)/\aj (dk d1 3)<(↑(ak (yb (dk d1 0))):Int)then(jn (fun d2 m2=>(k3 [dk d2 0,dk d2 1,aw (al av (al av (al av (aj (dk d2 2)*16)+aj (dk d2 4))-48)),aw (al ar (aj (dk d2 3)+1))] [])) (fun k4=>(bif decide (97<=al av (↑(uu (bj (yb (dk d1 0)) (aq (aj (dk d1 3))) (nr 0))):Int))then(k4 [dk d1 0,dk d1 1,dk d1 2,dk d1 3,aw (al av (al av (↑(uu (bj (yb (dk d1 0)) (aq (aj (dk d1 3))) (nr 0))):Int)-39))] [])else(k4 [dk d1 0,dk d1 1,dk d1 2,dk d1 3,aw (al av (↑(uu (bj (yb (dk d1 0)) (aq (aj (dk d1 3))) (nr 0))):Int))] []))))else none)else(k2 [dk d1 2] []))
def jP (a0 a1:C) (k1:KD R):Option R:=jn (fun d1 m1=>(k1 [dk d1 0] [])) (fun k2=>(Ae N (TY N k2) [a0,a1,aw 0,aw (al ar (8*aj a1))] []))
def LW:=lid "" (@jP R N)
def F3 {R N a0 a1 k}:@LW R N a0 a1 k=jP N a0 a1 k:=by unfold LW;rw[AW]
def z1L:OvG R:=Af [.str,.int .i64] (Bl (LW N)) (BD (bn av))
def F2:okX 97 (@z1L R N):=Ai AZ N [] [(97,[([1,0,1,1],(Ah [(5,.d (.int .u64))])),
  ([4,1,0,1,1],(AY [0,1] [(5,.d (.int .u64)),(6,.d (.int .i64))])),
  ([1,0,1,4,0,1,5,4,1,0,1,1],(AY [0,1,5,6] [(7,.d (.int .u64))])),
  ([9],(Ah [(4,.d (.int .u64))]))])] (fun _ _=>F3)
def TW {R:Type} (N:Nat) (k2:KD R):KD R->KD R:=fun k3 d3 m3=>(bif decide (aj (dk d3 3)<8)then(if 0<=aj (dk d3 3)/\aj (dk d3 3)<(↑(ak (ao (dk d3 0))):Int)then(if 0<=aj (dk d3 3)/\aj (dk d3 3)<(↑(aq (aj (dk d3 1))):Int)then(if(aq (aj (dk d3 2))+1)*8<=140737488355328/\aq (aj (dk d3 2))+1<=9223372036854775807 then(if ak (ao (dk d3 4))=ak (ao (dk d3 4))then(if aq (aj (dk d3 2))+1=ak (cn (aq (aj (dk d3 2))) (ao (dk d3 5))++[aw (bm (al av (aj (bj (ao (dk d3 0)) (aq (aj (dk d3 3))) du)+aj (ax (dk d3 4) (0+aq (aj (dk d3 3)))))) 4294967296)])then(k3 [dk d3 0,aw (↑(aq (aj (dk d3 1))):Int),aw (↑(aq (aj (dk d3 2))+1):Int),aw (al ar (aj (dk d3 3)+1)),dk d3 4,dh (cn (aq (aj (dk d3 2))) (ao (dk d3 5))++[aw (bm (al av (aj (bj (ao (dk d3 0)) (aq (aj (dk d3 3))) du)+aj (ax (dk d3 4) (0+aq (aj (dk d3 3)))))) 4294967296)])] [])else none)else none)else none)else none)else none)else(if ak (ao (dk d3 5))=ak (ao (dk d3 5))then(k2 [aw (↑(aq (aj (dk d3 2))):Int),dk d3 5] [])else none))
def Pj (k2:KD R):KD R->KD R:=fun k3 d2 m2=>(bif decide (aj (dk d2 4)<64)then(if 0<=bm (al ar (69-aj (dk d2 4))) 8/\bm (al ar (69-aj (dk d2 4))) 8<(↑(aq (aj (dk d2 2))):Int)then(if 0<=bm (al ar (70-aj (dk d2 4))) 8/\bm (al ar (70-aj (dk d2 4))) 8<(↑(aq (aj (dk d2 2))):Int)then(if 0<=bm (al ar (68-aj (dk d2 4))) 8/\bm (al ar (68-aj (dk d2 4))) 8<(↑(aq (aj (dk d2 2))):Int)then(Cg N (ax (dk d2 5) (0+aq (bm (al ar (68-aj (dk d2 4))) 8))) (aw 6) (cd true) (fun d3 m3=>(if 0<=bm (al ar (68-aj (dk d2 4))) 8/\bm (al ar (68-aj (dk d2 4))) 8<(↑(aq (aj (dk d2 2))):Int)then(Cg N (ax (dk d2 5) (0+aq (bm (al ar (68-aj (dk d2 4))) 8))) (aw 11) (cd true) (fun d4 m4=>(if 0<=bm (al ar (68-aj (dk d2 4))) 8/\bm (al ar (68-aj (dk d2 4))) 8<(↑(aq (aj (dk d2 2))):Int)then(Cg N (ax (dk d2 5) (0+aq (bm (al ar (68-aj (dk d2 4))) 8))) (aw 25) (cd true) (fun d5 m5=>(if 0<=bm (al ar (71-aj (dk d2 4))) 8/\bm (al ar (71-aj (dk d2 4))) 8<(↑(aq (aj (dk d2 2))):Int)then(if 0<=bm (al ar (68-aj (dk d2 4))) 8/\bm (al ar (68-aj (dk d2 4))) 8<(↑(aq (aj (dk d2 2))):Int)then(if 0<=bm (al ar (68-aj (dk d2 4))) 8/\bm (al ar (68-aj (dk d2 4))) 8<(↑(aq (aj (dk d2 2))):Int)then(LW N (ax (dk d2 1) 1) (dk d2 4) (fun d6 m6=>(if 0<=aj (dk d2 4)/\aj (dk d2 4)<(↑(ak (ao (dk d2 3))):Int)then(if 0<=bm (al ar (65-aj (dk d2 4))) 8/\bm (al ar (65-aj (dk d2 4))) 8<(↑(aq (aj (dk d2 2))):Int)then(if 0<=bm (al ar (66-aj (dk d2 4))) 8/\bm (al ar (66-aj (dk d2 4))) 8<(↑(aq (aj (dk d2 2))):Int)then(if 0<=bm (al ar (64-aj (dk d2 4))) 8/\bm (al ar (64-aj (dk d2 4))) 8<(↑(aq (aj (dk d2 2))):Int)then(Cg N (ax (dk d2 5) (0+aq (bm (al ar (64-aj (dk d2 4))) 8))) (aw 2) (cd true) (fun d7 m7=>(if 0<=bm (al ar (64-aj (dk d2 4))) 8/\bm (al ar (64-aj (dk d2 4))) 8<(↑(aq (aj (dk d2 2))):Int)then(Cg N (ax (dk d2 5) (0+aq (bm (al ar (64-aj (dk d2 4))) 8))) (aw 13) (cd true) (fun d8 m8=>(if 0<=bm (al ar (64-aj (dk d2 4))) 8/\bm (al ar (64-aj (dk d2 4))) 8<(↑(aq (aj (dk d2 2))):Int)then(Cg N (ax (dk d2 5) (0+aq (bm (al ar (64-aj (dk d2 4))) 8))) (aw 22) (cd true) (fun d9 m9=>(if 0<=bm (al ar (67-aj (dk d2 4))) 8/\bm (al ar (67-aj (dk d2 4))) 8<(↑(aq (aj (dk d2 2))):Int)then(if 0<=bm (al ar (67-aj (dk d2 4))) 8/\bm (al ar (67-aj (dk d2 4))) 8<(↑(aq (aj (dk d2 2))):Int)then(if 0<=bm (al ar (64-aj (dk d2 4))) 8/\bm (al ar (64-aj (dk d2 4))) 8<(↑(aq (aj (dk d2 2))):Int)then(if 0<=bm (al ar (64-aj (dk d2 4))) 8/\bm (al ar (64-aj (dk d2 4))) 8<(↑(aq (aj (dk d2 2))):Int)then(if 0<=bm (al ar (71-aj (dk d2 4))) 8/\bm (al ar (71-aj (dk d2 4))) 8<(↑(aq (aj (dk d2 2))):Int)then(bif bw (ak (ao (dk d2 3))) (ak (ao (dk d2 3)))then(if ak (ao (dk d2 5))=ak (ao (ct (ct (dk d2 5) (0+aq (bm (al ar (67-aj (dk d2 4))) 8)) (aw (bm (al av (aj (ax (dk d2 5) (0+aq (bm (al ar (67-aj (dk d2 4))) 8)))+al av (al av (al av (al av (aj (ax (dk d2 5) (0+aq (bm (al ar (71-aj (dk d2 4))) 8)))+Aj ej av (Aj ej av (aj (dk d3 0)) (aj (dk d4 0))) (aj (dk d5 0)))+al av (Aj dq av (aj (ax (dk d2 5) (0+aq (bm (al ar (68-aj (dk d2 4))) 8)))) (aj (ax (dk d2 5) (0+aq (bm (al ar (69-aj (dk d2 4))) 8))))+Aj dq av (al av (4294967295-aj (ax (dk d2 5) (0+aq (bm (al ar (68-aj (dk d2 4))) 8))))) (aj (ax (dk d2 5) (0+aq (bm (al ar (70-aj (dk d2 4))) 8))))))+aj (dk d6 0))+aj (bj (ao (dk d2 3)) (aq (aj (dk d2 4))) du)))) 4294967296))) (0+aq (bm (al ar (71-aj (dk d2 4))) 8)) (aw (bm (al av (al av (al av (al av (al av (al av (aj (ax (dk d2 5) (0+aq (bm (al ar (71-aj (dk d2 4))) 8)))+Aj ej av (Aj ej av (aj (dk d3 0)) (aj (dk d4 0))) (aj (dk d5 0)))+al av (Aj dq av (aj (ax (dk d2 5) (0+aq (bm (al ar (68-aj (dk d2 4))) 8)))) (aj (ax (dk d2 5) (0+aq (bm (al ar (69-aj (dk d2 4))) 8))))+Aj dq av (al av (4294967295-aj (ax (dk d2 5) (0+aq (bm (al ar (68-aj (dk d2 4))) 8))))) (aj (ax (dk d2 5) (0+aq (bm (al ar (70-aj (dk d2 4))) 8))))))+aj (dk d6 0))+aj (bj (ao (dk d2 3)) (aq (aj (dk d2 4))) du))+Aj ej av (Aj ej av (aj (dk d7 0)) (aj (dk d8 0))) (aj (dk d9 0)))+Aj ej av (Aj ej av (Aj dq av (aj (ax (ct (dk d2 5) (0+aq (bm (al ar (67-aj (dk d2 4))) 8)) (aw (bm (al av (aj (ax (dk d2 5) (0+aq (bm (al ar (67-aj (dk d2 4))) 8)))+al av (al av (al av (al av (aj (ax (dk d2 5) (0+aq (bm (al ar (71-aj (dk d2 4))) 8)))+Aj ej av (Aj ej av (aj (dk d3 0)) (aj (dk d4 0))) (aj (dk d5 0)))+al av (Aj dq av (aj (ax (dk d2 5) (0+aq (bm (al ar (68-aj (dk d2 4))) 8)))) (aj (ax (dk d2 5) (0+aq (bm (al ar (69-aj (dk d2 4))) 8))))+Aj dq av (al av (4294967295-aj (ax (dk d2 5) (0+aq (bm (al ar (68-aj (dk d2 4))) 8))))) (aj (ax (dk d2 5) (0+aq (bm (al ar (70-aj (dk d2 4))) 8))))))+aj (dk d6 0))+aj (bj (ao (dk d2 3)) (aq (aj (dk d2 4))) du)))) 4294967296))) (0+aq (bm (al ar (64-aj (dk d2 4))) 8)))) (aj (ax (dk d2 5) (0+aq (bm (al ar (65-aj (dk d2 4))) 8))))) (Aj dq av (aj (ax (ct (dk d2 5) (0+aq (bm (al ar (67-aj (dk d2 4))) 8)) (aw (bm (al av (aj (ax (dk d2 5) (0+aq (bm (al ar (67-aj (dk d2 4))) 8)))+al av (al av (al av (al av (aj (ax (dk d2 5) (0+aq (bm (al ar (71-aj (dk d2 4))) 8)))+Aj ej av (Aj ej av (aj (dk d3 0)) (aj (dk d4 0))) (aj (dk d5 0)))+al av (Aj dq av (aj (ax (dk d2 5) (0+aq (bm (al ar (68-aj (dk d2 4))) 8)))) (aj (ax (dk d2 5) (0+aq (bm (al ar (69-aj (dk d2 4))) 8))))+Aj dq av (al av (4294967295-aj (ax (dk d2 5) (0+aq (bm (al ar (68-aj (dk d2 4))) 8))))) (aj (ax (dk d2 5) (0+aq (bm (al ar (70-aj (dk d2 4))) 8))))))+aj (dk d6 0))+aj (bj (ao (dk d2 3)) (aq (aj (dk d2 4))) du)))) 4294967296))) (0+aq (bm (al ar (64-aj (dk d2 4))) 8)))) (aj (ax (dk d2 5) (0+aq (bm (al ar (66-aj (dk d2 4))) 8)))))) (Aj dq av (aj (ax (dk d2 5) (0+aq (bm (al ar (65-aj (dk d2 4))) 8)))) (aj (ax (dk d2 5) (0+aq (bm (al ar (66-aj (dk d2 4))) 8))))))) 4294967296))))then(k3 [dk d2 0,dk d2 1,aw (↑(aq (aj (dk d2 2))):Int),bc (ao (dk d2 3)),aw (al ar (aj (dk d2 4)+1)),ct (ct (dk d2 5) (0+aq (bm (al ar (67-aj (dk d2 4))) 8)) (aw (bm (al av (aj (ax (dk d2 5) (0+aq (bm (al ar (67-aj (dk d2 4))) 8)))+al av (al av (al av (al av (aj (ax (dk d2 5) (0+aq (bm (al ar (71-aj (dk d2 4))) 8)))+Aj ej av (Aj ej av (aj (dk d3 0)) (aj (dk d4 0))) (aj (dk d5 0)))+al av (Aj dq av (aj (ax (dk d2 5) (0+aq (bm (al ar (68-aj (dk d2 4))) 8)))) (aj (ax (dk d2 5) (0+aq (bm (al ar (69-aj (dk d2 4))) 8))))+Aj dq av (al av (4294967295-aj (ax (dk d2 5) (0+aq (bm (al ar (68-aj (dk d2 4))) 8))))) (aj (ax (dk d2 5) (0+aq (bm (al ar (70-aj (dk d2 4))) 8))))))+aj (dk d6 0))+aj (bj (ao (dk d2 3)) (aq (aj (dk d2 4))) du)))) 4294967296))) (0+aq (bm (al ar (71-aj (dk d2 4))) 8)) (aw (bm (al av (al av (al av (al av (al av (al av (aj (ax (dk d2 5) (0+aq (bm (al ar (71-aj (dk d2 4))) 8)))+Aj ej av (Aj ej av (aj (dk d3 0)) (aj (dk d4 0))) (aj (dk d5 0)))+al av (Aj dq av (aj (ax (dk d2 5) (0+aq (bm (al ar (68-aj (dk d2 4))) 8)))) (aj (ax (dk d2 5) (0+aq (bm (al ar (69-aj (dk d2 4))) 8))))+Aj dq av (al av (4294967295-aj (ax (dk d2 5) (0+aq (bm (al ar (68-aj (dk d2 4))) 8))))) (aj (ax (dk d2 5) (0+aq (bm (al ar (70-aj (dk d2 4))) 8))))))+aj (dk d6 0))+aj (bj (ao (dk d2 3)) (aq (aj (dk d2 4))) du))+Aj ej av (Aj ej av (aj (dk d7 0)) (aj (dk d8 0))) (aj (dk d9 0)))+Aj ej av (Aj ej av (Aj dq av (aj (ax (ct (dk d2 5) (0+aq (bm (al ar (67-aj (dk d2 4))) 8)) (aw (bm (al av (aj (ax (dk d2 5) (0+aq (bm (al ar (67-aj (dk d2 4))) 8)))+al av (al av (al av (al av (aj (ax (dk d2 5) (0+aq (bm (al ar (71-aj (dk d2 4))) 8)))+Aj ej av (Aj ej av (aj (dk d3 0)) (aj (dk d4 0))) (aj (dk d5 0)))+al av (Aj dq av (aj (ax (dk d2 5) (0+aq (bm (al ar (68-aj (dk d2 4))) 8)))) (aj (ax (dk d2 5) (0+aq (bm (al ar (69-aj (dk d2 4))) 8))))+Aj dq av (al av (4294967295-aj (ax (dk d2 5) (0+aq (bm (al ar (68-aj (dk d2 4))) 8))))) (aj (ax (dk d2 5) (0+aq (bm (al ar (70-aj (dk d2 4))) 8))))))+aj (dk d6 0))+aj (bj (ao (dk d2 3)) (aq (aj (dk d2 4))) du)))) 4294967296))) (0+aq (bm (al ar (64-aj (dk d2 4))) 8)))) (aj (ax (dk d2 5) (0+aq (bm (al ar (65-aj (dk d2 4))) 8))))) (Aj dq av (aj (ax (ct (dk d2 5) (0+aq (bm (al ar (67-aj (dk d2 4))) 8)) (aw (bm (al av (aj (ax (dk d2 5) (0+aq (bm (al ar (67-aj (dk d2 4))) 8)))+al av (al av (al av (al av (aj (ax (dk d2 5) (0+aq (bm (al ar (71-aj (dk d2 4))) 8)))+Aj ej av (Aj ej av (aj (dk d3 0)) (aj (dk d4 0))) (aj (dk d5 0)))+al av (Aj dq av (aj (ax (dk d2 5) (0+aq (bm (al ar (68-aj (dk d2 4))) 8)))) (aj (ax (dk d2 5) (0+aq (bm (al ar (69-aj (dk d2 4))) 8))))+Aj dq av (al av (4294967295-aj (ax (dk d2 5) (0+aq (bm (al ar (68-aj (dk d2 4))) 8))))) (aj (ax (dk d2 5) (0+aq (bm (al ar (70-aj (dk d2 4))) 8))))))+aj (dk d6 0))+aj (bj (ao (dk d2 3)) (aq (aj (dk d2 4))) du)))) 4294967296))) (0+aq (bm (al ar (64-aj (dk d2 4))) 8)))) (aj (ax (dk d2 5) (0+aq (bm (al ar (66-aj (dk d2 4))) 8)))))) (Aj dq av (aj (ax (dk d2 5) (0+aq (bm (al ar (65-aj (dk d2 4))) 8)))) (aj (ax (dk d2 5) (0+aq (bm (al ar (66-aj (dk d2 4))) 8))))))) 4294967296))] [])else none)else none)else none)else none)else none)else none)else none)))else none)))else none)))else none)else none)else none)else none)))else none)else none)else none)))else none)))else none)))else none)else none)else none)else(if ak (ao (dk d2 5))=ak (ao (dk d2 5))then(k2 [dk d2 0,aw (↑(aq (aj (dk d2 2))):Int),dk d2 5] [])else none))
def Pk (k2:KD R):KD R->KD R:=fun k3 d1 m1=>(bif decide (aj (dk d1 4)<64)then(jn (fun d2 m2=>(bif bw (ak (ao (dk d2 4))) (ak (ao (dk d2 4)))then(k3 [dk d2 0,dk d2 1,dk d2 2,bc (ao (dk d2 4)),aw (al ar (aj (dk d2 3)+1))] [])else none)) (fun k4=>(bif decide (aj (dk d1 4)<16)then(if 0<=al ar (4*aj (dk d1 4))/\al ar (4*aj (dk d1 4))<(↑(ak (ao (dk d1 1))):Int)then(if 0<=al ar (al ar (4*aj (dk d1 4))+1)/\al ar (al ar (4*aj (dk d1 4))+1)<(↑(ak (ao (dk d1 1))):Int)then(if 0<=al ar (al ar (4*aj (dk d1 4))+2)/\al ar (al ar (4*aj (dk d1 4))+2)<(↑(ak (ao (dk d1 1))):Int)then(if 0<=al ar (al ar (4*aj (dk d1 4))+3)/\al ar (al ar (4*aj (dk d1 4))+3)<(↑(ak (ao (dk d1 1))):Int)then(bif bw (ak (ao (dk d1 3))) (ak (ao (dk d1 3)))then(if(ak (ao (dk d1 3))+1)*8<=140737488355328/\ak (ao (dk d1 3))+1<=9223372036854775807 then(bif bw (ak (ao (dk d1 3))+1) (ak (ao (dk d1 3)++[aw (al av (al av (al av (al av (al av (al av (al av (aj (bj (ao (dk d1 1)) (aq (al ar (4*aj (dk d1 4)))) du))*256)+al av (aj (bj (ao (dk d1 1)) (aq (al ar (al ar (4*aj (dk d1 4))+1))) du)))*256)+al av (aj (bj (ao (dk d1 1)) (aq (al ar (al ar (4*aj (dk d1 4))+2))) du)))*256)+al av (aj (bj (ao (dk d1 1)) (aq (al ar (al ar (4*aj (dk d1 4))+3))) du))))]))then(k4 [dk d1 0,dk d1 1,dk d1 2,dk d1 4,bc (ao (dk d1 3)++[aw (al av (al av (al av (al av (al av (al av (al av (aj (bj (ao (dk d1 1)) (aq (al ar (4*aj (dk d1 4)))) du))*256)+al av (aj (bj (ao (dk d1 1)) (aq (al ar (al ar (4*aj (dk d1 4))+1))) du)))*256)+al av (aj (bj (ao (dk d1 1)) (aq (al ar (al ar (4*aj (dk d1 4))+2))) du)))*256)+al av (aj (bj (ao (dk d1 1)) (aq (al ar (al ar (4*aj (dk d1 4))+3))) du))))])] [])else none)else none)else none)else none)else none)else none)else none)else(if 0<=al ar (aj (dk d1 4)-15)/\al ar (aj (dk d1 4)-15)<(↑(ak (ao (dk d1 3))):Int)then(if 0<=al ar (aj (dk d1 4)-2)/\al ar (aj (dk d1 4)-2)<(↑(ak (ao (dk d1 3))):Int)then(Cg N (bj (ao (dk d1 3)) (aq (al ar (aj (dk d1 4)-15))) du) (aw 7) (cd true) (fun d2 m2=>(Cg N (bj (ao (dk d1 3)) (aq (al ar (aj (dk d1 4)-15))) du) (aw 18) (cd true) (fun d3 m3=>(Cg N (bj (ao (dk d1 3)) (aq (al ar (aj (dk d1 4)-15))) du) (aw 3) (cd false) (fun d4 m4=>(Cg N (bj (ao (dk d1 3)) (aq (al ar (aj (dk d1 4)-2))) du) (aw 17) (cd true) (fun d5 m5=>(Cg N (bj (ao (dk d1 3)) (aq (al ar (aj (dk d1 4)-2))) du) (aw 19) (cd true) (fun d6 m6=>(Cg N (bj (ao (dk d1 3)) (aq (al ar (aj (dk d1 4)-2))) du) (aw 10) (cd false) (fun d7 m7=>(if 0<=al ar (aj (dk d1 4)-16)/\al ar (aj (dk d1 4)-16)<(↑(ak (ao (dk d1 3))):Int)then(if 0<=al ar (aj (dk d1 4)-7)/\al ar (aj (dk d1 4)-7)<(↑(ak (ao (dk d1 3))):Int)then(bif bw (ak (ao (dk d1 3))) (ak (ao (dk d1 3)))then(if(ak (ao (dk d1 3))+1)*8<=140737488355328/\ak (ao (dk d1 3))+1<=9223372036854775807 then(bif bw (ak (ao (dk d1 3))+1) (ak (ao (dk d1 3)++[aw (bm (al av (al av (al av (aj (bj (ao (dk d1 3)) (aq (al ar (aj (dk d1 4)-16))) du)+Aj ej av (Aj ej av (aj (dk d2 0)) (aj (dk d3 0))) (aj (dk d4 0)))+aj (bj (ao (dk d1 3)) (aq (al ar (aj (dk d1 4)-7))) du))+Aj ej av (Aj ej av (aj (dk d5 0)) (aj (dk d6 0))) (aj (dk d7 0)))) 4294967296)]))then(k4 [dk d1 0,dk d1 1,dk d1 2,dk d1 4,bc (ao (dk d1 3)++[aw (bm (al av (al av (al av (aj (bj (ao (dk d1 3)) (aq (al ar (aj (dk d1 4)-16))) du)+Aj ej av (Aj ej av (aj (dk d2 0)) (aj (dk d3 0))) (aj (dk d4 0)))+aj (bj (ao (dk d1 3)) (aq (al ar (aj (dk d1 4)-7))) du))+Aj ej av (Aj ej av (aj (dk d5 0)) (aj (dk d6 0))) (aj (dk d7 0)))) 4294967296)])] [])else none)else none)else none)else none)else none)))))))))))))else none)else none))))else(bif bw (ak (ao (dk d1 3))) (ak (ao (dk d1 3)))then(k2 [dk d1 0,dk d1 2,bc (ao (dk d1 3))] [])else none))
def jN (a0 a1 a2:C) (k1:KD R):Option R:=jn (fun d1 m1=>(if List.isEmpty (ao (dk d1 0))=false then(jn (fun d2 m2=>(jn (fun d3 m3=>(if ak (ao (dk d3 1))=ak (ao (dk d3 1))then(k1 [aw (↑(aq (aj (dk d3 0))):Int),dk d3 1] [])else none)) (fun k2=>(if ak (ao (dk d2 2))=ak (ao (dk d2 2))then(Ae N (TW N k2) [dk d2 0,aw (↑(aq (aj (dk d2 1))):Int),aw 0,aw 0,dk d2 2,dh []] [])else none)))) (fun k2=>(bif bw (ak (ao (dk d1 2))) (ak (ao (dk d1 2)))then(if ak (ao (dk d1 0))=ak (ao (dk d1 0))then(Ae N (Pj N k2) [dk d1 0,dk d1 1,aw (↑(ak (ao (dk d1 0))):Int),bc (ao (dk d1 2)),aw 0,dh (ao (dk d1 0))] [])else none)else none)))else none)) (fun k2=>(Ae N (Pk N k2) [a1,a2,a0,bc [],aw 0] []))
def Pl:=lid "" (@jN R N)
def H9 {R N a0 a1 a2 k}:@Pl R N a0 a1 a2 k=jN N a0 a1 a2 k:=by unfold Pl;rw[AW]
def z1I:OvG R:=Af [Br,.slice 8 (.int .u64),.slice 1 (.int .u8)] (Ds (Pl N)) fun a K d1 m1=>K (V.sr (Key.l 1) [] 0 (aq (aj (dk d1 0))) none 8 (bn av)) [(Key.l 1,O.box (V.d (cq (ak (ao (dk d1 1))) (bn av)) (dk d1 1)))]
def z1J:okX 98 (@z1I R N):=Ai (AH (F2 N) <| AH (z1N N) <| AZ) N [(98,[(0,[(3,5)]),(12,[(115,3)]),(18,[(148,7),(153,7),(159,7)]),(19,[(185,7)]),(21,[(208,7),(213,7),(219,7)])])] [(98,[([1,0,1,1],⟨[1,3],[(7,.sl 8 (.int .u64) 5007)],[],[],[],[(.int .u64)]⟩),
  ([4,1,0,1,1],⟨[1,2,3],[(7,.sl 8 (.int .u64) 5007),(8,.d (.int .i64))],[],[],[],[(.int .u64)]⟩),
  ([0,1,5,4,1,0,1,1],⟨[1,2,3,8],[(7,.sl 8 (.int .u64) 5007)],[],[],[],[(.int .u64)]⟩),
  ([1,0,1,1,1,1,1],⟨[1,11],[],[],[],[],[(.int .u64)]⟩),
  ([4,1,0,1,1,1,1,1],⟨[1,3,11],[(7,.sl 8 (.int .u64) 5007),(12,.d (.int .i64))],[],[],[],[(.int .u64)]⟩),
  ([1,0,1,1,1,1,1,1,1],⟨[],[(24,.vec (.l 1000000000195) 8 (.int .u64))],[],[],[],[(.int .u64)]⟩),
  ([4,1,0,1,1,1,1,1,1,1],⟨[1,11],[(24,.vec (.l 1000000000195) 8 (.int .u64)),(25,.d (.int .i64))],[],[],[],[(.int .u64)]⟩),
  ([9],⟨[],[(6,.vec (.l 1) 8 (.int .u64))],[],[(.l 1,.box (.arr (.int .u64)))],[],[(.int .u64)]⟩)])] (fun _ _=>H9)
def TT {R:Type} (N:Nat) (k2:KD R):KD R->KD R:=fun k3 d5 m5=>(bif decide (0<=aj (dk d5 1))then(if 0<=al ar (dx (aj (dk d5 1)) 4)/\al ar (dx (aj (dk d5 1)) 4)<(↑(aq (aj (dk d5 0))):Int)then(if 0<=aj (dk d5 1)/\aj (dk d5 1)<32 then(if 0<=al ar (dx (aj (dk d5 1)) 4)/\al ar (dx (aj (dk d5 1)) 4)<(↑(aq (aj (dk d5 0))):Int)then(if 0<=al ar (dx (aj (dk d5 1)) 4)/\al ar (dx (aj (dk d5 1)) 4)<(↑(aq (aj (dk d5 0))):Int)then(if ak (ao (dk d5 4))=ak (ao (ct (dk d5 4) (0+aq (al ar (dx (aj (dk d5 1)) 4))) (aw (al av (dx (aj (ax (dk d5 4) (0+aq (al ar (dx (aj (dk d5 1)) 4))))) 256)))))then(k3 [aw (↑(aq (aj (dk d5 0))):Int),aw (al ar (aj (dk d5 1)-1)),dk d5 2,ct (dk d5 3) (aq (aj (dk d5 1))) (aw (al bp (bm (aj (ax (dk d5 4) (0+aq (al ar (dx (aj (dk d5 1)) 4))))) 256))),ct (dk d5 4) (0+aq (al ar (dx (aj (dk d5 1)) 4))) (aw (al av (dx (aj (ax (dk d5 4) (0+aq (al ar (dx (aj (dk d5 1)) 4))))) 256)))] [])else none)else none)else none)else none)else none)else(k2 [dk d5 2,dk d5 3] []))
def Xk (k2:KD R):KD R->KD R:=fun k3 d4 m4=>(bif decide (0<(↑(ak (ao (dk d4 1))):Int))then(if ja 0<=0/\ja 0<=64/\64<=(↑(ak (ao (dk d4 1))):Int)then(Pl N (dk d4 0) (bc (cn (aq (aj (dk d4 2))) (da 0 (ao (dk d4 4))))) (bc (cut (ao (dk d4 1)) 0 64)) (fun d5 m5=>(if ja 0<=64/\64<=(↑(ak (ao (dk d4 1))):Int)/\(↑(ak (ao (dk d4 1))):Int)<=(↑(ak (ao (dk d4 1))):Int)then(if ak (ao (dk d5 1))=ak (ao (dk d5 1))then(k3 [dk d4 0,bc (cut (ao (dk d4 1)) 64 (↑(ak (ao (dk d4 1))):Int)),aw (↑(aq (aj (dk d5 0))):Int),dk d4 3,dk d5 1] [])else none)else none)))else none)else(if ak (ao (dk d4 4))=ak (ao (dk d4 4))then(k2 [aw (↑(aq (aj (dk d4 2))):Int),dk d4 3,dk d4 4] [])else none))
def TU (k2:KD R):KD R->KD R:=fun k3 d3 m3=>(bif decide (aj (dk d3 3)<8)then(LW N (ax (dk d3 0) 0) (dk d3 3) (fun d4 m4=>(if 0<=aj (dk d3 3)/\aj (dk d3 3)<(↑(aq (aj (dk d3 2))):Int)then(bif bw (ak (ao (dk d3 1))) (ak (ao (dk d3 1)))then(if ak (ao (dk d3 5))=ak (ao (ct (dk d3 5) (0+aq (aj (dk d3 3))) (dk d4 0)))then(k3 [dk d3 0,bc (ao (dk d3 1)),aw (↑(aq (aj (dk d3 2))):Int),aw (al ar (aj (dk d3 3)+1)),dk d3 4,ct (dk d3 5) (0+aq (aj (dk d3 3))) (dk d4 0)] [])else none)else none)else none)))else(bif bw (ak (ao (dk d3 1))) (ak (ao (dk d3 1)))then(if ak (ao (dk d3 5))=ak (ao (dk d3 5))then(k2 [dk d3 0,bc (ao (dk d3 1)),aw (↑(aq (aj (dk d3 2))):Int),dk d3 4,dk d3 5] [])else none)else none))
def Ph {R:Type} (N:Nat) (k2:KD R):KD R->KD R:=fun k3 d2 m2=>(bif decide (0<=aj (dk d2 6))then(if 0<=aj (dk d2 6)/\aj (dk d2 6)<(↑(aq (aj (dk d2 2))):Int)then(bif bw (ak (ao (dk d2 4))) (ak (ao (dk d2 4)))then(k3 [dk d2 0,aw (↑(aq (aj (dk d2 1))):Int),aw (↑(aq (aj (dk d2 2))):Int),aw (↑(aq (aj (dk d2 3))):Int),bc (ao (dk d2 4)),aw (al av (dx (aj (dk d2 5)) 256)),aw (al ar (aj (dk d2 6)-1)),dk d2 7,ct (dk d2 8) (aq (aj (dk d2 1))+aq (aj (dk d2 6))) (aw (al bp (bm (aj (dk d2 5)) 256)))] [])else none)else none)else(bif bw (ak (ao (dk d2 4))) (ak (ao (dk d2 4)))then(k2 [dk d2 0,aw (↑(aq (aj (dk d2 1))):Int),aw (↑(aq (aj (dk d2 2))):Int),aw (↑(aq (aj (dk d2 3))):Int),bc (ao (dk d2 4)),dk d2 7,dk d2 8] [])else none))
def TV {R:Type} (N:Nat) (k2:KD R):KD R->KD R:=fun k3 d1 m1=>(bif !decide (bm (↑(ak (ao (dk d1 2))):Int) 64=56)then(bif bw (ak (ao (dk d1 2))) (ak (ao (dk d1 2)))then(if(ak (ao (dk d1 2))+1)*1<=140737488355328/\ak (ao (dk d1 2))+1<=9223372036854775807 then(bif bw (ak (ao (dk d1 2))+1) (ak (ao (dk d1 2)++[aw 0]))then(k3 [dk d1 0,dk d1 1,bc (ao (dk d1 2)++[aw 0]),dk d1 3] [])else none)else none)else none)else(bif bw (ak (ao (dk d1 2))) (ak (ao (dk d1 2)))then(k2 [dk d1 0,dk d1 1,bc (ao (dk d1 2)),dk d1 3] [])else none))
def jM (a0 a1:C) (k1:KD R):Option R:=bif bw (ak (ao a1)) (ak (ao a1))then(if(ak (ao a1)+1)*1<=140737488355328/\ak (ao a1)+1<=9223372036854775807 then(jn (fun d1 m1=>(jn (fun d2 m2=>(bif bw (ak (ao (dk d2 4))) (ak (ao (dk d2 4)))then(if(ak (ao (dk d2 4))+ak (cn (aq (aj (dk d2 2))) (da (aq (aj (dk d2 1))) (ao (dk d2 6)))))*1<=140737488355328/\ak (ao (dk d2 4))+ak (cn (aq (aj (dk d2 2))) (da (aq (aj (dk d2 1))) (ao (dk d2 6))))<=9223372036854775807 then(jn (fun d3 m3=>(jn (fun d4 m4=>(jn (fun d5 m5=>(k1 [dk d5 1] [])) (fun k2=>(if ak (ao (dk d4 2))=ak (ao (dk d4 2))then(Ae N (TT N k2) [aw (↑(aq (aj (dk d4 0))):Int),aw 31,dk d4 1,AJ (cq 32 (bn bp)),dk d4 2] [])else none)))) (fun k2=>(if ak (ao (dk d3 4))=ak (ao (dk d3 4))then(Ae N (Xk N k2) [dk d3 0,bc (ao (dk d3 1)),aw (↑(aq (aj (dk d3 2))):Int),dk d3 3,dk d3 4] [])else none)))) (fun k2=>(bif bw (ak (ao (dk d2 4))+ak (cn (aq (aj (dk d2 2))) (da (aq (aj (dk d2 1))) (ao (dk d2 6))))) (ak (ao (dk d2 4)++cn (aq (aj (dk d2 2))) (da (aq (aj (dk d2 1))) (ao (dk d2 6)))))then(Ae N (TU N k2) [dk d2 0,bc (ao (dk d2 4)++cn (aq (aj (dk d2 2))) (da (aq (aj (dk d2 1))) (ao (dk d2 6)))),aw (↑(aq 8):Int),aw 0,dk d2 5,dh (ay 8 (AJ (bn av)))] [])else none)))else none)else none)) (fun k2=>(bif bw (ak (ao (dk d1 2))) (ak (ao (dk d1 2)))then(Ae N (Ph N k2) [dk d1 1,aw 0,aw (↑(aq 8):Int),aw (↑(aq 8):Int),bc (ao (dk d1 2)),aw (al av (al av (↑(ak (ao (dk d1 0))):Int)*8)),aw 7,dk d1 3,dh (ay 8 (AJ (bn bp)))] [])else none)))) (fun k2=>(bif bw (ak (ao a1)+1) (ak (ao a1++[aw 128]))then(Ae N (TV N k2) [a1,a0,bc (ao a1++[aw 128]),AJ (cq 32 (bn bp))] [])else none)))else none)else none
def LV:=lid "" (@jM R N)
def H8 {R N a0 a1 k}:@LV R N a0 a1 k=jM N a0 a1 k:=by unfold LV;rw[AW]
def z1H:OvG R:=Af [Br,.slice 1 (.int .u8)] (Bl (LV N)) (BD (cq 32 (bn bp)))
def H7:okX 71 (@z1H R N):=Ai (AH (F2 N) <| AH (z1J N) <| AZ) N [(71,[(0,[(2,5)]),(13,[(45,9)]),(19,[(1000009,17)])])] [(71,[([0,1,1,1],⟨[1,2,4],[(5,.sl 1 (.int .u8) 5005)],[],[],[],[(.int .u64)]⟩),
  ([4,0,1,1,1],⟨[1,2,4],[(5,.sl 1 (.int .u8) 5005)],[],[],[],[(.int .u64)]⟩),
  ([1,0,1,1,1,1,1,1],⟨[2,4,7],[(5,.sl 1 (.int .u8) 5005)],[],[],[],[(.int .u64)]⟩),
  ([4,1,0,1,1,1,1,1,1],⟨[2,4,7],[(5,.sl 1 (.int .u8) 5005),(6,.d (.int .u64)),(8,.d (.int .i64))],[],[],[],[(.int .u64)]⟩),
  ([1,0,1,1,1,1,1,1,1,1,1],⟨[2,4],[(5,.sl 1 (.int .u8) 5005),(9,.vec (.l 1000000000075) 8 (.int .u64))],[],[],[],[(.int .u64)]⟩),
  ([4,1,0,1,1,1,1,1,1,1,1,1],⟨[2,4],[(5,.sl 1 (.int .u8) 5005),(9,.vec (.l 1000000000075) 8 (.int .u64)),(10,.d (.int .i64))],[],[],[],[(.int .u64)]⟩),
  ([0,1,1,1,1,1,1,1,1,1,1],⟨[4],[(9,.vec (.l 1000000000075) 8 (.int .u64))],[],[],[],[(.int .u64)]⟩),
  ([1,0,1,1,1,1,1,1,1,1,1,1,1,1],⟨[4,11],[],[],[],[],[(.int .u64)]⟩),
  ([4,1,0,1,1,1,1,1,1,1,1,1,1,1,1],⟨[4,11],[(9,.vec (.l 1000000000075) 8 (.int .u64)),(12,.d (.int .i64))],[],[],[],[(.int .u64)]⟩),
  ([9],⟨[],[(4,.as (.ptr (.l 4) [] (.arr 32 (.int .u8))))],[],[(.l 4,.box (.d (.arr 32 (.int .u8))))],[],[(.int .u64)]⟩),
  ([4,0,1,1,1,1,1,1,1,1,1,1],⟨[2,4],[(5,.d (.slice 1 (.int .u8))),(9,.vec (.l 1000000000075) 8 (.int .u64))],[],[],[],[(.int .u64)]⟩)])] (fun _ _=>H8)
def TX {R:Type} (N:Nat) (k2:KD R):KD R->KD R:=fun k3 d1 m1=>(bif decide (aj (dk d1 2)<(↑(ak (ao (dk d1 0))):Int))then(if 0<=aj (dk d1 2)/\aj (dk d1 2)<(↑(ak (ao (dk d1 0))):Int)then(bif bw (ak (ao (dk d1 1))) (ak (ao (dk d1 1)))then(if(ak (ao (dk d1 1))+4)*1<=140737488355328/\ak (ao (dk d1 1))+4<=9223372036854775807 then(if 0<=aj (dk d1 2)/\aj (dk d1 2)<(↑(ak (ao (dk d1 0))):Int)then(bif bw (ak (ao (dk d1 1))+4) (ak (ao (dk d1 1)++[aw (al bp (al ar (dx (↑(ak (ao (bj (ao (dk d1 0)) (aq (aj (dk d1 2))) du))):Int) 16777216))),aw (al bp (al ar (dx (↑(ak (ao (bj (ao (dk d1 0)) (aq (aj (dk d1 2))) du))):Int) 65536))),aw (al bp (al ar (dx (↑(ak (ao (bj (ao (dk d1 0)) (aq (aj (dk d1 2))) du))):Int) 256))),aw (al bp (↑(ak (ao (bj (ao (dk d1 0)) (aq (aj (dk d1 2))) du))):Int))]))then(if(ak (ao (dk d1 1)++[aw (al bp (al ar (dx (↑(ak (ao (bj (ao (dk d1 0)) (aq (aj (dk d1 2))) du))):Int) 16777216))),aw (al bp (al ar (dx (↑(ak (ao (bj (ao (dk d1 0)) (aq (aj (dk d1 2))) du))):Int) 65536))),aw (al bp (al ar (dx (↑(ak (ao (bj (ao (dk d1 0)) (aq (aj (dk d1 2))) du))):Int) 256))),aw (al bp (↑(ak (ao (bj (ao (dk d1 0)) (aq (aj (dk d1 2))) du))):Int))])+ak (ao (bj (ao (dk d1 0)) (aq (aj (dk d1 2))) du)))*1<=140737488355328/\ak (ao (dk d1 1)++[aw (al bp (al ar (dx (↑(ak (ao (bj (ao (dk d1 0)) (aq (aj (dk d1 2))) du))):Int) 16777216))),aw (al bp (al ar (dx (↑(ak (ao (bj (ao (dk d1 0)) (aq (aj (dk d1 2))) du))):Int) 65536))),aw (al bp (al ar (dx (↑(ak (ao (bj (ao (dk d1 0)) (aq (aj (dk d1 2))) du))):Int) 256))),aw (al bp (↑(ak (ao (bj (ao (dk d1 0)) (aq (aj (dk d1 2))) du))):Int))])+ak (ao (bj (ao (dk d1 0)) (aq (aj (dk d1 2))) du))<=9223372036854775807 then(bif bw (ak (ao (dk d1 1)++[aw (al bp (al ar (dx (↑(ak (ao (bj (ao (dk d1 0)) (aq (aj (dk d1 2))) du))):Int) 16777216))),aw (al bp (al ar (dx (↑(ak (ao (bj (ao (dk d1 0)) (aq (aj (dk d1 2))) du))):Int) 65536))),aw (al bp (al ar (dx (↑(ak (ao (bj (ao (dk d1 0)) (aq (aj (dk d1 2))) du))):Int) 256))),aw (al bp (↑(ak (ao (bj (ao (dk d1 0)) (aq (aj (dk d1 2))) du))):Int))])+ak (ao (bj (ao (dk d1 0)) (aq (aj (dk d1 2))) du))) (ak (ao (dk d1 1)++[aw (al bp (al ar (dx (↑(ak (ao (bj (ao (dk d1 0)) (aq (aj (dk d1 2))) du))):Int) 16777216))),aw (al bp (al ar (dx (↑(ak (ao (bj (ao (dk d1 0)) (aq (aj (dk d1 2))) du))):Int) 65536))),aw (al bp (al ar (dx (↑(ak (ao (bj (ao (dk d1 0)) (aq (aj (dk d1 2))) du))):Int) 256))),aw (al bp (↑(ak (ao (bj (ao (dk d1 0)) (aq (aj (dk d1 2))) du))):Int))]++ao (bj (ao (dk d1 0)) (aq (aj (dk d1 2))) du)))then(k3 [dk d1 0,bc (ao (dk d1 1)++[aw (al bp (al ar (dx (↑(ak (ao (bj (ao (dk d1 0)) (aq (aj (dk d1 2))) du))):Int) 16777216))),aw (al bp (al ar (dx (↑(ak (ao (bj (ao (dk d1 0)) (aq (aj (dk d1 2))) du))):Int) 65536))),aw (al bp (al ar (dx (↑(ak (ao (bj (ao (dk d1 0)) (aq (aj (dk d1 2))) du))):Int) 256))),aw (al bp (↑(ak (ao (bj (ao (dk d1 0)) (aq (aj (dk d1 2))) du))):Int))]++ao (bj (ao (dk d1 0)) (aq (aj (dk d1 2))) du)),aw (al ar (aj (dk d1 2)+1))] [])else none)else none)else none)else none)else none)else none)else none)else(bif bw (ak (ao (dk d1 1))) (ak (ao (dk d1 1)))then(k2 [bc (ao (dk d1 1))] [])else none))
def jO (a0 a1:C) (k1:KD R):Option R:=jn (fun d1 m1=>(bif bw (ak (ao (dk d1 0))) (ak (ao (dk d1 0)))then(k1 [bc (ao (dk d1 0))] [])else none)) (fun k2=>(Ae N (TX N k2) [a1,bc [a0,aw (al bp (↑(ak (ao a1)):Int))],aw 0] []))
def Pm:=lid "" (@jO R N)
def F1 {R N a0 a1 k}:@Pm R N a0 a1 k=jO N a0 a1 k:=by unfold Pm;rw[AW]
def z1K:OvG R:=Af [.int .u8,.slice 24 (.slice 1 (.int .u8))] (Bl (Pm N)) fun a K d1 m1=>K (V.ts 1 (bn bp) (ao (dk d1 0))) []
def F0:okX 88 (@z1K R N):=Ai AZ N [(88,[(1,[(12,4)])])] [(88,[([1,0,1,1],(Ah [(5,.sl 1 (.int .u8) 5005)])),
  ([4,1,0,1,1],(AY [1] [(5,.sl 1 (.int .u8) 5005),(6,.d (.int .i64))])),
  ([9],(Ah [(4,.sl 1 (.int .u8) 5004)]))])] (fun _ _=>F1) fun a K=>(show _=jn (fun d1 m1=>(bif bw (ak (ao (dk d1 0))) (ak (ao (dk d1 0)))then
  (K (V.ts 1 (bn bp) (ao (dk d1 0))) [])
 else
  none)) _ by kernel_rfl).trans (congrArg (fun k=>jn k _) (funext fun _=>funext fun _=>by simp only[br,cond_true]))
def jK (a0 a1 a2:C) (k1:KD R):Option R:=Pm N a1 a2 (fun d1 m1=>(LV N a0 (bc (ao (dk d1 0))) (fun d2 m2=>(k1 [dk d2 0] []))))
def Gq:=lid "" (@jK R N)
def H5 {R N a0 a1 a2 k}:@Gq R N a0 a1 a2 k=jK N a0 a1 a2 k:=by unfold Gq;rw[AW]
def z1E:OvG R:=Af [Br,.int .u8,.slice 24 (.slice 1 (.int .u8))] (Ds (Gq N)) (BD (cq 32 (bn bp)))
def Mq:okX 61 (@z1E R N):=Ai (AH (H7 N) <| AH (F0 N) <| AZ) N [(61,[(0,[(3,5)]),(1,[(11,7)])])] [(61,[([9],⟨[],[(6,.as (.ptr (.l 6) [] (.arr 32 (.int .u8))))],[],[(.l 6,.box (.d (.arr 32 (.int .u8))))],[],[]⟩)])] (fun _ _=>H5)
section
variable {R:Type} {N:Nat}
def sM (b:Int):Int:=if 97<=b then IntKind.u64.wrap (b-39)else b
def Jx (s:List UInt8) (n:Nat):Nat->Int
 |0=>0|i+1=>IntKind.u64.wrap (IntKind.u64.wrap (IntKind.u64.wrap (Jx s n i*16)+sM (IntKind.u64.wrap ((s.getD (8*n+i) (nr 0)).toNat:Int)))-48)
def pU (s:C) (n:Nat) (h1:8*n+8<=s.toStr.length) (h2:n<=1000) (hN:100<N) (k:KD R):LW N s (.int n) k=k [.int (Jx s.toStr n 8)] []:=by
 have q1:IntKind.i64.wrap (8*(n:Int))=8*n:=wrap_i64 (by omega) (by omega);have q2:IntKind.i64.wrap (8*(n:Int)+8)=8*n+8:=wrap_i64 (by omega) (by omega);have lp:∀K:KD R,Ae N (TY N K) [s,.int n,.int 0,.int (8*n+(0:Nat))] []=K [.int (Jx s.toStr n 8)] []:=fun K=>by
  refine DX (F:=TY N K) (fun i=>[s,.int n,.int (Jx s.toStr n i),.int (8*n+(i:Nat))]) (fun _=>[]) 8 _ ?_ ?_ (N:=N) (by omega)
  ·intro i hi rec;have e1:8*(n:Int)+i<8*n+8:=by omega
   have e2:0<=8*(n:Int)+i/\8*(n:Int)+i<(s.toStr.length:Int):=by omega
   have e3:IntKind.i64.wrap (8*(n:Int)+i+1)=8*n+((i+1:Nat):Int):=by rw[wrap_i64 (by omega) (by omega)];omega
   have e4:(8*(n:Int)+i).toNat=8*n+i:=by omega
   unfold TY;simp only[AP,AF,AK,AO,AV,Ac,AB,q1,q2,e1,e3,e4,AE];refine(if_pos e2).trans ?_;simp only[Jx,sM];by_cases z:97<=IntKind.u64.wrap ((bj s.toStr (8*n+i) (nr 0)).toNat:Int);{refine(congrArg (fun b=>cond b _ _) (decide_eq_true z)).trans ?_;rw[if_pos z];rfl};{refine(congrArg (fun b=>cond b _ _) (decide_eq_false z)).trans ?_;rw[if_neg z];rfl}
  ·intro rec;unfold TY;have e:¬8*(n:Int)+((8:Nat):Int)<8*n+8:=by omega
   simp only[AF,AK,AO,AV,AB,q1,q2,e,AE]
 rw[F3];unfold jP;simp only[AP,AB,q1];rw[show(8*(n:Int))=8*n+(0:Nat) by omega];exact(lp _).trans rfl
structure DH (t:C):Prop where
 l0:(t.get 0).toStr.length=64
 l1:(t.get 1).toStr.length=512
 w0:∀i,i<8->Jx (t.get 0).toStr i 8=((([1779033703,3144134277,1013904242,2773480762,1359893119,2600822924,528734635,1541459225]:List W32).getD i 0).toNat:Int)
 w1:∀i,i<64->Jx (t.get 1).toStr i 8=((ksW.getD i 0).toNat:Int)
def KY (x:Int):IntKind.u64.wrap x=x%18446744073709551616:=by simp[al,jc,ig]
def XG (x:W32):dt 64 (x.toNat:Int)=x.setWidth 64:=by rw[lb];apply BitVec.eq_of_toNat_eq;simp
def x64 (x y:W32):Aj ej av (x.toNat:Int) (y.toNat:Int)=((x^^^y).toNat:Int):=by show IntKind.u64.wrap (((dt 64 (x.toNat:Int))^^^(dt 64 (y.toNat:Int))).toNat:Int)=_;rw[XG,XG,<-BitVec.setWidth_xor,sy,KY];have:=CN (x^^^y);omega
def a64 (x y:W32):Aj dq av (x.toNat:Int) (y.toNat:Int)=((x&&&y).toNat:Int):=by show IntKind.u64.wrap (((dt 64 (x.toNat:Int))&&&(dt 64 (y.toNat:Int))).toNat:Int)=_;rw[XG,XG,<-BitVec.setWidth_and,sy,KY];have:=CN (x&&&y);omega
def q9V (x:W32):IntKind.u64.wrap (4294967295-(x.toNat:Int))=((~~~x).toNat:Int):=by have:=CN x;rw[KY,BitVec.toNat_not];omega
def z05 (e f g:W32):(e&&&f)+(~~~e&&&g)=g^^^(e&&&(f^^^g)):=by
 have h:(e&&&f)&&&(~~~e&&&g)=0:=by apply mu;intro i hi;simp only[oy,uf,BitVec.getLsbD_zero];cases e.getLsbD i <;> simp
 rw[BitVec.add_eq_or_of_and_eq_zero _ _ h];apply mu;intro i hi;simp only[oy,uw,ug,uf,hi,decide_true,Bool.true_and];cases e.getLsbD i <;> cases f.getLsbD i <;> cases g.getLsbD i <;> rfl
def q9K (a b c:W32):(a&&&b)^^^(a&&&c)^^^(b&&&c)=(a&&&b)|||(c&&&(a|||b)):=by apply mu;intro i hi;simp only[oy,uw,ug];cases a.getLsbD i <;> cases b.getLsbD i <;> cases c.getLsbD i <;> rfl
def fT {x:Int} {v:W32} (h0:0<=x) (h1:x<18446744073709551616) (h:x%4294967296=(v.toNat:Int)):bm (IntKind.u64.wrap x) 4294967296=(v.toNat:Int):=by rw[KY,Int.emod_eq_of_lt h0 h1,dj h0];exact h
end
section
variable {R:Type} {N:Nat}
def QI (w:List C) (l:List W32) (i:Nat):W32:=
 if i<16 then JE ((w.drop (4*i)).take 4)else l.getD (i-16) 0+(sg0 (l.getD (i-15) 0)+l.getD (i-7) 0+sg1 (l.getD (i-2) 0))
def CA (w:List C):Nat->List W32
 |0=>[]|i+1=>CA w i++[QI w (CA w i) i]
def Ld (w:List C):∀i,(CA w i).length=i
 |0=>rfl|i+1=>by simp[CA,Ld w i]
def Ua (w:List C) (i:Nat):∀j,i<j->(CA w j).getD i 0=QI w (CA w i) i
 |0,h=>by omega
 |j+1,h=>by simp only[CA,bh];by_cases e:i=j;{subst e;rw[ft (by rw[Ld];exact bx _),Ld,Nat.sub_self];rfl};{rw[fm (by rw[Ld];omega),<-bh];exact Ua w i j (by omega)}
def YV (w:List C) (i j k:Nat) (hj:i<j) (hk:i<k):(CA w j).getD i 0=(CA w k).getD i 0:=by rw[Ua w i j hj,Ua w i k hk]
def z5l (a b c d:C) (ha:BQ a) (hb:BQ b) (hc:BQ c) (hd:BQ d):((JE [a,b,c,d]).toNat:Int)=((a.toInt*256+b.toInt)*256+c.toInt)*256+d.toInt:=by
 have key:∀(x:W32) (y:C) (m:Nat),BQ y->x.toNat<m->m<=16777216->((x <<< 8|||dt 32 y.toInt).toNat:Int)=(x.toNat:Int)*256+y.toInt:=by
  intro x y m hy hx hm;obtain⟨_,h1,h2⟩:=hy;obtain⟨n,hn⟩:=Int.eq_ofNat_of_zero_le h1;rw[hn]at h2 ⊢;have e1:(dt 32 (n:Int)).toNat=n:=by rw[lb,BitVec.toNat_ofNat];omega
  rw[BitVec.toNat_or,BitVec.toNat_shiftLeft,Nat.shiftLeft_eq,e1];rw[show(2:Nat)^8=256 from rfl,show(2:Nat)^32=4294967296 from rfl,qg (by omega)];have:=Nat.two_pow_add_eq_or_of_lt (b:=n) (i:=8) (by omega) x.toNat;rw[Nat.mul_comm,show(256:Nat)=2^8 from rfl,<-this];omega
 have e0:=key 0 a 1 ha (by decide) (by decide);have z0:((0:W32).toNat:Int)=0:=rfl;rw[z0]at e0;have b0:=ha.2;have b1:=hb.2;have b2:=hc.2;have b3:=hd.2;have e1:=key ((0:W32) <<< 8|||dt 32 a.toInt) b 256 hb (by omega) (by decide);have e2:=key (((0:W32) <<< 8|||dt 32 a.toInt) <<< 8|||dt 32 b.toInt) c 65536 hc (by omega) (by decide);have e3:=key ((((0:W32) <<< 8|||dt 32 a.toInt) <<< 8|||dt 32 b.toInt) <<< 8|||dt 32 c.toInt) d 16777216 hd (by omega) (by decide);show((((((0:W32) <<< 8|||dt 32 a.toInt) <<< 8|||dt 32 b.toInt) <<< 8|||dt 32 c.toInt) <<< 8|||dt 32 d.toInt).toNat:Int)=_;omega
def z4S {b:List C} {i:Nat} (h:4*i+4<=b.length):(b.drop (4*i)).take 4=[b.getD (4*i) .nil,b.getD (4*i+1) .nil,b.getD (4*i+2) .nil,b.getD (4*i+3) .nil]:=by
 apply fk;intro j;rw[List.getElem?_take];split
 ·rename_i hj;rw[List.getElem?_drop];have hl:4*i+j<b.length:=by omega
  rw[bg hl]
  match j,hj with
  |0,_=>simp[bh,bg (show 4*i<b.length by omega)]|1,_=>simp[bh,bg (show 4*i+1<b.length by omega)]|2,_=>simp[bh,bg (show 4*i+2<b.length by omega)]|3,_=>simp[bh,bg (show 4*i+3<b.length by omega)]
 ·rename_i hj;rw[List.getElem?_eq_none (by simp;omega)]
def z4K (a b c d:Int) (ha:0<=a/\a<256) (hb:0<=b/\b<256) (hc:0<=c/\c<256) (hd:0<=d/\d<256):
  IntKind.u64.wrap (IntKind.u64.wrap (IntKind.u64.wrap (IntKind.u64.wrap (IntKind.u64.wrap (IntKind.u64.wrap (IntKind.u64.wrap a*256)+IntKind.u64.wrap b)*256)+IntKind.u64.wrap c)*256)+IntKind.u64.wrap d)=((a*256+b)*256+c)*256+d:=by
 simp only[KY];omega
def z4L (a x b y:W32):bm (IntKind.u64.wrap (IntKind.u64.wrap (IntKind.u64.wrap ((a.toNat:Int)+(x.toNat:Int))+(b.toNat:Int))+(y.toNat:Int))) 4294967296=((a+(x+b+y)).toNat:Int):=by have h1:=CN a;have h2:=CN x;have h3:=CN b;have h4:=CN y;simp only[KY];rw[dj (by omega)];simp only[ko];omega
def q7E (t:C) (h b:List C) (hb:b.length=64) (hbb:∀c∈b,BQ c) (hN:1000<N) (K:KD R):
  Ae N (Pk N K) [.slice h,.slice b,t,.slice [],.int 0] []=K [.slice h,t,.slice ((CA b 64).map wI)] []:=by
 refine DX (F:=Pk N K) (fun i=>[.slice h,.slice b,t,.slice ((CA b i).map wI),.int i]) (fun _=>[]) 64 _ ?_ ?_ (N:=N) (by omega)
 ·intro i hi rec;have e1:(i:Int)<64:=by omega
  have g1:(i+1)*8<=140737488355328/\i+1<=9223372036854775807:=by omega
  have hl:((CA b i).map wI).length=i:=by rw[ep,Ld]
  by_cases z:(i:Int)<16
  ·have zn:i<16:=by omega
   have p0:IntKind.i64.wrap (4*(i:Int))=((4*i:Nat):Int):=by rw[wrap_i64 (by omega) (by omega)];omega
   have p1:IntKind.i64.wrap (((4*i:Nat):Int)+1)=((4*i+1:Nat):Int):=by rw[wrap_i64 (by omega) (by omega)];omega
   have p2:IntKind.i64.wrap (((4*i:Nat):Int)+2)=((4*i+2:Nat):Int):=by rw[wrap_i64 (by omega) (by omega)];omega
   have p3:IntKind.i64.wrap (((4*i:Nat):Int)+3)=((4*i+3:Nat):Int):=by rw[wrap_i64 (by omega) (by omega)];omega
   have c0:((4*i:Nat):Int)<((64:Nat):Int):=by omega
   have c1:((4*i+1:Nat):Int)<((64:Nat):Int):=by omega
   have c2:((4*i+2:Nat):Int)<((64:Nat):Int):=by omega
   have c3:((4*i+3:Nat):Int)<((64:Nat):Int):=by omega
   have y0:=hbb _ (CT (show 4*i<b.length by omega));have y1:=hbb _ (CT (show 4*i+1<b.length by omega));have y2:=hbb _ (CT (show 4*i+2<b.length by omega));have y3:=hbb _ (CT (show 4*i+3<b.length by omega));have hs:(CA b (i+1)).map wI=(CA b i).map wI++[.int ((((b.getD (4*i) .nil).toInt*256+(b.getD (4*i+1) .nil).toInt)*256+(b.getD (4*i+2) .nil).toInt)*256+(b.getD (4*i+3) .nil).toInt)]:=by simp only[CA,QI,if_pos zn,kn,dy,vo,wI];rw[z4S (by omega),z5l _ _ _ _ y0 y1 y2 y3]
   have hv:=z4K _ _ _ _ y0.2 y1.2 y2.2 y3.2;unfold Pk;simp only[AP,AF,AK,AO,AV,Ac,AB,AI,e1,z,p0,p1,p2,p3,hb,c0,c1,c2,c3,hl,g1,AE,bq,and_self,br,bf,bt,cg,de,cm,BK (show i<4611686018427387904 by omega)];rw[hv,<-hs]
  ·have zn:¬i<16:=by omega
   have p15:IntKind.i64.wrap ((i:Int)-15)=((i-15:Nat):Int):=by rw[wrap_i64 (by omega) (by omega)];omega
   have p2:IntKind.i64.wrap ((i:Int)-2)=((i-2:Nat):Int):=by rw[wrap_i64 (by omega) (by omega)];omega
   have p16:IntKind.i64.wrap ((i:Int)-16)=((i-16:Nat):Int):=by rw[wrap_i64 (by omega) (by omega)];omega
   have p7:IntKind.i64.wrap ((i:Int)-7)=((i-7:Nat):Int):=by rw[wrap_i64 (by omega) (by omega)];omega
   have c15:((i-15:Nat):Int)<(i:Int):=by omega
   have c2:((i-2:Nat):Int)<(i:Int):=by omega
   have c16:((i-16:Nat):Int)<(i:Int):=by omega
   have c7:((i-7:Nat):Int)<(i:Int):=by omega
   have gw:∀j,j<i->(db wI (CA b i)).getD j .nil=wI ((CA b i).getD j 0):=fun j hj=>by rw[bh,dg,bh,bg (by rw[Ld];exact hj)];rfl
   have g15:=gw (i-15) (by omega);have g2:=gw (i-2) (by omega);have g16:=gw (i-16) (by omega);have g7:=gw (i-7) (by omega);have r1:∀(x:W32) (k:KD R),Cg N (wI x) (.int 7) (.bool true) k=k [wI (FO x 7)] []:=fun x k=>IL x 7 (by omega) (by omega) true (by omega) k;have r2:∀(x:W32) (k:KD R),Cg N (wI x) (.int 18) (.bool true) k=k [wI (FO x 18)] []:=fun x k=>IL x 18 (by omega) (by omega) true (by omega) k;have r3:∀(x:W32) (k:KD R),Cg N (wI x) (.int 3) (.bool false) k=k [wI (x >>> 3)] []:=fun x k=>IL x 3 (by omega) (by omega) false (by omega) k;have r4:∀(x:W32) (k:KD R),Cg N (wI x) (.int 17) (.bool true) k=k [wI (FO x 17)] []:=fun x k=>IL x 17 (by omega) (by omega) true (by omega) k;have r5:∀(x:W32) (k:KD R),Cg N (wI x) (.int 19) (.bool true) k=k [wI (FO x 19)] []:=fun x k=>IL x 19 (by omega) (by omega) true (by omega) k;have r6:∀(x:W32) (k:KD R),Cg N (wI x) (.int 10) (.bool false) k=k [wI (x >>> 10)] []:=fun x k=>IL x 10 (by omega) (by omega) false (by omega) k;have hs:(CA b (i+1)).map wI=(CA b i).map wI++[wI ((CA b i).getD (i-16) 0+(sg0 ((CA b i).getD (i-15) 0)+(CA b i).getD (i-7) 0+sg1 ((CA b i).getD (i-2) 0)))]:=by simp only[CA,QI,if_neg zn,kn,dy,vo]
   unfold Pk;simp only[AP,AF,AK,AO,AV,Ac,AB,AI,e1,z,p15,p2,p16,p7,c15,c2,c16,c7,hl,g1,g15,g2,g16,g7,r1,r2,r3,r4,r5,r6,Gv,x64,AE,bq,and_self,br,bf,bt,cg,de,cm,BK (show i<4611686018427387904 by omega)];rw[z4L,hs];rfl
 ·intro rec;unfold Pk;have e:¬((64:Nat):Int)<64:=by decide
  simp only[AF,AK,AO,AV,Ac,AB,AI,e,AE,br]
end
section
variable {R:Type} {N:Nat}
def v9 (w:List C):∀i j,i<=16->j<i->(nG w i).getD j 0=JE ((w.drop (4*j)).take 4)
 |0,j,_,h=>by omega
 |i+1,j,hi,h=>by show((nG w i).set i _).getD j 0=_;rw[MQ (by rw[Ml];omega)];by_cases e:i=j;{subst e;rw[if_pos rfl]};{rw[if_neg e];exact v9 w i j (by omega) (by omega)}
def u4 (w:List C) (h:List W32) (hh:h.length=8):∀i,i<=64->∀j,(j<i\/j<16)->i<=j+16->(CI (nG w 16) h i).1.getD (j%16) 0=(CA w 64).getD j 0
 |0,_,j,hj,_=>by
  have hj:j<16:=by omega
  show(nG w 16).getD (j%16) 0=_;rw[qg hj,v9 w 16 j (by omega) hj,Ua w j 64 (by omega),QI,if_pos hj]
 |i+1,hi,j,hj,hij=>by
  have ih:=u4 w h hh i (by omega);have hl:=(QK (Ml w 16) hh i).1;show(Gk i (CI (nG w 16) h i).1).getD (j%16) 0=_;unfold Gk;by_cases z:16<=i
  ·rw[if_pos z,MQ (by omega)];by_cases e:i%16=j%16
   ·have e':j=i:=by omega
    subst e';rw[if_pos rfl];have i0:=ih (j-16) (by omega) (by omega);have i1:=ih (j-15) (by omega) (by omega);have i7:=ih (j-7) (by omega) (by omega);have i2:=ih (j-2) (by omega) (by omega);rw[show(j-16)%16=j%16 by omega]at i0;rw[show(j-15)%16=(j+1)%16 by omega]at i1;rw[show(j-7)%16=(j+9)%16 by omega]at i7;rw[show(j-2)%16=(j+14)%16 by omega]at i2;rw[i0,i1,i7,i2,Ua w j 64 (by omega),QI,if_neg (by omega),YV w (j-16) j 64 (by omega) (by omega),YV w (j-15) j 64 (by omega) (by omega),YV w (j-7) j 64 (by omega) (by omega),YV w (j-2) j 64 (by omega) (by omega)]
   ·rw[if_neg e];exact ih j (by omega) (by omega)
  ·rw[if_neg z];exact ih j (by omega) (by omega)
def ZD (i:Nat) (v s:List W32):Prop:=v.length=8/\∀k,k<8->v.getD ((64-i+k)%8) 0=s.getD k 0
def z0D (h s e f g K w:W32):IntKind.u64.wrap (IntKind.u64.wrap (IntKind.u64.wrap (IntKind.u64.wrap ((h.toNat:Int)+(s.toNat:Int))+IntKind.u64.wrap (((e&&&f).toNat:Int)+((~~~e&&&g).toNat:Int)))+(K.toNat:Int))+(w.toNat:Int))=(h.toNat:Int)+s.toNat+(e&&&f).toNat+(~~~e&&&g).toNat+K.toNat+w.toNat:=by have h1:=CN h;have h2:=CN s;have h3:=CN (e&&&f);have h4:=CN (~~~e&&&g);have h5:=CN K;have h6:=CN w;simp only[KY];omega
def Q9 (h s e f g K w:W32):((h.toNat:Int)+s.toNat+(e&&&f).toNat+(~~~e&&&g).toNat+K.toNat+w.toNat)%4294967296=((h+s+(g^^^(e&&&(f^^^g)))+K+w).toNat:Int):=by rw[<-z05];simp only[ko];omega
def q89 (d h s e f g K w:W32):bm (IntKind.u64.wrap ((d.toNat:Int)+((h.toNat:Int)+s.toNat+(e&&&f).toNat+(~~~e&&&g).toNat+K.toNat+w.toNat))) 4294967296=((d+(h+s+(g^^^(e&&&(f^^^g)))+K+w)).toNat:Int):=by have h0:=CN d;have h1:=CN h;have h2:=CN s;have h3:=CN (e&&&f);have h4:=CN (~~~e&&&g);have h5:=CN K;have h6:=CN w;have ho:=Q9 h s e f g K w;refine fT (by omega) (by omega) ?_;rw[ko];omega
def q7U (z m h s e f g K w:W32):bm (IntKind.u64.wrap (IntKind.u64.wrap (((h.toNat:Int)+s.toNat+(e&&&f).toNat+(~~~e&&&g).toNat+K.toNat+w.toNat)+(z.toNat:Int))+(m.toNat:Int))) 4294967296=((h+s+(g^^^(e&&&(f^^^g)))+K+w+z+m).toNat:Int):=by
 have h0:=CN z;have h1:=CN h;have h2:=CN s;have h3:=CN (e&&&f);have h4:=CN (~~~e&&&g);have h5:=CN K;have h6:=CN w;have h7:=CN m;have ho:=Q9 h s e f g K w;have e1:IntKind.u64.wrap (((h.toNat:Int)+s.toNat+(e&&&f).toNat+(~~~e&&&g).toNat+K.toNat+w.toNat)+(z.toNat:Int))=((h.toNat:Int)+s.toNat+(e&&&f).toNat+(~~~e&&&g).toNat+K.toNat+w.toNat)+(z.toNat:Int):=by simp only[KY];omega
 rw[e1];refine fT (by omega) (by omega) ?_;simp only[ko]at ho ⊢;omega
def q7D (t:C) (ht:DH t) (hC:C) (b:List C) (vW:List W32) (i:Nat) (hi:i<64) (hv:vW.length=8) (hN:1000<N) (K rec:KD R):
  Pj N K rec [hC,t,.int 8,.slice ((CA b 64).map wI),.int i,.agg (vW.map wI)] []=
   rec [hC,t,.int 8,.slice ((CA b 64).map wI),.int ((i+1:Nat):Int),.agg (((vW.set ((67-i)%8) (vW.getD ((67-i)%8) 0+(vW.getD ((71-i)%8) 0+bs1 (vW.getD ((68-i)%8) 0)+(vW.getD ((70-i)%8) 0^^^(vW.getD ((68-i)%8) 0&&&(vW.getD ((69-i)%8) 0^^^vW.getD ((70-i)%8) 0)))+ksW.getD i 0+(CA b 64).getD i 0))).set ((71-i)%8)
    (vW.getD ((71-i)%8) 0+bs1 (vW.getD ((68-i)%8) 0)+(vW.getD ((70-i)%8) 0^^^(vW.getD ((68-i)%8) 0&&&(vW.getD ((69-i)%8) 0^^^vW.getD ((70-i)%8) 0)))+ksW.getD i 0+(CA b 64).getD i 0+bs0 (vW.getD ((64-i)%8) 0)+((vW.getD ((64-i)%8) 0&&&vW.getD ((65-i)%8) 0)|||(vW.getD ((66-i)%8) 0&&&(vW.getD ((64-i)%8) 0|||vW.getD ((65-i)%8) 0))))).map wI)] []:=by
 have e1:(i:Int)<64:=by omega
 have e8:aq 8=8:=rfl;have q64:IntKind.i64.wrap (64-(i:Int))=((64-i:Nat):Int):=by rw[wrap_i64 (by omega) (by omega)];omega
 have q65:IntKind.i64.wrap (65-(i:Int))=((65-i:Nat):Int):=by rw[wrap_i64 (by omega) (by omega)];omega
 have q66:IntKind.i64.wrap (66-(i:Int))=((66-i:Nat):Int):=by rw[wrap_i64 (by omega) (by omega)];omega
 have q67:IntKind.i64.wrap (67-(i:Int))=((67-i:Nat):Int):=by rw[wrap_i64 (by omega) (by omega)];omega
 have q68:IntKind.i64.wrap (68-(i:Int))=((68-i:Nat):Int):=by rw[wrap_i64 (by omega) (by omega)];omega
 have q69:IntKind.i64.wrap (69-(i:Int))=((69-i:Nat):Int):=by rw[wrap_i64 (by omega) (by omega)];omega
 have q70:IntKind.i64.wrap (70-(i:Int))=((70-i:Nat):Int):=by rw[wrap_i64 (by omega) (by omega)];omega
 have q71:IntKind.i64.wrap (71-(i:Int))=((71-i:Nat):Int):=by rw[wrap_i64 (by omega) (by omega)];omega
 have c8:∀a:Nat,bm (a:Int) 8=((a%8:Nat):Int):=fun a=>q2r a 8;have r8:∀a:Nat,((a%8:Nat):Int)<((8:Nat):Int):=fun a=>by omega
 have gv:∀a:Nat,ax (.agg (vW.map wI)) (a%8)=wI (vW.getD (a%8) 0):=fun a=>HL (by omega);have gs:∀(x:W32) (m a:Nat),ax (.agg ((vW.set m x).map wI)) (a%8)=wI ((vW.set m x).getD (a%8) 0):=fun x m a=>HL (by rw[ed];omega);have z6z:∀x:W32,(vW.set ((67-i)%8) x).getD ((64-i)%8) 0=vW.getD ((64-i)%8) 0:=fun x=>by rw[MQ (by omega),if_neg (by omega)]
 have hw:(db wI (CA b 64)).length=64:=by rw[ep,Ld]
 have gw:(db wI (CA b 64)).getD i .nil=wI ((CA b 64).getD i 0):=by rw[bh,dg,bh,bg (by rw[Ld];exact hi)];rfl
 have r1:∀(x:W32) (k:KD R),Cg N (wI x) (.int 6) (.bool true) k=k [wI (FO x 6)] []:=fun x k=>IL x 6 (by omega) (by omega) true (by omega) k;have r2:∀(x:W32) (k:KD R),Cg N (wI x) (.int 11) (.bool true) k=k [wI (FO x 11)] []:=fun x k=>IL x 11 (by omega) (by omega) true (by omega) k;have r3:∀(x:W32) (k:KD R),Cg N (wI x) (.int 25) (.bool true) k=k [wI (FO x 25)] []:=fun x k=>IL x 25 (by omega) (by omega) true (by omega) k;have r4:∀(x:W32) (k:KD R),Cg N (wI x) (.int 2) (.bool true) k=k [wI (FO x 2)] []:=fun x k=>IL x 2 (by omega) (by omega) true (by omega) k;have r5:∀(x:W32) (k:KD R),Cg N (wI x) (.int 13) (.bool true) k=k [wI (FO x 13)] []:=fun x k=>IL x 13 (by omega) (by omega) true (by omega) k;have r6:∀(x:W32) (k:KD R),Cg N (wI x) (.int 22) (.bool true) k=k [wI (FO x 22)] []:=fun x k=>IL x 22 (by omega) (by omega) true (by omega) k;have rt:∀k:KD R,LW N (t.get 1) (.int i) k=k [wI (ksW.getD i 0)] []:=fun k=>by rw[pU _ i (by rw[ht.l1];omega) (by omega) (by omega),ht.w1 i hi];rfl
 unfold Pj;simp only[AF,AK,AO,AV,Ac,Av,AB,AI,DV,e1,e8,q64,q65,q66,q67,q68,q69,q70,q71,c8,r8,gv,hw,gw,r1,r2,r3,r4,r5,r6,rt,Gv,x64,a64,q9V,z0D,q89,mO,gs,z6z,q9K,q7U,AE,bq,and_self,br,cm,bf,ed,ep,BK (show i<4611686018427387904 by omega)];refine(if_pos ⟨trivial,by omega⟩).trans ?_;rfl
def z3G (w:List C) (h:List W32) (hh:h.length=8) (i:Nat) (hi:i<64) (v:List W32) (hv:ZD i v (CI (nG w 16) h i).2):
  ZD (i+1) ((v.set ((67-i)%8) (v.getD ((67-i)%8) 0+(v.getD ((71-i)%8) 0+bs1 (v.getD ((68-i)%8) 0)+(v.getD ((70-i)%8) 0^^^(v.getD ((68-i)%8) 0&&&(v.getD ((69-i)%8) 0^^^v.getD ((70-i)%8) 0)))+ksW.getD i 0+(CA w 64).getD i 0))).set ((71-i)%8)
    (v.getD ((71-i)%8) 0+bs1 (v.getD ((68-i)%8) 0)+(v.getD ((70-i)%8) 0^^^(v.getD ((68-i)%8) 0&&&(v.getD ((69-i)%8) 0^^^v.getD ((70-i)%8) 0)))+ksW.getD i 0+(CA w 64).getD i 0+bs0 (v.getD ((64-i)%8) 0)+((v.getD ((64-i)%8) 0&&&v.getD ((65-i)%8) 0)|||(v.getD ((66-i)%8) 0&&&(v.getD ((64-i)%8) 0|||v.getD ((65-i)%8) 0)))))
   (CI (nG w 16) h (i+1)).2:=by
 obtain⟨hl,hp⟩:=hv;have p0:=hp 0 (by omega);have p1:=hp 1 (by omega);have p2:=hp 2 (by omega);have p3:=hp 3 (by omega);have p4:=hp 4 (by omega);have p5:=hp 5 (by omega);have p6:=hp 6 (by omega);have p7:=hp 7 (by omega);rw[show 64-i+0=64-i by omega]at p0;rw[show 64-i+1=65-i by omega]at p1;rw[show 64-i+2=66-i by omega]at p2;rw[show 64-i+3=67-i by omega]at p3;rw[show 64-i+4=68-i by omega]at p4;rw[show 64-i+5=69-i by omega]at p5;rw[show 64-i+6=70-i by omega]at p6;rw[show 64-i+7=71-i by omega]at p7;have hn:(Gk i (CI (nG w 16) h i).1).getD (i%16) 0=(CA w 64).getD i 0:=u4 w h hh (i+1) (by omega) i (by omega) (by omega);have hs:(CI (nG w 16) h (i+1)).2=[Lw i (Gk i (CI (nG w 16) h i).1) (CI (nG w 16) h i).2+bs0 ((CI (nG w 16) h i).2.getD 0 0)+(((CI (nG w 16) h i).2.getD 0 0&&&(CI (nG w 16) h i).2.getD 1 0)|||((CI (nG w 16) h i).2.getD 2 0&&&((CI (nG w 16) h i).2.getD 0 0|||(CI (nG w 16) h i).2.getD 1 0))),(CI (nG w 16) h i).2.getD 0 0,(CI (nG w 16) h i).2.getD 1 0,(CI (nG w 16) h i).2.getD 2 0,(CI (nG w 16) h i).2.getD 3 0+Lw i (Gk i (CI (nG w 16) h i).1) (CI (nG w 16) h i).2,(CI (nG w 16) h i).2.getD 4 0,(CI (nG w 16) h i).2.getD 5 0,(CI (nG w 16) h i).2.getD 6 0]:=rfl;have ha:Lw i (Gk i (CI (nG w 16) h i).1) (CI (nG w 16) h i).2=v.getD ((71-i)%8) 0+bs1 (v.getD ((68-i)%8) 0)+(v.getD ((70-i)%8) 0^^^(v.getD ((68-i)%8) 0&&&(v.getD ((69-i)%8) 0^^^v.getD ((70-i)%8) 0)))+ksW.getD i 0+(CA w 64).getD i 0:=by unfold Lw;rw[hn,p4,p5,p6,p7]
 rw[hs,ha,<-p0,<-p1,<-p2,<-p3,<-p4,<-p5,<-p6];refine⟨by rw[ed,ed];exact hl,fun k hk=>?_⟩;generalize v.getD ((71-i)%8) 0+bs1 (v.getD ((68-i)%8) 0)+(v.getD ((70-i)%8) 0^^^(v.getD ((68-i)%8) 0&&&(v.getD ((69-i)%8) 0^^^v.getD ((70-i)%8) 0)))+ksW.getD i 0+(CA w 64).getD i 0=one;rw[MQ (by rw[ed];omega),MQ (by omega)]
 match k,hk with
 |0,_=>rw[if_pos (by omega)];rfl|1,_=>rw[if_neg (by omega),if_neg (by omega),show(64-(i+1)+1)%8=(64-i)%8 by omega];rfl|2,_=>rw[if_neg (by omega),if_neg (by omega),show(64-(i+1)+2)%8=(65-i)%8 by omega];rfl|3,_=>rw[if_neg (by omega),if_neg (by omega),show(64-(i+1)+3)%8=(66-i)%8 by omega];rfl|4,_=>rw[if_neg (by omega),if_pos (by omega)];rfl|5,_=>rw[if_neg (by omega),if_neg (by omega),show(64-(i+1)+5)%8=(68-i)%8 by omega];rfl|6,_=>rw[if_neg (by omega),if_neg (by omega),show(64-(i+1)+6)%8=(69-i)%8 by omega];rfl|7,_=>rw[if_neg (by omega),if_neg (by omega),show(64-(i+1)+7)%8=(70-i)%8 by omega];rfl
def zV {F} (n:Nat) (inv:Nat->List C->Prop) (r:Option R)
  (step:∀i st,i<n->inv i st->∃st',inv (i+1) st'/\∀rec:KD R,F rec st []=rec st' [])
  (stop:∀st,inv n st->∀rec:KD R,F rec st []=r):∀(m i N:Nat) (st:List C),i+m=n->m<N->inv i st->Ae N F st []=r
 |0,i,N,st,hi,hN,h=>by
  obtain⟨N,rfl⟩:∃a,N=a+1:=⟨N-1,by omega⟩;have e:i=n:=by omega
  subst e;rw[Bq];exact stop st h _
 |m+1,i,N,st,hi,hN,h=>by obtain⟨N,rfl⟩:∃a,N=a+1:=⟨N-1,by omega⟩;obtain⟨st',h1,h2⟩:=step i st (by omega) h;rw[Bq,h2];exact zV n inv r step stop m (i+1) N st' (by omega) (by omega) h1
def yY {l:List W32} (h:l.length=8):l=[l.getD 0 0,l.getD 1 0,l.getD 2 0,l.getD 3 0,l.getD 4 0,l.getD 5 0,l.getD 6 0,l.getD 7 0]:=by
 match l,h with
 | [_,_,_,_,_,_,_,_],_=>rfl
def q7C (t:C) (ht:DH t) (hC:C) (b:List C) (h:List W32) (hh:h.length=8) (hN:1000<N) (K:KD R):
  Ae N (Pj N K) [hC,t,.int 8,.slice ((CA b 64).map wI),.int (0:Nat),.agg (h.map wI)] []=K [hC,.int 8,.agg ((CI (nG b 16) h 64).2.map wI)] []:=by
 refine zV (F:=Pj N K) 64 (fun i st=>∃v,ZD i v (CI (nG b 16) h i).2/\st=[hC,t,.int 8,.slice ((CA b 64).map wI),.int i,.agg (v.map wI)]) _ ?_ ?_ 64 0 N _ (by omega) (by omega) ⟨h,⟨hh,fun k hk=>?_⟩,rfl⟩;{rintro i st hi ⟨v,hv,rfl⟩;exact⟨_,⟨_,z3G b h hh i hi v hv,rfl⟩,fun rec=>q7D t ht hC b v i hi hv.1 hN K rec⟩}
 ·rintro st ⟨v,hv,rfl⟩ rec;have e:v=(CI (nG b 16) h 64).2:=by have hl:=(QK (Ml b 16) hh 64).2;rw[yY hv.1,yY hl];have hp:=hv.2;have p0:=hp 0 (by omega);have p1:=hp 1 (by omega);have p2:=hp 2 (by omega);have p3:=hp 3 (by omega);have p4:=hp 4 (by omega);have p5:=hp 5 (by omega);have p6:=hp 6 (by omega);have p7:=hp 7 (by omega);simp only[Nat.sub_self,cm,Nat.zero_mod,Nat.reduceMod]at p0 p1 p2 p3 p4 p5 p6 p7;rw[p0,p1,p2,p3,p4,p5,p6,p7]
  unfold Pj;have e64:¬((64:Nat):Int)<64:=by decide
  simp only[AF,AK,AO,AV,Ac,Av,AB,AI,e64,AE,e];rfl
 ·have:(64-0+k)%8=k:=by omega
  rw[this];rfl
def q7B (h s:List W32) (hh:h.length=8) (hs:s.length=8) (hN:1000<N) (K:KD R):
  Ae N (TW N K) [.slice (h.map wI),.int 8,.int (0:Nat),.int (0:Nat),.agg (s.map wI),.agg []] []=K [.int 8,.agg ((aG h s 8).map wI)] []:=by
 have key:=DX (F:=TW N K) (fun i=>[.slice (h.map wI),.int 8,.int (i:Nat),.int (i:Nat),.agg (s.map wI),.agg (((aG h s 8).take i).map wI)]) (fun _=>[]) 8 (K [.int 8,.agg ((aG h s 8).map wI)] []) ?_ ?_ (N:=N) (by omega);{exact key}
 ·intro i hi rec;have e1:(i:Int)<8:=by omega
  have e8:aq 8=8:=rfl;have e2:(i:Int)<((8:Nat):Int):=by omega
  have g1:(i+1)*8<=140737488355328/\i+1<=9223372036854775807:=by omega
  have hl8:(aG h s 8).length=8:=by rw[Lu];exact hh
  have hlt:(db wI ((aG h s 8).take i)).length=i:=by rw[ep,kg,hl8];omega
  have htk:cn i (db wI ((aG h s 8).take i))=db wI ((aG h s 8).take i):=dr (by rw[hlt];exact bx _);have hgh:(h.map wI).getD i .nil=wI (h.getD i 0):=by rw[bh,dg,bh,bg (by omega)];rfl
  have hgs:ax (.agg (s.map wI)) i=wI (s.getD i 0):=HL (by omega);have hlm:(h.map wI).length=8:=by rw[ep];exact hh
  have hag:∀j m,j<m->m<=8->(aG h s m).getD j 0=h.getD j 0+s.getD j 0:=by
   intro j m hj hm
   induction m with
   |zero=>omega|succ m ih=>
    show((aG h s m).set m _).getD j 0=_;rw[MQ (by rw[Lu];omega)];by_cases e:m=j;{subst e;rw[if_pos rfl]};{rw[if_neg e];exact ih (by omega) (by omega)}
  have z8n:bm (IntKind.u64.wrap (((h.getD i 0).toNat:Int)+((s.getD i 0).toNat:Int))) 4294967296=((h.getD i 0+s.getD i 0).toNat:Int):=by have h1:=CN (h.getD i 0);have h2:=CN (s.getD i 0);refine fT (by omega) (by omega) ?_;rw[ko];omega
  have ht:db wI ((aG h s 8).take (i+1))=db wI ((aG h s 8).take i)++[wI (h.getD i 0+s.getD i 0)]:=by rw[lz,bg (by omega),kn];have:=hag i 8 hi (by omega);rw[bh,bg (by omega)]at this;simp only[jh]at this;rw[this];rfl
  unfold TW;simp only[AF,AK,AO,AV,Ac,Av,AB,AI,DV,e1,e2,e8,hlm,g1,hlt,htk,hgh,hgs,z8n,Gv,AE,bq,and_self,cm,bf,bt,cg,de,BK (show i<4611686018427387904 by omega)];rw[ht];rfl
 ·intro rec;unfold TW;have e:¬((8:Nat):Int)<8:=by decide
  have hl8:(aG h s 8).length=8:=by rw[Lu];exact hh
  simp only[AF,AK,AO,AV,Ac,Av,AB,AI,e,AE,dr (Nat.le_of_eq hl8)];rfl
def q3P (t:C) (ht:DH t) (h:List W32) (b:List C) (hh:h.length=8) (hb:b.length=64) (hbb:∀c∈b,BQ c) (hN:1000<N) (k:KD R):Pl N t (.slice (h.map wI)) (.slice b) k=k [.int 8,.agg ((JO h b).map wI)] []:=by
 have hlm:(h.map wI).length=8:=by rw[ep];exact hh
 have ne:(h.map wI).isEmpty=false:=by cases h with|nil=>simp at hh|cons=>rfl
 rw[H9];unfold jN;simp only[AP];refine(q7E t (h.map wI) b hb hbb hN _).trans ?_;simp only[AF,AK,AO,AI,DV,ne,hlm,br,AE];refine(q7C t ht _ b h hh hN _).trans ?_;simp only[AF,AK,AO,AB,if_true];refine(q7B h _ hh (QK (Ml b 16) hh 64).2 hN _).trans ?_;simp only[AF,AK,AO,AB,if_true];rfl
end
section
variable {R:Type} {N:Nat}
def feed (p:List W32 × List C) (b:C):List W32 × List C:=
 if p.2.length=63 then(JO p.1 (p.2++[b]),[])else(p.1,p.2++[b])
def uQ:∀(x:List C) (h:List W32) (q:List C),q.length+x.length<64->x.foldl feed (h,q)=(h,q++x)
 | [],h,q,_=>by simp
 |b::x,h,q,hl=>by
  have hl':q.length+(x.length+1)<64:=by simpa using hl
  have e:feed (h,q) b=(h,q++[b]):=by unfold feed;rw[if_neg (by show ¬q.length=63;omega)]
  rw[nz,e,uQ x h (q++[b]) (by simp;omega)];simp
def bX:∀(x:List C) (h:List W32) (q:List C),q.length+x.length=64->q.length<64->x.foldl feed (h,q)=(JO h (q++x),[])
 | [],h,q,hl,hq=>by simp at hl;omega
 |b::x,h,q,hl,hq=>by
  have hl':q.length+(x.length+1)=64:=by simpa using hl
  by_cases e63:q.length=63;{have hx:x=[]:=fh (by omega);subst hx;simp only[nz,xn,feed];rw[if_pos e63]}
  ·have e:feed (h,q) b=(h,q++[b]):=by unfold feed;rw[if_neg (by show ¬q.length=63;exact e63)]
   rw[nz,e,bX x h (q++[b]) (by simp;omega) (by simp;omega)];simp
structure Gz (m:C) (h:List W32) (q:List C) (n:Int):Prop where
 ex:∃w:List C,m= .agg [.agg (h.map wI),.agg w,.int n]/\w.length=64/\w.take q.length=q/\∀c∈w,BQ c
 hl:h.length=8
 nn:W64 n
 ql:n%64=(q.length:Int)
def uR {h:List W32} (hh:h.length=8):∀(x:List C) (q:List C),(x.foldl feed (h,q)).1.length=8:=by
 have key:∀(x:List C) (p:List W32 × List C),p.1.length=8->(x.foldl feed p).1.length=8:=by
  intro x
  induction x with
  |nil=>intro p hp;exact hp|cons b x ih=>
   intro p hp;rw[nz];refine ih _ ?_;unfold feed;split;{exact aI hp _};{exact hp}
 exact fun x q=>key x (h,q) hh
def put_eq (l:List C) (m:C) (h:List W32) (q:List C) (n:Int) (hm:Gz m h q n) (hb:∀c∈l,BQ c) (hN:l.length+100<N):
  ∃m' n',Gz m' (l.foldl feed (h,q)).1 (l.foldl feed (h,q)).2 n'/\n'=(n+l.length)%18446744073709551616/\∀k:KD R,Mg N (.slice l) m k=k [m'] []:=by
 obtain⟨d,⟨m',h1,rfl⟩,h2⟩:=fE (R:=R) (F:=fun k2=>SY N k2)
  (fun j st=>∃(x:List C) (m:C) (h':List W32) (q':List C) (n':Int),st=[.slice x,m]/\Gz m h' q' n'/\x.length<=j/\(∀c∈x,BQ c)/\x.foldl feed (h',q')=l.foldl feed (h,q)/\(n'+x.length)%18446744073709551616=(n+l.length)%18446744073709551616)
  (fun d=>∃m',Gz m' (l.foldl feed (h,q)).1 (l.foldl feed (h,q)).2 ((n+l.length)%18446744073709551616)/\d=[m'])
  (fun j st hst=>by
   obtain⟨x,m,h',q',n',rfl,⟨⟨w,rfl,hw,hwq,hwb⟩,hh,hn,hq⟩,hx,hbx,hf,hne⟩:=hst;have z8o:q'.length<64:=by have:=hn.1;omega
   by_cases e:0<(x.length:Int)
   ·left;have r:bm n' 64=(q'.length:Int):=by rw[dj hn.1];exact hq
    obtain⟨p,hp⟩:∃p,min x.length (64-q'.length)=p:=⟨_,rfl⟩;have tq:(64-(q'.length:Int)).toNat=64-q'.length:=by omega
    have cw:(Ck w q'.length (64-q'.length) x).length=64:=by rw[rP (by omega)];exact hw
    have c1:0<64-q'.length:=by omega
    have c2:0<=(p:Int)/\(p:Int)<=(x.length:Int)/\(x.length:Int)<=(x.length:Int):=by omega
    have c3:0<=(q'.length:Int)/\(q'.length:Int)<=64/\ja 64<=64:=⟨by omega,by omega,by decide⟩;have wp:IntKind.u64.wrap (p:Int)=(p:Int):=wrap_u64 (by omega) (by omega);have wn:IntKind.u64.wrap (n'+(p:Int))=(n'+p)%18446744073709551616:=by simp[al,jc,ig]
    have hxs:x=x.take p++x.drop p:=(ku p x).symm;have z7F:cut x (p:Int) (x.length:Int)=x.drop p:=by simp[cut]
    have tk:(x.take (64-q'.length))=x.take p:=by rcases Nat.le_total x.length (64-q'.length)with h1|h1;{rw[dr h1,dr (by omega)]};{rw[show p=64-q'.length by omega]}
    have cpy:Ck w q'.length (64-q'.length) x=(q'++x.take p)++w.drop (q'.length+p):=by unfold Ck;rw[hwq,tk,show min x.length (64-q'.length)=p from hp]
    have cb:∀c∈Ck w q'.length (64-q'.length) x,BQ c:=by rw[cpy];intro c hc;rcases dw.1 hc with hc|hc;{rcases dw.1 hc with hc|hc;{rw[<-hwq]at hc;exact hwb c (lj hc)};{exact hbx c (lj hc)}};{exact hwb c (jl hc)}
    have lp:(x.take p).length=p:=by simp;omega
    have ld:(x.drop p).length<j+0\/(x.drop p).length<x.length:=.inr (by simp;omega);have e2:bm ((n'+(p:Int))%18446744073709551616) 64=(n'+p)%64:=by rw[dj (by omega)];omega
    by_cases z:(n'+(p:Int))%64=0
    ·have z7a:q'.length+p=64:=by omega
     have hcw:Ck w q'.length (64-q'.length) x=q'++x.take p:=by rw[cpy,oe (by omega)];simp
     refine⟨_,(x.drop p).length,by simp;omega,⟨x.drop p,_,JO h' (q'++x.take p),[],(n'+p)%18446744073709551616,rfl,⟨⟨q'++x.take p,rfl,by simp;omega,by simp,by rw[<-hcw];exact cb⟩,aI hh _,⟨by omega,by omega⟩,by simp;omega⟩,bx _,fun c hc=>hbx c (jl hc),?_,by simp;omega⟩,fun k rec=>?_⟩;{rw[<-hf,hxs,iq,ku,bX _ _ _ (by omega) z8o]};{unfold SY;simp only[AP,AF,AK,AB,AI,DV,Eg,GR,Kt,Hf,IM,YY,e,r,tq,bf,hp,c1,c2,c3,wp,wn,e2,z,z7F,hcw,decide_true,cond_true,and_self,if_true,q6Z h' hh (q'++x.take p) (by simp;omega) (by rw[<-hcw];exact cb) _ (show 100<N by omega)]}
    ·have z7Z:q'.length+p<64:=by omega
     have hpx:p=x.length:=by omega
     refine⟨_,(x.drop p).length,by simp;omega,⟨x.drop p,_,h',q'++x.take p,(n'+p)%18446744073709551616,rfl,⟨⟨Ck w q'.length (64-q'.length) x,rfl,cw,?_,cb⟩,hh,⟨by omega,by omega⟩,by simp;omega⟩,bx _,fun c hc=>hbx c (jl hc),?_,by simp;omega⟩,fun k rec=>?_⟩;{rw[cpy,xo]};{have e9:(x.take p).foldl feed (h',q')=(h',q'++x.take p):=uQ _ _ _ (by rw[lp];exact z7Z);rw[<-hf,<-e9,<-iq,ku]};{unfold SY;simp only[AP,AF,AK,AB,AI,DV,Eg,GR,Kt,Hf,IM,YY,e,r,tq,bf,hp,c1,c2,c3,wp,wn,e2,z,z7F,AE,and_self]}
   ·right;have hx0:x=[]:=fh (by omega);subst hx0;have en:n'=(n+l.length)%18446744073709551616:=by have:=hn.1;have:=hn.2;simp at hne;omega
    refine⟨_,⟨.agg [.agg (h'.map wI),.agg w,.int n'],?_,rfl⟩,fun k rec=>?_⟩;{rw[<-hf,<-en];exact⟨⟨w,rfl,hw,hwq,hwb⟩,hh,hn,hq⟩}
    ·unfold SY;simp only[AF,AK,AI,e,AE])
  l.length l.length [.slice l,m] N (bx _) ⟨l,m,h,q,n,rfl,hm,bx _,hb,rfl,rfl⟩ (by omega)
 refine⟨m',_,h1,rfl,fun k=>?_⟩;rw[y4];unfold fL;simp only[AP];exact(h2 _).trans rfl
end
section
variable {R:Type} {N:Nat}
def Li {l:List C} {i:Nat} (hi:i<l.length):l.take (i+1)=l.take i++[l.getD i .nil]:=by rw[lz,bg hi,bh,bg hi];rfl
def Eo (l:List C):List C:=l.flatMap ao
def Hk (B:Nat) (l:List C):Prop:=∀x∈l,x= .slice x.elems/\(∀c∈x.elems,BQ c)/\x.elems.length<=B
def q25 (l:List C) (m:C) (h:List W32) (q:List C) (n:Int) (hm:Gz m h q n) (B:Nat) (hb:Hk B l) (hl:l.length<N) (hN:B+100<N) (hN2:N<4611686018427387904):
  ∃m' n',Gz m' ((Eo l).foldl feed (h,q)).1 ((Eo l).foldl feed (h,q)).2 n'/\n'=(n+(Eo l).length)%18446744073709551616/\∀k:KD R,Ov N (.slice l) m k=k [m'] []:=by
 obtain⟨d,⟨m',h1,rfl⟩,h2⟩:=FV (R:=R) (F:=fun k2=>Wq N k2) l.length
  (fun i st=>∃m:C,Gz m ((Eo (l.take i)).foldl feed (h,q)).1 ((Eo (l.take i)).foldl feed (h,q)).2 ((n+(Eo (l.take i)).length)%18446744073709551616)/\st=[.slice l,.int l.length,.int i,m])
  (fun d=>∃m',Gz m' ((Eo l).foldl feed (h,q)).1 ((Eo l).foldl feed (h,q)).2 ((n+(Eo l).length)%18446744073709551616)/\d=[m'])
  (fun i st hi hst=>by
   obtain⟨m,hm,rfl⟩:=hst;have e1:(i:Int)<(l.length:Int):=by omega
   obtain⟨y1,y2,y3⟩:=hb _ (CT hi);obtain⟨m2,n2,h2,hn2,h3⟩:=put_eq (R:=R) (N:=N) (l.getD i .nil).elems m _ _ _ hm y2 (by omega);have ec:Eo (l.take (i+1))=Eo (l.take i)++(l.getD i .nil).elems:=by rw[Li hi];unfold Eo;rw[ka];simp
   refine⟨_,⟨m2,?_,rfl⟩,fun k rec=>?_⟩
   ·rw[ec,iq];have en:n2=(n+((Eo (l.take i)++(l.getD i .nil).elems).length:Nat))%18446744073709551616:=by rw[hn2,bt];omega
    rw[<-en];exact h2
   ·unfold Wq;simp only[AF,AK,AO,AV,AB,AI,e1,AE,bq,and_self,bf,BK (show i<4611686018427387904 by omega)];rw[y1,h3];simp only[AF])
  (fun st hst=>by
   obtain⟨m,hm,rfl⟩:=hst;rw[iu]at hm;refine⟨_,⟨m,hm,rfl⟩,fun k rec=>?_⟩;unfold Wq;simp only[AF,AK,AO,AV,AB,fa,AE])
  (N:=N) (by omega) (st:=[.slice l,.int l.length,.int (0:Nat),m]) ⟨m,by
   have:=hm.nn;have e:(n+((Eo (l.take 0)).length:Nat))%18446744073709551616=n:=by have:(Eo (l.take 0)).length=0:=rfl;rw[this];have:=hm.nn.1;have:=hm.nn.2;omega
   rw[e];exact hm,rfl⟩
 refine⟨m',_,h1,rfl,fun k=>?_⟩;rw[z7];unfold fJ;simp only[AP,AI];exact(h2 _).trans rfl
def b4 (n:Int):List C:=[aw (al bp (fw n (2^24))),aw (al bp (fw n (2^16))),aw (al bp (fw n (2^8))),aw (al bp n)]
def cI (n:C) (k:KD R):LI N n k=k [.slice (b4 n.toInt)] []:=by rw[y7];unfold fO;rfl
def JK (n:Int):(b4 n).length=4:=rfl
def Nn (x:Int):BQ (.int (al bp x)):=by refine⟨rfl,?_,?_⟩;{show 0<=al bp x;rw[wrap_u8];omega};{show al bp x<256;rw[wrap_u8];omega}
def Ni (n:Int):∀c∈b4 n,BQ c:=by intro c hc;simp only[b4,fz,ic,or_false]at hc;rcases hc with rfl|rfl|rfl|rfl <;> exact Nn _
def Cn (n:Int):List C:=.int 128::ay (63-((n+8)%64).toNat) (.int 0)
def Di (n:Int):List C:=b4 (IntKind.u32.wrap (fw (n*8%18446744073709551616) (2^32)))++b4 (IntKind.u32.wrap (n*8%18446744073709551616))
def OW (n:Int):∀c∈Cn n,BQ c:=by intro c hc;rcases fz.1 hc with rfl|hc;{exact⟨rfl,by decide,by decide⟩};{rw[ik hc];exact⟨rfl,by decide,by decide⟩}
def zF (n:Int):∀c∈Di n,BQ c:=by intro c hc;rcases dw.1 hc with hc|hc;{exact Ni _ c hc};{exact Ni _ c hc}
def Kk (h:List W32):C:=.agg (h.flatMap fun x=>b4 x.toNat)
def Vg:∀(h:List W32),(h.flatMap fun x=>b4 x.toNat).length=4*h.length
 | []=>rfl|x::h=>by rw[ju,bt,Vg h,JK,cg];omega
def q4V (A:List C) (z:C) (n:Nat) (y:List C) (hy:y.length<=n):Ck (A++ay n z) A.length n y=A++(y++ay (n-y.length) z):=by unfold Ck;rw[xo,dr hy,Nat.min_eq_left hy,<-List.drop_drop,List.drop_left,List.drop_replicate,dp]
def q6H (f:W32->List C) (H:List W32) (i:Nat) (hi:i<H.length):(H.take (i+1)).flatMap f=(H.take i).flatMap f++f (H.getD i 0):=by
 have et:H.take (i+1)=H.take i++[H.getD i 0]:=by rw[lz,bg hi,bh,bg hi];rfl
 rw[et,ka];simp
def Ny (H:List W32) (i:Nat):List C:=((H.take i).flatMap fun x=>b4 x.toNat)++ay (32-4*i) (.int 0)
def q5o (H:List W32) (hh:H.length=8) (i:Nat) (hi:i<8):Ck (Ny H i) (4*i) (32-4*i) (b4 (H.getD i 0).toNat)=Ny H (i+1):=by
 have la:((H.take i).flatMap fun x=>b4 x.toNat).length=4*i:=by rw[Vg,kg];omega
 have key:=q4V ((H.take i).flatMap fun x=>b4 x.toNat) (.int 0) (32-4*i) (b4 (H.getD i 0).toNat) (by rw[JK];omega);rw[la,JK]at key;unfold Ny;rw[key,q6H _ H i (by omega),dp,show 32-4*i-4=32-4*(i+1) by omega]
def q5n (H:List W32) (hh:H.length=8):dh (Ny H 8)=Kk H:=by unfold Ny Kk;rw[dr (by omega)];simp
def q9a (m:C) (h:List W32) (q:List C) (n:Int) (hm:Gz m h q n) (hN:1000<N) (k:KD R):
  SU N m k=k [Kk ((Di n).foldl feed ((Cn n).foldl feed (h,q))).1,m] []:=by
 obtain⟨⟨w,rfl,hw,hwq,hwb⟩,hh,hn,hq⟩:=hm;have hm:Gz (.agg [.agg (h.map wI),.agg w,.int n]) h q n:=⟨⟨w,rfl,hw,hwq,hwb⟩,hh,hn,hq⟩;have w8:IntKind.u64.wrap (n+8)=(n+8)%18446744073709551616:=by simp[al,jc,ig]
 have r:bm ((n+8)%18446744073709551616) 64=(n+8)%64:=by rw[dj (by omega)];omega
 have wl:IntKind.u64.wrap (n*8)=n*8%18446744073709551616:=by simp[al,jc,ig]
 obtain⟨z,hz⟩:∃z:Nat,(n+8)%64=z:=⟨((n+8)%64).toNat,by omega⟩;have hz64:z<64:=by omega
 have e1:IntKind.u64.wrap (64-(z:Int))=64-z:=wrap_u64 (by omega) (by omega);have tz:(64-(z:Int)).toNat=63-z+1:=by omega
 have ef:cn (63-z+1) (da 0 (List.set (ay (63-z+1) (AJ (bn bp))) 0 (aw 128)))=Cn n:=by rw[ia,List.replicate_succ];show cn (63-z+1) (aw 128::ay (63-z) (AJ (bn bp)))=_;rw[dr (by simp)];unfold Cn;rw[hz];rfl
 obtain⟨m1,n1,hm1,_,h1⟩:=put_eq (R:=R) (N:=N) (Cn n) _ _ _ _ hm (OW n) (by simp[Cn];omega);obtain⟨m2,n2,hm2,_,h2⟩:=put_eq (R:=R) (N:=N) (Di n) _ _ _ _ hm1 (zF n) (by simp[Di,JK];omega);obtain⟨⟨w2,rfl,_,_,_⟩,hh2,_,_⟩:=hm2;generalize hH:((Di n).foldl feed ((Cn n).foldl feed (h,q))).1=H at*;have z32:AJ (.arr 32 (.int .u8))= .agg (ay 32 (.int 0)):=rfl;have lp:∀K:KD R,Ae N (SS N K) [.agg (H.map wI),.int 0,.agg [.agg (h.map wI),.agg w,.int n],AJ (.arr 32 (.int .u8)),.agg (ay 32 (.int 0))] []=K [.agg [.agg (h.map wI),.agg w,.int n],AJ (.arr 32 (.int .u8)),Kk H] []:=fun K=>by
  have key:=DX (F:=SS N K) (fun i=>[.agg (H.map wI),.int i,.agg [.agg (h.map wI),.agg w,.int n],AJ (.arr 32 (.int .u8)),.agg (Ny H i)]) (fun _=>[]) 8 (K [.agg [.agg (h.map wI),.agg w,.int n],AJ (.arr 32 (.int .u8)),Kk H] []) ?_ ?_ (N:=N) (by omega);{exact key}
  ·intro i hi rec;have e1:(i:Int)<8:=by omega
   have e2:IntKind.i64.wrap (4*(i:Int))=((4*i:Nat):Int):=by rw[wrap_i64 (by omega) (by omega)];omega
   have e3:(32-((4*i:Nat):Int)).toNat=32-4*i:=by omega
   have c1:0<32-4*i:=by omega
   have c2:((4*i:Nat):Int)<=32/\ja 32<=32:=⟨by omega,by decide⟩;have gi:ax (.agg (H.map wI)) i=wI (H.getD i 0):=HL (by omega);have ec:=q5o H hh2 i hi;unfold SS;simp only[AF,AK,AO,AV,Ac,AB,AI,DV,e1,e2,e3,c1,c2,gi,cI,Gv,ec,AE,bq,and_self,bf,BK (show i<4611686018427387904 by omega)]
  ·intro rec;have e:¬((8:Nat):Int)<8:=by decide
   unfold SS;simp only[AF,AK,AO,AV,Ac,AB,e,AE,q5n H hh2]
 rw[q8];unfold fI;simp only[Kt,AB,w8,r,e1,wl,hz,tz,ef];refine(if_pos (by omega)).trans ?_;refine(if_pos ⟨by decide,by omega⟩).trans ?_;rw[h1];have m32:min (aq 32) 64=32:=rfl;simp only[AF,cI,AB,AI,br,cond_true,JK,m32];refine(if_pos (by omega)).trans ?_;have h2':=h2;unfold Di at h2';rw[h2'];simp only[AP,AF,Eg,z32];exact(lp _).trans rfl
end
section
variable {R:Type} {N:Nat}
def ivW:List W32:=[1779033703,3144134277,1013904242,2773480762,1359893119,2600822924,528734635,1541459225]
def q9R:∃m,Gz m ivW [] 0/\∀k:KD R,SZ N k=k [m] []:=by refine⟨.agg [.agg (ivW.map wI),.agg (ay 64 (.int 0)),.int 0],⟨⟨ay 64 (.int 0),rfl,by simp,rfl,fun c hc=>?_⟩,rfl,⟨by decide,by decide⟩,rfl⟩,fun k=>?_⟩;{rw[ik hc];exact⟨rfl,by decide,by decide⟩};{rw[y5];unfold fM;rfl}
def Cb (x:C):List C:=b4 (IntKind.u32.wrap (x.elems.length:Int))++x.elems
def CK (d:C) (l:List C):List C:=[d,.int (IntKind.u8.wrap (l.length:Int))]++l.flatMap Cb
def Hg (p:List C):C:=Kk ((Di p.length).foldl feed ((Cn p.length).foldl feed (p.foldl feed (ivW,[])))).1
def QV (d:C) (hd:BQ d) (l:List C) (B:Nat) (hb:Hk B l) (hl:l.length+1000<N) (hN:B+1000<N) (hN2:N<4611686018427387904) (hm:(CK d l).length<4611686018427387904) (k:KD R):
  KG N d (.slice l) k=k [Hg (CK d l)] []:=by
 obtain⟨m0,hm0,h0⟩:=q9R (R:=R) (N:=N);have p1:Hk 10 [bc [d,aw (IntKind.u8.wrap (l.length:Int))]]:=fun x hx=>by rw[List.mem_singleton.1 hx];refine⟨rfl,fun c hc=>?_,by simp[AI]⟩;simp only[AI,fz,ic,or_false]at hc;rcases hc with rfl|rfl;{exact hd};{exact Nn _}
 obtain⟨m1,n1,hm1,hn1,h1⟩:=q25 (R:=R) (N:=N) [bc [d,aw (IntKind.u8.wrap (l.length:Int))]] m0 ivW [] 0 hm0 10 p1 (by simp;omega) (by omega) hN2;have c1:Eo [bc [d,aw (IntKind.u8.wrap (l.length:Int))]]=[d,aw (IntKind.u8.wrap (l.length:Int))]:=rfl;rw[c1]at hm1 hn1
 obtain⟨dd,⟨m2,hm2,rfl⟩,h2⟩:=FV (R:=R) (F:=fun k2=>Wp N k2) l.length
  (fun i st=>∃m:C,Gz m (([d,aw (IntKind.u8.wrap (l.length:Int))]++(l.take i).flatMap Cb).foldl feed (ivW,[])).1 (([d,aw (IntKind.u8.wrap (l.length:Int))]++(l.take i).flatMap Cb).foldl feed (ivW,[])).2 ((([d,aw (IntKind.u8.wrap (l.length:Int))]++(l.take i).flatMap Cb).length:Nat)%18446744073709551616)/\st=[.slice l,.int l.length,.int i,AJ (.arr 32 (.int .u8)),m])
  (fun dd=>∃m',Gz m' ((CK d l).foldl feed (ivW,[])).1 ((CK d l).foldl feed (ivW,[])).2 (((CK d l).length:Nat)%18446744073709551616)/\dd=[AJ (.arr 32 (.int .u8)),m'])
  (fun i st hi hst=>by
   obtain⟨m,hm,rfl⟩:=hst;have e1:(i:Int)<(l.length:Int):=by omega
   obtain⟨y1,y2,y3⟩:=hb _ (CT hi);have pp:Hk (B+4) [bc (b4 (IntKind.u32.wrap ((l.getD i .nil).elems.length:Int))),l.getD i .nil]:=fun x hx=>by simp only[fz,ic,or_false]at hx;rcases hx with rfl|rfl;{exact⟨rfl,Ni _,by rw[AI,JK];omega⟩};{exact⟨y1,y2,by omega⟩}
   obtain⟨m2,n2,h2,hn2,h3⟩:=q25 (R:=R) (N:=N) _ m _ _ _ hm (B+4) pp (by simp;omega) (by omega) hN2;have cc:Eo [bc (b4 (IntKind.u32.wrap ((l.getD i .nil).elems.length:Int))),l.getD i .nil]=Cb (l.getD i .nil):=by unfold Eo Cb;rw[ju,ju,List.flatMap_nil,List.append_nil,AI]
   have ec:(l.take (i+1)).flatMap Cb=(l.take i).flatMap Cb++Cb (l.getD i .nil):=by rw[Li hi,ka];simp
   rw[cc]at h2 hn2;refine⟨_,⟨m2,?_,rfl⟩,fun k rec=>?_⟩
   ·rw[ec,<-dp,iq];have en:n2=((([d,aw (IntKind.u8.wrap (l.length:Int))]++(l.take i).flatMap Cb++Cb (l.getD i .nil)).length:Nat):Int)%18446744073709551616:=by rw[hn2];generalize [d,aw (IntKind.u8.wrap (l.length:Int))]++(l.take i).flatMap Cb=z;generalize Cb (l.getD i .nil)=y;rw[bt];omega
    rw[<-en];exact h2
   ·unfold Wp;simp only[AF,AK,AO,AV,Ac,AB,AI,e1,AE,bq,and_self,bf,cI,h3,BK (show i<4611686018427387904 by omega)])
  (fun st hst=>by
   obtain⟨m,hm,rfl⟩:=hst;rw[iu]at hm;refine⟨_,⟨m,hm,rfl⟩,fun k rec=>?_⟩;unfold Wp;simp only[AF,AK,AO,AV,Ac,AB,fa,AE])
  (N:=N) (by omega) (st:=[.slice l,.int l.length,.int (0:Nat),AJ (.arr 32 (.int .u8)),m1]) ⟨m1,by
   have e:([d,aw (IntKind.u8.wrap (l.length:Int))]++(l.take 0).flatMap Cb)=[d,aw (IntKind.u8.wrap (l.length:Int))]:=rfl;rw[e];have en:n1=((([d,aw (IntKind.u8.wrap (l.length:Int))]).length:Nat):Int)%18446744073709551616:=by rw[hn1];simp
   rw[<-en];exact hm1,rfl⟩
 have ln:(((CK d l).length:Nat):Int)%18446744073709551616=((CK d l).length:Int):=by omega
 rw[ln]at hm2;rw[ah];unfold fG;simp only[h0,AF,AI,h1,AP];refine(h2 _).trans ?_;simp only[AK,q9a m2 _ _ _ hm2 (show 1000<N by omega),AF];rfl
end
section
variable {R:Type} {N:Nat}
abbrev z32:C:=AJ (.arr 32 (.int .u8))
def q6R (l:List C) (i:Nat):ax (.agg l) i=l.getD i .nil:=rfl
def mL (l:List C) (i:Nat) (x:C):ct (.agg l) i x= .agg (l.set i x):=rfl
def WS (i m r:Nat) (hi:i=4*m+r) (hr:r<4) (hm:m<8) (c h:List C) (hc:c.length=32) (hh:h.length=8) (x:Nat) (hx:x<4294967296) (hg:h.getD m .nil= .int (x:Int)) (K rec:KD R):
  TT N K rec [.int 8,.int (i:Int),z32,.agg c,.agg h] []=rec [.int 8,.int ((i:Int)-1),z32,.agg (c.set i (.int ((x%256:Nat):Int))),.agg (h.set m (.int ((x / 256:Nat):Int)))] []:=by
 have z2:(i:Int)<32:=by omega
 have e8:aq 8=8:=rfl;have q:dx (i:Int) 4=(m:Int):=by rw[ei (by omega)];omega
 have q2:IntKind.i64.wrap (m:Int)=(m:Int):=wrap_i64 (by omega) (by omega);have c1:(m:Int)<((8:Nat):Int):=by omega
 have w1:IntKind.i64.wrap ((i:Int)-1)=(i:Int)-1:=wrap_i64 (by omega) (by omega);have m1:IntKind.u8.wrap (bm (x:Int) 256)=((x%256:Nat):Int):=by rw[dj (by omega),wrap_u8];omega
 have m2:IntKind.u64.wrap (dx (x:Int) 256)=((x / 256:Nat):Int):=by rw[ei (by omega),wrap_u64 (by omega) (by omega)];omega
 unfold TT;simp only[AF,AK,AO,AV,Ac,AB,DV,bq,z2,e8,q,q2,c1,w1,q6R,mL,cm,bf,hg,m1,m2,AE,and_self,ed];rfl
def z39 (A B:List C) (n:Nat) (hA:A.length=n) (a b c d a' b' c' d':C):((((A++[a,b,c,d]++B).set (n+3) d').set (n+2) c').set (n+1) b').set n a'=A++[a',b',c',d']++B:=by
 subst hA;apply fk;intro i;simp only[dp];by_cases h:i<A.length;{simp[gd,fm h,show ¬A.length=i by omega,show ¬A.length+1=i by omega,show ¬A.length+2=i by omega,show ¬A.length+3=i by omega]}
 ·obtain⟨j,rfl⟩:∃j,i=A.length+j:=⟨i-A.length,by omega⟩
  match j with
  |0=>simp[gd]|1=>simp[gd]|2=>simp[gd]|3=>simp[gd]|j+4=>simp[gd,ft]
def VL (x:Nat) (hx:x<4294967296):b4 (x:Int)=[.int ((x / 256 / 256 / 256%256:Nat):Int),.int ((x / 256 / 256%256:Nat):Int),.int ((x / 256%256:Nat):Int),.int ((x%256:Nat):Int)]:=by unfold b4;simp only[wrap_u8];rw[ib _ (by decide),ib _ (by decide),ib _ (by decide)];simp only[show(2:Int)^24=16777216 by decide,show(2:Int)^16=65536 by decide,show(2:Int)^8=256 by decide];rw[show((x:Int) / 16777216)%256=((x / 256 / 256 / 256%256:Nat):Int) by omega,show((x:Int) / 65536)%256=((x / 256 / 256%256:Nat):Int) by omega,show((x:Int) / 256)%256=((x / 256%256:Nat):Int) by omega,show(x:Int)%256=((x%256:Nat):Int) by omega]
def xN (hW:List W32) (hh8:hW.length=8) (K:KD R):∀(m M:Nat) (h:List C),m<=8->h.length=8->(∀j,j<m->h.getD j .nil=wI (hW.getD j 0))->4*m+1<M->
  Ae M (TT N K) [.int 8,.int (4*(m:Int)-1),z32,.agg (ay (4*m) (.int 0)++(hW.drop m).flatMap fun x=>b4 x.toNat),.agg h] []=K [z32,Kk hW] []
 |0,M,h,_,hl,_,hM=>by
  obtain⟨M,rfl⟩:∃a,M=a+1:=⟨M-1,by omega⟩;rw[Bq];unfold TT;have e:¬(0:Int)<=4*((0:Nat):Int)-1:=by omega
  simp only[AF,AK,AO,AV,Ac,AB,e,AE];rfl
 |m+1,M,h,hm,hl,hg,hM=>by
  obtain⟨M,rfl⟩:∃a,M=a+1+1+1+1:=⟨M-4,by omega⟩;have hx:=CN (hW.getD m 0);have g:=hg m (by omega);obtain⟨x,hxx⟩:∃x,(hW.getD m 0).toNat=x:=⟨_,rfl⟩;have hr:ay (4*(m+1)) (aw 0)=ay (4*m) (.int 0)++[.int 0,.int 0,.int 0,.int 0]:=by rw[show 4*(m+1)=4*m+4 by omega,<-List.replicate_append_replicate];rfl
  have hd:(hW.drop m).flatMap (fun x=>b4 x.toNat)=b4 (x:Int)++(hW.drop (m+1)).flatMap fun x=>b4 x.toNat:=by rw[List.drop_eq_getElem_cons (by omega),ju];rw[bh,bg (by omega)]at hxx;simp only[jh]at hxx;rw[hxx]
  rw[hxx]at hx;have hgx:h.getD m .nil= .int (x:Int):=by rw[g,<-hxx];rfl
  have lc:(ay (4*m) (aw 0)++[aw 0,.int 0,.int 0,.int 0]++(hW.drop (m+1)).flatMap fun x=>b4 x.toNat).length=32:=by simp only[bt,List.length_replicate,Vg,List.length_drop,hh8,cg,de];omega
  have z6z:∀(l:List C) (v:C),l.length=8->(l.set m v).getD m .nil=v:=fun l v hl=>by rw[bh,List.getElem?_set_self (by omega)];rfl
  rw[hr];have i3:(4*((m+1:Nat):Int)-1)=((4*m+3:Nat):Int):=by omega
  have i2:(((4*m+3:Nat):Int)-1)=((4*m+2:Nat):Int):=by omega
  have i1:(((4*m+2:Nat):Int)-1)=((4*m+1:Nat):Int):=by omega
  have i0:(((4*m+1:Nat):Int)-1)=((4*m:Nat):Int):=by omega
  rw[i3,Bq,WS (4*m+3) m 3 rfl (by omega) (by omega) _ _ lc hl x hx hgx,i2,Bq,WS (4*m+2) m 2 rfl (by omega) (by omega) _ _ (by rw[ed];exact lc) (by rw[ed];exact hl) (x / 256) (by omega) (z6z _ _ hl),i1,
   Bq,WS (4*m+1) m 1 rfl (by omega) (by omega) _ _ (by rw[ed,ed];exact lc) (by rw[ed,ed];exact hl) (x / 256 / 256) (by omega) (z6z _ _ (by rw[ed];exact hl)),i0,
   Bq,WS (4*m) m 0 rfl (by omega) (by omega) _ _ (by rw[ed,ed,ed];exact lc) (by rw[ed,ed,ed];exact hl) (x / 256 / 256 / 256) (by omega) (z6z _ _ (by rw[ed,ed];exact hl)),
   z39 _ _ (4*m) (by simp),dp,<-VL x hx,<-hd]
  have e:(((4*m:Nat):Int)-1)=4*(m:Int)-1:=by omega
  rw[e];refine xN hW hh8 K m M _ (by omega) (by simp only[ed];exact hl) (fun j hj=>?_) (by omega);rw[<-hg j (by omega)];simp only[bh,List.getElem?_set_ne (show m≠j by omega)]
def xO (t:C) (ht:DH t) (hN:1000<N) (K:KD R):∀(q M:Nat) (b:List C) (h:List W32),b.length=64*q->h.length=8->(∀c∈b,BQ c)->q<M->
  Ae M (Xk N K) [t,.slice b,.int 8,z32,.agg (h.map wI)] []=K [.int 8,z32,.agg ((b.foldl feed (h,[])).1.map wI)] []
 |0,M,b,h,hb,hh,_,hM=>by obtain⟨M,rfl⟩:∃a,M=a+1:=⟨M-1,by omega⟩;have hb0:b=[]:=fh (by omega);subst hb0;rw[Bq];unfold Xk;simp only[AF,AK,AO,AV,Ac,AI,AB,de,fa,AE,xn];rfl
 |q+1,M,b,h,hb,hh,hbb,hM=>by
  obtain⟨M,rfl⟩:∃a,M=a+1:=⟨M-1,by omega⟩;have z':0<(b.length:Int):=by omega
  have c1:64<=(b.length:Int):=by omega
  have c2:ja 0<=0/\ja 0<=64/\64<=(b.length:Int):=⟨by decide,by decide,c1⟩;have c3:ja 0<=64/\64<=(b.length:Int)/\(b.length:Int)<=(b.length:Int):=⟨by decide,c1,Int.le_refl _⟩;have e8:aq 8=8:=rfl;have th:cn 8 (da 0 (h.map wI))=h.map wI:=by rw[ia];exact dr (by rw[ep];omega)
  have k1:cut b 0 64=b.take 64:=by simp[cut]
  have k2:cut b 64 (b.length:Int)=b.drop 64:=by simp[cut]
  have bl:∀k:KD R,Pl N t (.slice (h.map wI)) (.slice (b.take 64)) k=k [.int 8,.agg ((JO h (b.take 64)).map wI)] []:=fun k=>
   q3P t ht h (b.take 64) hh (by simp;omega) (fun c hc=>hbb c (lj hc)) hN k
  have ff:b.foldl feed (h,[])=(b.drop 64).foldl feed (JO h (b.take 64),[]):=by
   conv=>lhs;rw[<-ku 64 b]
   rw[iq,bX (b.take 64) h [] (by simp;omega) (by simp)];rfl
  rw[Bq,ff,<-xO t ht hN K q M (b.drop 64) (JO h (b.take 64)) (by simp;omega) (aI hh _) (fun c hc=>hbb c (jl hc)) (by omega)];unfold Xk;simp only[AF,AK,AO,AV,Ac,AI,AB,DV,z',c2,c3,e8,k1,k2,th,bl,AE,and_self,bf];rfl
def ivL (i:Nat):List C:=((ivW.take i).map wI)++ay (8-i) (AJ (.int .u64))
def q7t:∀i,i<8->(ivL i).set i (wI (ivW.getD i 0))=ivL (i+1)
 |0,_=>rfl|1,_=>rfl|2,_=>rfl|3,_=>rfl|4,_=>rfl|5,_=>rfl|6,_=>rfl|7,_=>rfl|i+8,h=>by omega
def q7F (t:C) (ht:DH t) (b:List C) (hN:1000<N) (K:KD R):
  Ae N (TU N K) [t,.slice b,.int 8,.int 0,z32,.agg (ay 8 (AJ (.int .u64)))] []=K [t,.slice b,.int 8,z32,.agg (ivW.map wI)] []:=by
 have key:=DX (F:=TU N K) (fun i=>[t,.slice b,.int 8,.int (i:Nat),z32,.agg (ivL i)]) (fun _=>[]) 8 (K [t,.slice b,.int 8,z32,.agg (ivW.map wI)] []) ?_ ?_ (N:=N) (by omega);{exact key}
 ·intro i hi rec;have e1:(i:Int)<8:=by omega
  have e8:aq 8=8:=rfl;have e2:(i:Int)<((8:Nat):Int):=by omega
  have rt:∀k:KD R,LW N (t.get 0) (.int i) k=k [wI (ivW.getD i 0)] []:=fun k=>by rw[pU _ i (by rw[ht.l0];omega) (by omega) (by omega),ht.w0 i hi];rfl
  unfold TU;simp only[AF,AK,AO,AV,Ac,Av,AB,AI,DV,e1,e2,e8,rt,mL,cm,AE,bq,and_self,bf,br,ed,q7t i hi,BK (show i<4611686018427387904 by omega)];rfl
 ·intro rec;have e:¬((8:Nat):Int)<8:=by decide
  unfold TU;simp only[AF,AK,AO,AV,Ac,Av,AB,AI,DV,e,AE,br];rfl
end
section
variable {R:Type} {N:Nat}
def q7I (t p1:C) (p:List C) (n:Nat) (hp:p.length=n) (hn:n<=4398046511104) (hN:1000<N) (K:KD R):
  Ae N (TV N K) [p1,t,.slice (p++[.int 128]),z32] []=K [p1,t,.slice (p++Cn n),z32] []:=by
 obtain⟨m,hm⟩:∃m,63-(((n:Int)+8)%64).toNat=m:=⟨_,rfl⟩;have hm2:m<64:=by omega
 have key:=DX (F:=TV N K) (fun i=>[p1,t,.slice (p++.int 128::ay i (.int 0)),z32]) (fun _=>[]) m (K [p1,t,.slice (p++Cn n),z32] []) ?_ ?_ (N:=N) (by omega);{exact key}
 ·intro i hi rec;have hl:(p++aw 128::ay i (aw 0)).length=n+1+i:=by simp[hp];omega
  have z:¬((n+1+i:Nat):Int).tmod 64=56:=by rw[dj (by omega)];omega
  have g1:(n+1+i+1)*1<=140737488355328/\n+1+i+1<=9223372036854775807:=by omega
  have e:(p++aw 128::ay i (aw 0))++[aw 0]=p++aw 128::ay (i+1) (aw 0):=by rw[List.replicate_succ',dp];rfl
  have hl2:(p++aw 128::ay (i+1) (aw 0)).length=n+1+i+1:=by simp[hp];omega
  unfold TV;simp only[AF,AK,AO,AV,AI,hl,z,g1,e,hl2,AE,br,and_self]
 ·intro rec;have hl:(p++aw 128::ay m (aw 0)).length=n+1+m:=by simp[hp];omega
  have z:((n+1+m:Nat):Int).tmod 64=56:=by rw[dj (by omega)];omega
  have e:Cn n=aw 128::ay m (aw 0):=by unfold Cn;rw[hm]
  rw[e];unfold TV;simp only[AF,AK,AO,AV,AI,hl,z,AE,br]
def q7H (t:C) (b e:List C) (x:Nat) (hx:x<18446744073709551616) (i:Nat) (hi:i<8) (K rec:KD R):
  Ph N K rec [t,.int 0,.int 8,.int 8,.slice b,.int (x:Int),.int (i:Int),z32,.agg e] []=rec [t,.int 0,.int 8,.int 8,.slice b,.int ((x / 256:Nat):Int),.int ((i:Int)-1),z32,.agg (e.set i (.int ((x%256:Nat):Int)))] []:=by
 have c1:(i:Int)<((8:Nat):Int):=by omega
 have e8:aq 8=8:=rfl;have w1:IntKind.i64.wrap ((i:Int)-1)=(i:Int)-1:=wrap_i64 (by omega) (by omega);have m1:IntKind.u8.wrap (bm (x:Int) 256)=((x%256:Nat):Int):=by rw[dj (by omega),wrap_u8];omega
 have m2:IntKind.u64.wrap (dx (x:Int) 256)=((x / 256:Nat):Int):=by rw[ei (by omega),wrap_u64 (by omega) (by omega)];omega
 have t0:aq 0=0:=rfl;unfold Ph;simp only[AF,AK,AO,AV,Ac,Av,BW,Cm,DK,AI,AB,c1,e8,t0,w1,m1,m2,mL,cm,bq,AE,br,and_self,bf];rfl
def zD (n:Nat) (hn:n<=4398046511104):Di n=[.int ((n*8 / 256 / 256 / 256 / 256 / 256 / 256 / 256%256:Nat):Int),.int ((n*8 / 256 / 256 / 256 / 256 / 256 / 256%256:Nat):Int),.int ((n*8 / 256 / 256 / 256 / 256 / 256%256:Nat):Int),.int ((n*8 / 256 / 256 / 256 / 256%256:Nat):Int),.int ((n*8 / 256 / 256 / 256%256:Nat):Int),.int ((n*8 / 256 / 256%256:Nat):Int),.int ((n*8 / 256%256:Nat):Int),.int ((n*8%256:Nat):Int)]:=by
 unfold Di;have e1:IntKind.u32.wrap (fw ((n:Int)*8%18446744073709551616) (2^32))=((n*8 / 4294967296:Nat):Int):=by rw[ib _ (by decide),wrap_u32,show(2:Int)^32=4294967296 by decide];omega
 have e2:IntKind.u32.wrap ((n:Int)*8%18446744073709551616)=((n*8%4294967296:Nat):Int):=by rw[wrap_u32];omega
 rw[e1,e2,VL _ (by omega),VL _ (by omega)];obtain⟨y,hy⟩:∃y,n*8=y:=⟨_,rfl⟩;rw[hy];have f1:y / 4294967296=y / 256 / 256 / 256 / 256:=by omega
 have f2:y%4294967296%256=y%256:=by omega
 have f3:y%4294967296 / 256%256=y / 256%256:=by omega
 have f4:y%4294967296 / 256 / 256%256=y / 256 / 256%256:=by omega
 have f5:y%4294967296 / 256 / 256 / 256%256=y / 256 / 256 / 256%256:=by omega
 rw[f1,f2,f3,f4,f5];rfl
def q7G (t:C) (b:List C) (n:Nat) (hn:n<=4398046511104) (hN:1000<N) (K:KD R):
  Ae N (Ph N K) [t,.int 0,.int 8,.int 8,.slice b,.int ((n*8:Nat):Int),.int 7,z32,.agg (ay 8 (AJ (.int .u8)))] []=K [t,.int 0,.int 8,.int 8,.slice b,z32,.agg (Di n)] []:=by
 obtain⟨M,hM⟩:∃M,N=M+1+1+1+1+1+1+1+1+1:=⟨N-9,by omega⟩;obtain⟨F,hF⟩:∃F,Ph N K=F:=⟨_,rfl⟩;have one:∀(e:List C) (x:Nat) (_:x<18446744073709551616) (i:Nat) (_:i<8) (rec:KD R),F rec [t,.int 0,.int 8,.int 8,.slice b,.int (x:Int),.int (i:Int),z32,.agg e] []=rec [t,.int 0,.int 8,.int 8,.slice b,.int ((x / 256:Nat):Int),.int ((i:Int)-1),z32,.agg (e.set i (.int ((x%256:Nat):Int)))] []:=fun e x hx i hi rec=>by rw[<-hF];exact q7H t b e x hx i hi K rec
 have stop:∀(e:List C) (x:Int) (rec:KD R),F rec [t,.int 0,.int 8,.int 8,.slice b,.int x,.int (-1),z32,.agg e] []=K [t,.int 0,.int 8,.int 8,.slice b,z32,.agg e] []:=fun e x rec=>by
  rw[<-hF];have e0:¬(0:Int)<=-1:=by decide
  have e8:aq 8=8:=rfl;have t0:aq 0=0:=rfl;unfold Ph;simp only[AF,AK,AO,AV,Ac,Av,BW,Cm,DK,AI,AB,e0,e8,t0,AE,br];rfl
 rw[hF,hM,zD n hn];have s7:(7:Int)=((7:Nat):Int):=rfl;have s6:((7:Nat):Int)-1=((6:Nat):Int):=rfl;have s5:((6:Nat):Int)-1=((5:Nat):Int):=rfl;have s4:((5:Nat):Int)-1=((4:Nat):Int):=rfl;have s3:((4:Nat):Int)-1=((3:Nat):Int):=rfl;have s2:((3:Nat):Int)-1=((2:Nat):Int):=rfl;have s1:((2:Nat):Int)-1=((1:Nat):Int):=rfl;have s0:((1:Nat):Int)-1=((0:Nat):Int):=rfl;have sm:((0:Nat):Int)-1= -1:=rfl;obtain⟨y,hy⟩:∃y,n*8=y:=⟨_,rfl⟩;rw[hy,s7,Bq,one _ y (by omega) 7 (by omega),s6,Bq,one _ (y / 256) (by omega) 6 (by omega),s5,Bq,one _ (y / 256 / 256) (by omega) 5 (by omega),s4,Bq,one _ (y / 256 / 256 / 256) (by omega) 4 (by omega),s3,Bq,one _ (y / 256 / 256 / 256 / 256) (by omega) 3 (by omega),s2,Bq,one _ (y / 256 / 256 / 256 / 256 / 256) (by omega) 2 (by omega),s1,Bq,one _ (y / 256 / 256 / 256 / 256 / 256 / 256) (by omega) 1 (by omega),s0,Bq,one _ (y / 256 / 256 / 256 / 256 / 256 / 256 / 256) (by omega) 0 (by omega),sm,Bq,stop];rfl
def oQ (t:C) (ht:DH t) (p:List C) (hb:∀c∈p,BQ c) (hp:p.length<=4398046511104) (hN:p.length+1000<N) (k:KD R):LV N t (.slice p) k=k [Hg p] []:=by
 obtain⟨n,hn⟩:∃n,p.length=n:=⟨_,rfl⟩;have lf:(Cn n).length=1+(63-(((n:Int)+8)%64).toNat):=by simp[Cn];omega
 have ll:(Di n).length=8:=by rw[zD n (by omega)];rfl
 obtain⟨q,hq⟩:∃q,(p++Cn n++Di n).length=64*q:=⟨(p++Cn n++Di n).length / 64,by simp only[bt,lf,ll,hn];omega⟩;have hq2:q<N:=by simp only[bt,lf,ll,hn]at hq;omega
 have hbb:∀c∈p++Cn n++Di n,BQ c:=fun c hc=>by rcases dw.1 hc with hc|hc;{rcases dw.1 hc with hc|hc;{exact hb c hc};{exact OW _ c hc}};{exact zF _ c hc}
 have hH:((p++Cn n++Di n).foldl feed (ivW,[])).1.length=8:=uR rfl _ _;have z8p:Hg p=Kk ((p++Cn n++Di n).foldl feed (ivW,[])).1:=by unfold Hg;rw[hn,iq,iq]
 have w8:IntKind.u64.wrap (IntKind.u64.wrap (n:Int)*8)=((n*8:Nat):Int):=by simp only[KY];omega
 have g1:(n+1)*1<=140737488355328/\n+1<=9223372036854775807:=by omega
 have g2:((p++Cn n).length+8)*1<=140737488355328/\(p++Cn n).length+8<=9223372036854775807:=by simp only[bt,lf,hn];omega
 have te:cn 8 (da 0 (Di n))=Di n:=by rw[ia];exact dr (by omega)
 have e8:aq 8=8:=rfl;have t0:aq 0=0:=rfl;rw[H8];unfold jM;simp only[AP,AI,hn,br,AE,g1,and_self,bt,cg,de,cm];refine(q7I t (.slice p) p n hn (by omega) (by omega) _).trans ?_;simp only[AF,AK,AO,AV,AI,br,cond_true,e8,hn,w8];refine(q7G t (p++Cn n) n (by omega) (by omega) _).trans ?_;simp only[AF,AK,AO,AV,Ac,Av,BW,AI,DV,AB,e8,t0,te,ll];rw[if_pos g2];refine(q7F t ht _ (by omega) _).trans ?_;simp only[AF,AK,AO,AV,Ac,Av,AI,DV,AB,e8,if_true];refine(xO t ht (by omega) _ q N (p++Cn n++Di n) ivW hq rfl hbb hq2).trans ?_;simp only[AF,AK,AO,DV,AB,e8,if_true];rw[z8p]
 have key:=xN (N:=N) _ hH (fun d5 m5=>k [dk d5 1] []) 8 N (((p++Cn n++Di n).foldl feed (ivW,[])).1.map wI) (by omega) (by rw[ep];exact hH) (fun j hj=>by
  rw[bh,dg,bh,bg (by omega)];rfl) (by omega)
 have e0:(ay (4*8) (aw 0)++(((p++Cn n++Di n).foldl feed (ivW,[])).1.drop 8).flatMap fun x=>b4 x.toNat)=ay 32 (.int 0):=by rw[oe (by omega)];rfl
 rw[e0]at key;exact key
end
def jJ {R:Type} (N:Nat) (k1:KD R):Option R:=k1 [ct (ct (dh [C.str [],C.str []]) 0 (C.str [54,97,48,57,101,54,54,55,98,98,54,55,97,101,56,53,51,99,54,101,102,51,55,50,97,53,52,102,102,53,51,97,53,49,48,101,53,50,55,102,57,98,48,53,54,56,56,99,49,102,56,51,100,57,97,98,53,98,101,48,99,100,49,57])) 1 (C.str [52,50,56,97,50,102,57,56,55,49,51,55,52,52,57,49,98,53,99,48,102,98,99,102,101,57,98,53,100,98,97,53,51,57,53,54,99,50,53,98,53,57,102,49,49,49,102,49,57,50,51,102,56,50,97,52,97,98,49,99,53,101,100,53,100,56,48,55,97,97,57,56,49,50,56,51,53,98,48,49,50,52,51,49,56,53,98,101,53,53,48,99,55,100,99,51,55,50,98,101,53,100,55,52,56,48,100,101,98,49,102,101,57,98,100,99,48,54,97,55,99,49,57,98,102,49,55,52,101,52,57,98,54,57,99,49,101,102,98,101,52,55,56,54,48,102,99,49,57,100,99,54,50,52,48,99,97,49,99,99,50,100,101,57,50,99,54,102,52,97,55,52,56,52,97,97,53,99,98,48,97,57,100,99,55,54,102,57,56,56,100,97,57,56,51,101,53,49,53,50,97,56,51,49,99,54,54,100,98,48,48,51,50,55,99,56,98,102,53,57,55,102,99,55,99,54,101,48,48,98,102,51,100,53,97,55,57,49,52,55,48,54,99,97,54,51,53,49,49,52,50,57,50,57,54,55,50,55,98,55,48,97,56,53,50,101,49,98,50,49,51,56,52,100,50,99,54,100,102,99,53,51,51,56,48,100,49,51,54,53,48,97,55,51,53,52,55,54,54,97,48,97,98,98,56,49,99,50,99,57,50,101,57,50,55,50,50,99,56,53,97,50,98,102,101,56,97,49,97,56,49,97,54,54,52,98,99,50,52,98,56,98,55,48,99,55,54,99,53,49,97,51,100,49,57,50,101,56,49,57,100,54,57,57,48,54,50,52,102,52,48,101,51,53,56,53,49,48,54,97,97,48,55,48,49,57,97,52,99,49,49,54,49,101,51,55,54,99,48,56,50,55,52,56,55,55,52,99,51,52,98,48,98,99,98,53,51,57,49,99,48,99,98,51,52,101,100,56,97,97,52,97,53,98,57,99,99,97,52,102,54,56,50,101,54,102,102,51,55,52,56,102,56,50,101,101,55,56,97,53,54,51,54,102,56,52,99,56,55,56,49,52,56,99,99,55,48,50,48,56,57,48,98,101,102,102,102,97,97,52,53,48,54,99,101,98,98,101,102,57,97,51,102,55,99,54,55,49,55,56,102,50])] []
def TR:=lid "" (@jJ R N)
def H4 {R N k}:@TR R N k=jJ N k:=by unfold TR;rw[AW]
def z1C:OvG R:=Af [] (fun a=>TR N) (BD Br)
def z1D:okX 31 (@z1C R N):=Ai AZ N [] [(31,[([9],⟨[],[(0,.as (.ptr (.l 0) [] Br))],[],[(.l 0,.box (.d Br))],[],[]⟩)])] (fun _ _=>H4)
end Go.Proofs.YtgdonkaoajbclaaGreatDoor
