/-
 What the functions on the way compute, part 2.
 Conditions: none.
-/
import Derived.Test.YtgdonkaoajbclaaGreatDoorKa
set_option linter.all false
noncomputable section
set_option maxRecDepth 100000
set_option maxHeartbeats 4000000
open BitVec renaming eq_of_getLsbD_eq->mw,getLsbD_and->oz,getLsbD_not->ug,getLsbD_or->uy,getLsbD_xor->uh,ofInt->dv,ofInt_natCast->lg,toNat_add->kr,toNat_setWidth->ta
open Go.BinOp renaming and->dr,xor->ep
open Go.E.C renaming agg->dj,bool->cg,elems->au,get->bc,int->az,nil->dw,set->db,slice->bj,toInt->ao,toStr->ya
open Go.E.Ty renaming arr->ct,int->br
open Go.IntKind renaming bits->jk,i64->aw,signed->iw,u64->ay,u8->bt,wrap->ar
open Int renaming fdiv->fx,fdiv_eq_ediv_of_nonneg->ic,lt_irrefl->fb,natCast_nonneg->bu,ofNat->ja,tdiv->dz,tdiv_eq_ediv_of_nonneg->ek,tmod->bq,tmod_eq_emod_of_nonneg->dp,toNat->av,toNat_natCast->bh
open List renaming append_assoc->dq,drop->dc,drop_of_length_le->og,drop_zero->ib,eq_nil_of_length_eq_zero->fh,eq_of_mem_replicate->ij,ext_getElem?->fl,flatMap_append->kc,flatMap_cons->jv,foldl_append->im,foldl_cons->oa,foldl_nil->xm,getD->bp,getD_eq_getElem?_getD->bn,getElem?_append_left->fm,getElem?_append_right->fu,getElem?_eq_getElem->bm,getElem?_map->di,getElem?_set->gf,length->aq,length_append->bx,length_cons->cn,length_map->ez,length_nil->df,length_set->eg,length_take->kl,map->dg,map_append->kq,map_cons->ed,map_nil->vq,mem_append->dy,mem_cons->gr,mem_of_mem_drop->jm,mem_of_mem_take->lr,not_mem_nil->jd,replicate->bf,take->cr,take_add_one->mb,take_append_drop->kv,take_left->xn,take_length->ir,take_of_length_le->du
open Nat renaming beq->bo,beq_refl->bw,le_refl->ca,mod_eq_of_lt->qh,zero_add->cq
open Option renaming getD_some->jh
open UInt8 renaming ofNat->nt,toNat->uw
namespace Go.Proofs.YtgdonkaoajbclaaGreatDoor
open Go Go.E
variable {R:Type} (N:Nat)
section
variable {R:Type} {N:Nat}
def nG (w:List C):Nat->List W32
 |0=>bf 16 0
 |i+1=>(nG w i).set i (Ix ((w.drop (4*i)).take 4))
theorem Mi (w:List C):∀i,(nG w i).length=16
 |0=>rfl
 |i+1=>by simp[nG,Mi w i]
def aG (h s:List W32):Nat->List W32
 |0=>h
 |i+1=>(aG h s i).set i (h.getD i 0+s.getD i 0)
theorem Lp (h s:List W32):∀i,(aG h s i).length=h.length
 |0=>rfl
 |i+1=>by simp[aG,Lp h s i]
theorem ML {l:List W32} {i j:Nat} {x:W32} (hi:i<l.length):(l.set i x).getD j 0=if i=j then x else l.getD j 0:=by
 rw[bn,bn,gf];by_cases h:i=j
 ·subst h;simp[hi]
 ·simp[h]
theorem oE (h s:List W32) (hh:h.length=8):∀i j,i<=j->i<=8->(aG h s i).getD j 0=h.getD j 0
 |0,_,_,_=>rfl
 |i+1,j,hj,hi=>by
  show((aG h s i).set i _).getD j 0=_;rw[ML (by rw[Lp];omega),if_neg (by omega),oE h s hh i j (by omega) (by omega)]
def JH (h:List W32) (w:List C):List W32:=aG h (CG (nG w 16) h 64).2 8
theorem Zz {h:List W32} (hh:h.length=8) (w:List C):(JH h w).length=8:=by unfold JH;rw[Lp];exact hh
theorem q6B (h:List W32) (hh:h.length=8) (w:List C) (hw:w.length=64) (hb:∀c∈w,BO c) (n:C) (hN:100<N) (k:KD R):
  SR N (.agg [.agg (h.map wI),.agg w,n]) k=k [.agg [.agg ((JH h w).map wI),.agg w,n]] []:=by
 rw[zV];unfold fA;simp only[AQ,z4f,AF,AL,EW];have l3:∀K:KD R,Ac N (SQ N K) [.int 0,.agg [.agg (h.map wI),.agg w,n],AI (.arr 16 (.int .u32))] []=K [.agg [.agg (h.map wI),.agg w,n],.agg ((nG w 16).map wI)] []:=fun K=>by
  refine Dd (F:=SQ N K) (fun i=>[.int i,.agg [.agg (h.map wI),.agg w,n],.agg ((nG w i).map wI)]) (fun _=>[]) 16 _ ?_ ?_ (N:=N) (by omega)
  ·intro i hi rec;have e1:(i:Int)<16:=by omega
   have e2:IntKind.i64.wrap (4*(i:Int))=((4*i:Nat):Int):=by rw[wrap_i64 (by omega) (by omega)];omega
   have e3:(64-((4*i:Nat):Int)).toNat=64-4*i:=by omega
   have c1:((4*i:Nat):Int)<=64/\ja 64<=64:=⟨by omega,by decide⟩;have hv:∀k:KD R,Ot N (.slice (cr (64-4*i) (dc (4*i) w))) k=k [wI (Ix ((w.drop (4*i)).take 4))] []:=fun k=>by
    rw[z4T _ (by simp;omega) (fun c hc=>hb c (jm (lr hc))) (by omega),List.take_take];rw[show min 4 (64-4*i)=4 by omega]
   unfold SQ;simp only[AF,AL,AP,AB,DQ,GI,e1,e2,e3,c1,hv,q1v,AE,bu,and_self,bh,BM (show i<4611686018427387904 by omega)];rfl
  ·intro rec;have e:¬((16:Nat):Int)<16:=by decide
   unfold SQ;simp only[AF,AL,AP,AB,e,AE]
 have l2:∀K:KD R,Ac N (Oq N K) [.agg (ksW.map wI),.int 0,.agg [.agg (h.map wI),.agg w,n],.agg ((nG w 16).map wI),.agg (h.map wI)] []=K [.agg [.agg (h.map wI),.agg w,n],.agg ((CG (nG w 16) h 64).2.map wI)] []:=fun K=>by
  refine Dd (F:=Oq N K) (fun i=>[.agg (ksW.map wI),.int i,.agg [.agg (h.map wI),.agg w,n],.agg ((CG (nG w 16) h i).1.map wI),.agg ((CG (nG w 16) h i).2.map wI)]) (fun _=>[]) 64 _ ?_ ?_ (N:=N) (by omega)
  ·intro i hi rec;have hl:=QG (Mi w 16) hh i;exact z3j _ _ _ i hi hl.1 hl.2 hN K rec
  ·intro rec;have e:¬((64:Nat):Int)<64:=by decide
   unfold Oq;simp only[AF,AL,AP,AU,Ab,AB,e,AE]
 have l1:∀s:List W32,s.length=8->∀K:KD R,Ac N (SP N K) [.int 0,.agg [.agg (h.map wI),.agg w,n],.agg (s.map wI)] []=K [.agg [.agg ((aG h s 8).map wI),.agg w,n]] []:=fun s hs K=>by
  refine Dd (F:=SP N K) (fun i=>[.int i,.agg [.agg ((aG h s i).map wI),.agg w,n],.agg (s.map wI)]) (fun _=>[]) 8 _ ?_ ?_ (N:=N) (by omega)
  ·intro i hi rec;have e1:(i:Int)<8:=by omega
   have g1:bc (.agg ((aG h s i).map wI)) i=wI (h.getD i 0):=by rw[HF (by rw[Lp];omega),oE h s hh i i (ca _) (by omega)]
   have g2:bc (.agg (s.map wI)) i=wI (s.getD i 0):=HF (by omega);unfold SP;simp only[AF,AL,AP,AB,e1,EW,HY,g1,g2,Gm,Ym,mF,AE,bu,and_self,bh,BM (show i<4611686018427387904 by omega)];rfl
  ·intro rec;have e:¬((8:Nat):Int)<8:=by decide
   unfold SP;simp only[AF,AL,AP,AB,e,AE]
 rw[l3];simp only[AF,AL,EW];rw[l2];simp only[AF,AL];rw[l1 _ (QG (Mi w 16) hh 64).2];rfl
end
def TU {R:Type} (N:Nat) (k2:KD R):KD R->KD R:=fun k3 d1 m1=>(bif decide (ao (dk d1 3)<ar aw (ar aw (8*ao (dk d1 1))+8))then(if 0<=ao (dk d1 3)/\ao (dk d1 3)<(↑(aq (ya (dk d1 0))):Int)then(jn (fun d2 m2=>(k3 [dk d2 0,dk d2 1,az (ar ay (ar ay (ar ay (ao (dk d2 2)*16)+ao (dk d2 4))-48)),az (ar aw (ao (dk d2 3)+1))] [])) (fun k4=>(bif decide (97<=ar ay (↑(uw (bp (ya (dk d1 0)) (av (ao (dk d1 3))) (nt 0))):Int))then(k4 [dk d1 0,dk d1 1,dk d1 2,dk d1 3,az (ar ay (ar ay (↑(uw (bp (ya (dk d1 0)) (av (ao (dk d1 3))) (nt 0))):Int)-39))] [])else(k4 [dk d1 0,dk d1 1,dk d1 2,dk d1 3,az (ar ay (↑(uw (bp (ya (dk d1 0)) (av (ao (dk d1 3))) (nt 0))):Int))] []))))else none)else(k2 [dk d1 2] []))
def jF (a0 a1:C) (k1:KD R):Option R:=jn (fun d1 m1=>(k1 [dk d1 0] [])) (fun k2=>(Ac N (TU N k2) [a0,a1,az 0,az (ar aw (8*ao a1))] []))
def LR:=lid "" (@jF R N)
theorem J5 {R N a0 a1 k}:@LR R N a0 a1 k=jF N a0 a1 k:=by unfold LR;rw[AV]
def z1m:OvG R:=Ae [.str,.int .i64] (Bq (LR N)) (BD (br ay))
theorem J4:okX 97 (@z1m R N):=Ai AW N [] [(97,[([1,0,1,1],(Af [(5,.d (.int .u64))])),
  ([4,1,0,1,1],(AX [0,1] [(5,.d (.int .u64)),(6,.d (.int .i64))])),
  ([1,0,1,4,0,1,5,4,1,0,1,1],(AX [0,1,5,6] [(7,.d (.int .u64))])),
  ([9],(Af [(4,.d (.int .u64))]))])] (fun _ _=>J5)
def TS {R:Type} (N:Nat) (k2:KD R):KD R->KD R:=fun k3 d3 m3=>(bif decide (ao (dk d3 3)<8)then(if 0<=ao (dk d3 3)/\ao (dk d3 3)<(↑(aq (au (dk d3 0))):Int)then(if 0<=ao (dk d3 3)/\ao (dk d3 3)<(↑(av (ao (dk d3 1))):Int)then(if(av (ao (dk d3 2))+1)*8<=140737488355328/\av (ao (dk d3 2))+1<=9223372036854775807 then(if aq (au (dk d3 4))=aq (au (dk d3 4))then(if av (ao (dk d3 2))+1=aq (cr (av (ao (dk d3 2))) (au (dk d3 5))++[az (bq (ar ay (ao (bp (au (dk d3 0)) (av (ao (dk d3 3))) dw)+ao (bc (dk d3 4) (0+av (ao (dk d3 3)))))) 4294967296)])then(k3 [dk d3 0,az (↑(av (ao (dk d3 1))):Int),az (↑(av (ao (dk d3 2))+1):Int),az (ar aw (ao (dk d3 3)+1)),dk d3 4,dj (cr (av (ao (dk d3 2))) (au (dk d3 5))++[az (bq (ar ay (ao (bp (au (dk d3 0)) (av (ao (dk d3 3))) dw)+ao (bc (dk d3 4) (0+av (ao (dk d3 3)))))) 4294967296)])] [])else none)else none)else none)else none)else none)else(if aq (au (dk d3 5))=aq (au (dk d3 5))then(k2 [az (↑(av (ao (dk d3 2))):Int),dk d3 5] [])else none))
def Pd (k2:KD R):KD R->KD R:=fun k3 d2 m2=>(bif decide (ao (dk d2 4)<64)then(if 0<=bq (ar aw (69-ao (dk d2 4))) 8/\bq (ar aw (69-ao (dk d2 4))) 8<(↑(av (ao (dk d2 2))):Int)then(if 0<=bq (ar aw (70-ao (dk d2 4))) 8/\bq (ar aw (70-ao (dk d2 4))) 8<(↑(av (ao (dk d2 2))):Int)then(if 0<=bq (ar aw (68-ao (dk d2 4))) 8/\bq (ar aw (68-ao (dk d2 4))) 8<(↑(av (ao (dk d2 2))):Int)then(Cd N (bc (dk d2 5) (0+av (bq (ar aw (68-ao (dk d2 4))) 8))) (az 6) (cg true) (fun d3 m3=>(if 0<=bq (ar aw (68-ao (dk d2 4))) 8/\bq (ar aw (68-ao (dk d2 4))) 8<(↑(av (ao (dk d2 2))):Int)then(Cd N (bc (dk d2 5) (0+av (bq (ar aw (68-ao (dk d2 4))) 8))) (az 11) (cg true) (fun d4 m4=>(if 0<=bq (ar aw (68-ao (dk d2 4))) 8/\bq (ar aw (68-ao (dk d2 4))) 8<(↑(av (ao (dk d2 2))):Int)then(Cd N (bc (dk d2 5) (0+av (bq (ar aw (68-ao (dk d2 4))) 8))) (az 25) (cg true) (fun d5 m5=>(if 0<=bq (ar aw (71-ao (dk d2 4))) 8/\bq (ar aw (71-ao (dk d2 4))) 8<(↑(av (ao (dk d2 2))):Int)then(if 0<=bq (ar aw (68-ao (dk d2 4))) 8/\bq (ar aw (68-ao (dk d2 4))) 8<(↑(av (ao (dk d2 2))):Int)then(if 0<=bq (ar aw (68-ao (dk d2 4))) 8/\bq (ar aw (68-ao (dk d2 4))) 8<(↑(av (ao (dk d2 2))):Int)then(LR N (bc (dk d2 1) 1) (dk d2 4) (fun d6 m6=>(if 0<=ao (dk d2 4)/\ao (dk d2 4)<(↑(aq (au (dk d2 3))):Int)then(if 0<=bq (ar aw (65-ao (dk d2 4))) 8/\bq (ar aw (65-ao (dk d2 4))) 8<(↑(av (ao (dk d2 2))):Int)then(if 0<=bq (ar aw (66-ao (dk d2 4))) 8/\bq (ar aw (66-ao (dk d2 4))) 8<(↑(av (ao (dk d2 2))):Int)then(if 0<=bq (ar aw (64-ao (dk d2 4))) 8/\bq (ar aw (64-ao (dk d2 4))) 8<(↑(av (ao (dk d2 2))):Int)then(Cd N (bc (dk d2 5) (0+av (bq (ar aw (64-ao (dk d2 4))) 8))) (az 2) (cg true) (fun d7 m7=>(if 0<=bq (ar aw (64-ao (dk d2 4))) 8/\bq (ar aw (64-ao (dk d2 4))) 8<(↑(av (ao (dk d2 2))):Int)then(Cd N (bc (dk d2 5) (0+av (bq (ar aw (64-ao (dk d2 4))) 8))) (az 13) (cg true) (fun d8 m8=>(if 0<=bq (ar aw (64-ao (dk d2 4))) 8/\bq (ar aw (64-ao (dk d2 4))) 8<(↑(av (ao (dk d2 2))):Int)then(Cd N (bc (dk d2 5) (0+av (bq (ar aw (64-ao (dk d2 4))) 8))) (az 22) (cg true) (fun d9 m9=>(if 0<=bq (ar aw (67-ao (dk d2 4))) 8/\bq (ar aw (67-ao (dk d2 4))) 8<(↑(av (ao (dk d2 2))):Int)then(if 0<=bq (ar aw (67-ao (dk d2 4))) 8/\bq (ar aw (67-ao (dk d2 4))) 8<(↑(av (ao (dk d2 2))):Int)then(if 0<=bq (ar aw (64-ao (dk d2 4))) 8/\bq (ar aw (64-ao (dk d2 4))) 8<(↑(av (ao (dk d2 2))):Int)then(if 0<=bq (ar aw (64-ao (dk d2 4))) 8/\bq (ar aw (64-ao (dk d2 4))) 8<(↑(av (ao (dk d2 2))):Int)then(if 0<=bq (ar aw (71-ao (dk d2 4))) 8/\bq (ar aw (71-ao (dk d2 4))) 8<(↑(av (ao (dk d2 2))):Int)then(bif bo (aq (au (dk d2 3))) (aq (au (dk d2 3)))then(if aq (au (dk d2 5))=aq (au (db (db (dk d2 5) (0+av (bq (ar aw (67-ao (dk d2 4))) 8)) (az (bq (ar ay (ao (bc (dk d2 5) (0+av (bq (ar aw (67-ao (dk d2 4))) 8)))+ar ay (ar ay (ar ay (ar ay (ao (bc (dk d2 5) (0+av (bq (ar aw (71-ao (dk d2 4))) 8)))+Aj ep ay (Aj ep ay (ao (dk d3 0)) (ao (dk d4 0))) (ao (dk d5 0)))+ar ay (Aj dr ay (ao (bc (dk d2 5) (0+av (bq (ar aw (68-ao (dk d2 4))) 8)))) (ao (bc (dk d2 5) (0+av (bq (ar aw (69-ao (dk d2 4))) 8))))+Aj dr ay (ar ay (4294967295-ao (bc (dk d2 5) (0+av (bq (ar aw (68-ao (dk d2 4))) 8))))) (ao (bc (dk d2 5) (0+av (bq (ar aw (70-ao (dk d2 4))) 8))))))+ao (dk d6 0))+ao (bp (au (dk d2 3)) (av (ao (dk d2 4))) dw)))) 4294967296))) (0+av (bq (ar aw (71-ao (dk d2 4))) 8)) (az (bq (ar ay (ar ay (ar ay (ar ay (ar ay (ar ay (ao (bc (dk d2 5) (0+av (bq (ar aw (71-ao (dk d2 4))) 8)))+Aj ep ay (Aj ep ay (ao (dk d3 0)) (ao (dk d4 0))) (ao (dk d5 0)))+ar ay (Aj dr ay (ao (bc (dk d2 5) (0+av (bq (ar aw (68-ao (dk d2 4))) 8)))) (ao (bc (dk d2 5) (0+av (bq (ar aw (69-ao (dk d2 4))) 8))))+Aj dr ay (ar ay (4294967295-ao (bc (dk d2 5) (0+av (bq (ar aw (68-ao (dk d2 4))) 8))))) (ao (bc (dk d2 5) (0+av (bq (ar aw (70-ao (dk d2 4))) 8))))))+ao (dk d6 0))+ao (bp (au (dk d2 3)) (av (ao (dk d2 4))) dw))+Aj ep ay (Aj ep ay (ao (dk d7 0)) (ao (dk d8 0))) (ao (dk d9 0)))+Aj ep ay (Aj ep ay (Aj dr ay (ao (bc (db (dk d2 5) (0+av (bq (ar aw (67-ao (dk d2 4))) 8)) (az (bq (ar ay (ao (bc (dk d2 5) (0+av (bq (ar aw (67-ao (dk d2 4))) 8)))+ar ay (ar ay (ar ay (ar ay (ao (bc (dk d2 5) (0+av (bq (ar aw (71-ao (dk d2 4))) 8)))+Aj ep ay (Aj ep ay (ao (dk d3 0)) (ao (dk d4 0))) (ao (dk d5 0)))+ar ay (Aj dr ay (ao (bc (dk d2 5) (0+av (bq (ar aw (68-ao (dk d2 4))) 8)))) (ao (bc (dk d2 5) (0+av (bq (ar aw (69-ao (dk d2 4))) 8))))+Aj dr ay (ar ay (4294967295-ao (bc (dk d2 5) (0+av (bq (ar aw (68-ao (dk d2 4))) 8))))) (ao (bc (dk d2 5) (0+av (bq (ar aw (70-ao (dk d2 4))) 8))))))+ao (dk d6 0))+ao (bp (au (dk d2 3)) (av (ao (dk d2 4))) dw)))) 4294967296))) (0+av (bq (ar aw (64-ao (dk d2 4))) 8)))) (ao (bc (dk d2 5) (0+av (bq (ar aw (65-ao (dk d2 4))) 8))))) (Aj dr ay (ao (bc (db (dk d2 5) (0+av (bq (ar aw (67-ao (dk d2 4))) 8)) (az (bq (ar ay (ao (bc (dk d2 5) (0+av (bq (ar aw (67-ao (dk d2 4))) 8)))+ar ay (ar ay (ar ay (ar ay (ao (bc (dk d2 5) (0+av (bq (ar aw (71-ao (dk d2 4))) 8)))+Aj ep ay (Aj ep ay (ao (dk d3 0)) (ao (dk d4 0))) (ao (dk d5 0)))+ar ay (Aj dr ay (ao (bc (dk d2 5) (0+av (bq (ar aw (68-ao (dk d2 4))) 8)))) (ao (bc (dk d2 5) (0+av (bq (ar aw (69-ao (dk d2 4))) 8))))+Aj dr ay (ar ay (4294967295-ao (bc (dk d2 5) (0+av (bq (ar aw (68-ao (dk d2 4))) 8))))) (ao (bc (dk d2 5) (0+av (bq (ar aw (70-ao (dk d2 4))) 8))))))+ao (dk d6 0))+ao (bp (au (dk d2 3)) (av (ao (dk d2 4))) dw)))) 4294967296))) (0+av (bq (ar aw (64-ao (dk d2 4))) 8)))) (ao (bc (dk d2 5) (0+av (bq (ar aw (66-ao (dk d2 4))) 8)))))) (Aj dr ay (ao (bc (dk d2 5) (0+av (bq (ar aw (65-ao (dk d2 4))) 8)))) (ao (bc (dk d2 5) (0+av (bq (ar aw (66-ao (dk d2 4))) 8))))))) 4294967296))))then(k3 [dk d2 0,dk d2 1,az (↑(av (ao (dk d2 2))):Int),bj (au (dk d2 3)),az (ar aw (ao (dk d2 4)+1)),db (db (dk d2 5) (0+av (bq (ar aw (67-ao (dk d2 4))) 8)) (az (bq (ar ay (ao (bc (dk d2 5) (0+av (bq (ar aw (67-ao (dk d2 4))) 8)))+ar ay (ar ay (ar ay (ar ay (ao (bc (dk d2 5) (0+av (bq (ar aw (71-ao (dk d2 4))) 8)))+Aj ep ay (Aj ep ay (ao (dk d3 0)) (ao (dk d4 0))) (ao (dk d5 0)))+ar ay (Aj dr ay (ao (bc (dk d2 5) (0+av (bq (ar aw (68-ao (dk d2 4))) 8)))) (ao (bc (dk d2 5) (0+av (bq (ar aw (69-ao (dk d2 4))) 8))))+Aj dr ay (ar ay (4294967295-ao (bc (dk d2 5) (0+av (bq (ar aw (68-ao (dk d2 4))) 8))))) (ao (bc (dk d2 5) (0+av (bq (ar aw (70-ao (dk d2 4))) 8))))))+ao (dk d6 0))+ao (bp (au (dk d2 3)) (av (ao (dk d2 4))) dw)))) 4294967296))) (0+av (bq (ar aw (71-ao (dk d2 4))) 8)) (az (bq (ar ay (ar ay (ar ay (ar ay (ar ay (ar ay (ao (bc (dk d2 5) (0+av (bq (ar aw (71-ao (dk d2 4))) 8)))+Aj ep ay (Aj ep ay (ao (dk d3 0)) (ao (dk d4 0))) (ao (dk d5 0)))+ar ay (Aj dr ay (ao (bc (dk d2 5) (0+av (bq (ar aw (68-ao (dk d2 4))) 8)))) (ao (bc (dk d2 5) (0+av (bq (ar aw (69-ao (dk d2 4))) 8))))+Aj dr ay (ar ay (4294967295-ao (bc (dk d2 5) (0+av (bq (ar aw (68-ao (dk d2 4))) 8))))) (ao (bc (dk d2 5) (0+av (bq (ar aw (70-ao (dk d2 4))) 8))))))+ao (dk d6 0))+ao (bp (au (dk d2 3)) (av (ao (dk d2 4))) dw))+Aj ep ay (Aj ep ay (ao (dk d7 0)) (ao (dk d8 0))) (ao (dk d9 0)))+Aj ep ay (Aj ep ay (Aj dr ay (ao (bc (db (dk d2 5) (0+av (bq (ar aw (67-ao (dk d2 4))) 8)) (az (bq (ar ay (ao (bc (dk d2 5) (0+av (bq (ar aw (67-ao (dk d2 4))) 8)))+ar ay (ar ay (ar ay (ar ay (ao (bc (dk d2 5) (0+av (bq (ar aw (71-ao (dk d2 4))) 8)))+Aj ep ay (Aj ep ay (ao (dk d3 0)) (ao (dk d4 0))) (ao (dk d5 0)))+ar ay (Aj dr ay (ao (bc (dk d2 5) (0+av (bq (ar aw (68-ao (dk d2 4))) 8)))) (ao (bc (dk d2 5) (0+av (bq (ar aw (69-ao (dk d2 4))) 8))))+Aj dr ay (ar ay (4294967295-ao (bc (dk d2 5) (0+av (bq (ar aw (68-ao (dk d2 4))) 8))))) (ao (bc (dk d2 5) (0+av (bq (ar aw (70-ao (dk d2 4))) 8))))))+ao (dk d6 0))+ao (bp (au (dk d2 3)) (av (ao (dk d2 4))) dw)))) 4294967296))) (0+av (bq (ar aw (64-ao (dk d2 4))) 8)))) (ao (bc (dk d2 5) (0+av (bq (ar aw (65-ao (dk d2 4))) 8))))) (Aj dr ay (ao (bc (db (dk d2 5) (0+av (bq (ar aw (67-ao (dk d2 4))) 8)) (az (bq (ar ay (ao (bc (dk d2 5) (0+av (bq (ar aw (67-ao (dk d2 4))) 8)))+ar ay (ar ay (ar ay (ar ay (ao (bc (dk d2 5) (0+av (bq (ar aw (71-ao (dk d2 4))) 8)))+Aj ep ay (Aj ep ay (ao (dk d3 0)) (ao (dk d4 0))) (ao (dk d5 0)))+ar ay (Aj dr ay (ao (bc (dk d2 5) (0+av (bq (ar aw (68-ao (dk d2 4))) 8)))) (ao (bc (dk d2 5) (0+av (bq (ar aw (69-ao (dk d2 4))) 8))))+Aj dr ay (ar ay (4294967295-ao (bc (dk d2 5) (0+av (bq (ar aw (68-ao (dk d2 4))) 8))))) (ao (bc (dk d2 5) (0+av (bq (ar aw (70-ao (dk d2 4))) 8))))))+ao (dk d6 0))+ao (bp (au (dk d2 3)) (av (ao (dk d2 4))) dw)))) 4294967296))) (0+av (bq (ar aw (64-ao (dk d2 4))) 8)))) (ao (bc (dk d2 5) (0+av (bq (ar aw (66-ao (dk d2 4))) 8)))))) (Aj dr ay (ao (bc (dk d2 5) (0+av (bq (ar aw (65-ao (dk d2 4))) 8)))) (ao (bc (dk d2 5) (0+av (bq (ar aw (66-ao (dk d2 4))) 8))))))) 4294967296))] [])else none)else none)else none)else none)else none)else none)else none)))else none)))else none)))else none)else none)else none)else none)))else none)else none)else none)))else none)))else none)))else none)else none)else none)else(if aq (au (dk d2 5))=aq (au (dk d2 5))then(k2 [dk d2 0,az (↑(av (ao (dk d2 2))):Int),dk d2 5] [])else none))
def Pe (k2:KD R):KD R->KD R:=fun k3 d1 m1=>(bif decide (ao (dk d1 4)<64)then(jn (fun d2 m2=>(bif bo (aq (au (dk d2 4))) (aq (au (dk d2 4)))then(k3 [dk d2 0,dk d2 1,dk d2 2,bj (au (dk d2 4)),az (ar aw (ao (dk d2 3)+1))] [])else none)) (fun k4=>(bif decide (ao (dk d1 4)<16)then(if 0<=ar aw (4*ao (dk d1 4))/\ar aw (4*ao (dk d1 4))<(↑(aq (au (dk d1 1))):Int)then(if 0<=ar aw (ar aw (4*ao (dk d1 4))+1)/\ar aw (ar aw (4*ao (dk d1 4))+1)<(↑(aq (au (dk d1 1))):Int)then(if 0<=ar aw (ar aw (4*ao (dk d1 4))+2)/\ar aw (ar aw (4*ao (dk d1 4))+2)<(↑(aq (au (dk d1 1))):Int)then(if 0<=ar aw (ar aw (4*ao (dk d1 4))+3)/\ar aw (ar aw (4*ao (dk d1 4))+3)<(↑(aq (au (dk d1 1))):Int)then(bif bo (aq (au (dk d1 3))) (aq (au (dk d1 3)))then(if(aq (au (dk d1 3))+1)*8<=140737488355328/\aq (au (dk d1 3))+1<=9223372036854775807 then(bif bo (aq (au (dk d1 3))+1) (aq (au (dk d1 3)++[az (ar ay (ar ay (ar ay (ar ay (ar ay (ar ay (ar ay (ao (bp (au (dk d1 1)) (av (ar aw (4*ao (dk d1 4)))) dw))*256)+ar ay (ao (bp (au (dk d1 1)) (av (ar aw (ar aw (4*ao (dk d1 4))+1))) dw)))*256)+ar ay (ao (bp (au (dk d1 1)) (av (ar aw (ar aw (4*ao (dk d1 4))+2))) dw)))*256)+ar ay (ao (bp (au (dk d1 1)) (av (ar aw (ar aw (4*ao (dk d1 4))+3))) dw))))]))then(k4 [dk d1 0,dk d1 1,dk d1 2,dk d1 4,bj (au (dk d1 3)++[az (ar ay (ar ay (ar ay (ar ay (ar ay (ar ay (ar ay (ao (bp (au (dk d1 1)) (av (ar aw (4*ao (dk d1 4)))) dw))*256)+ar ay (ao (bp (au (dk d1 1)) (av (ar aw (ar aw (4*ao (dk d1 4))+1))) dw)))*256)+ar ay (ao (bp (au (dk d1 1)) (av (ar aw (ar aw (4*ao (dk d1 4))+2))) dw)))*256)+ar ay (ao (bp (au (dk d1 1)) (av (ar aw (ar aw (4*ao (dk d1 4))+3))) dw))))])] [])else none)else none)else none)else none)else none)else none)else none)else(if 0<=ar aw (ao (dk d1 4)-15)/\ar aw (ao (dk d1 4)-15)<(↑(aq (au (dk d1 3))):Int)then(if 0<=ar aw (ao (dk d1 4)-2)/\ar aw (ao (dk d1 4)-2)<(↑(aq (au (dk d1 3))):Int)then(Cd N (bp (au (dk d1 3)) (av (ar aw (ao (dk d1 4)-15))) dw) (az 7) (cg true) (fun d2 m2=>(Cd N (bp (au (dk d1 3)) (av (ar aw (ao (dk d1 4)-15))) dw) (az 18) (cg true) (fun d3 m3=>(Cd N (bp (au (dk d1 3)) (av (ar aw (ao (dk d1 4)-15))) dw) (az 3) (cg false) (fun d4 m4=>(Cd N (bp (au (dk d1 3)) (av (ar aw (ao (dk d1 4)-2))) dw) (az 17) (cg true) (fun d5 m5=>(Cd N (bp (au (dk d1 3)) (av (ar aw (ao (dk d1 4)-2))) dw) (az 19) (cg true) (fun d6 m6=>(Cd N (bp (au (dk d1 3)) (av (ar aw (ao (dk d1 4)-2))) dw) (az 10) (cg false) (fun d7 m7=>(if 0<=ar aw (ao (dk d1 4)-16)/\ar aw (ao (dk d1 4)-16)<(↑(aq (au (dk d1 3))):Int)then(if 0<=ar aw (ao (dk d1 4)-7)/\ar aw (ao (dk d1 4)-7)<(↑(aq (au (dk d1 3))):Int)then(bif bo (aq (au (dk d1 3))) (aq (au (dk d1 3)))then(if(aq (au (dk d1 3))+1)*8<=140737488355328/\aq (au (dk d1 3))+1<=9223372036854775807 then(bif bo (aq (au (dk d1 3))+1) (aq (au (dk d1 3)++[az (bq (ar ay (ar ay (ar ay (ao (bp (au (dk d1 3)) (av (ar aw (ao (dk d1 4)-16))) dw)+Aj ep ay (Aj ep ay (ao (dk d2 0)) (ao (dk d3 0))) (ao (dk d4 0)))+ao (bp (au (dk d1 3)) (av (ar aw (ao (dk d1 4)-7))) dw))+Aj ep ay (Aj ep ay (ao (dk d5 0)) (ao (dk d6 0))) (ao (dk d7 0)))) 4294967296)]))then(k4 [dk d1 0,dk d1 1,dk d1 2,dk d1 4,bj (au (dk d1 3)++[az (bq (ar ay (ar ay (ar ay (ao (bp (au (dk d1 3)) (av (ar aw (ao (dk d1 4)-16))) dw)+Aj ep ay (Aj ep ay (ao (dk d2 0)) (ao (dk d3 0))) (ao (dk d4 0)))+ao (bp (au (dk d1 3)) (av (ar aw (ao (dk d1 4)-7))) dw))+Aj ep ay (Aj ep ay (ao (dk d5 0)) (ao (dk d6 0))) (ao (dk d7 0)))) 4294967296)])] [])else none)else none)else none)else none)else none)))))))))))))else none)else none))))else(bif bo (aq (au (dk d1 3))) (aq (au (dk d1 3)))then(k2 [dk d1 0,dk d1 2,bj (au (dk d1 3))] [])else none))
def jD (a0 a1 a2:C) (k1:KD R):Option R:=jn (fun d1 m1=>(if List.isEmpty (au (dk d1 0))=false then(jn (fun d2 m2=>(jn (fun d3 m3=>(if aq (au (dk d3 1))=aq (au (dk d3 1))then(k1 [az (↑(av (ao (dk d3 0))):Int),dk d3 1] [])else none)) (fun k2=>(if aq (au (dk d2 2))=aq (au (dk d2 2))then(Ac N (TS N k2) [dk d2 0,az (↑(av (ao (dk d2 1))):Int),az 0,az 0,dk d2 2,dj []] [])else none)))) (fun k2=>(bif bo (aq (au (dk d1 2))) (aq (au (dk d1 2)))then(if aq (au (dk d1 0))=aq (au (dk d1 0))then(Ac N (Pd N k2) [dk d1 0,dk d1 1,az (↑(aq (au (dk d1 0))):Int),bj (au (dk d1 2)),az 0,dj (au (dk d1 0))] [])else none)else none)))else none)) (fun k2=>(Ac N (Pe N k2) [a1,a2,a0,bj [],az 0] []))
def Pf:=lid "" (@jD R N)
theorem J1 {R N a0 a1 a2 k}:@Pf R N a0 a1 a2 k=jD N a0 a1 a2 k:=by unfold Pf;rw[AV]
def z1j:OvG R:=Ae [Bo,.slice 8 (.int .u64),.slice 1 (.int .u8)] (Eb (Pf N)) fun a K d1 m1=>K (V.sr (Key.l 1) [] 0 (av (ao (dk d1 0))) none 8 (br ay)) [(Key.l 1,O.box (V.d (ct (aq (au (dk d1 1))) (br ay)) (dk d1 1)))]
theorem z1k:okX 98 (@z1j R N):=Ai (AH (J4 N) <| AH (z1o N) <| AW) N [(98,[(0,[(3,5)]),(12,[(115,3)]),(18,[(148,7),(153,7),(159,7)]),(19,[(185,7)]),(21,[(208,7),(213,7),(219,7)])])] [(98,[([1,0,1,1],⟨[1,3],[(7,.sl 8 (.int .u64) 5007)],[],[],[],[(.int .u64)]⟩),
  ([4,1,0,1,1],⟨[1,2,3],[(7,.sl 8 (.int .u64) 5007),(8,.d (.int .i64))],[],[],[],[(.int .u64)]⟩),
  ([0,1,5,4,1,0,1,1],⟨[1,2,3,8],[(7,.sl 8 (.int .u64) 5007)],[],[],[],[(.int .u64)]⟩),
  ([1,0,1,1,1,1,1],⟨[1,11],[],[],[],[],[(.int .u64)]⟩),
  ([4,1,0,1,1,1,1,1],⟨[1,3,11],[(7,.sl 8 (.int .u64) 5007),(12,.d (.int .i64))],[],[],[],[(.int .u64)]⟩),
  ([1,0,1,1,1,1,1,1,1],⟨[],[(24,.vec (.l 1000000000195) 8 (.int .u64))],[],[],[],[(.int .u64)]⟩),
  ([4,1,0,1,1,1,1,1,1,1],⟨[1,11],[(24,.vec (.l 1000000000195) 8 (.int .u64)),(25,.d (.int .i64))],[],[],[],[(.int .u64)]⟩),
  ([9],⟨[],[(6,.vec (.l 1) 8 (.int .u64))],[],[(.l 1,.box (.arr (.int .u64)))],[],[(.int .u64)]⟩)])] (fun _ _=>J1)
def TP {R:Type} (N:Nat) (k2:KD R):KD R->KD R:=fun k3 d5 m5=>(bif decide (0<=ao (dk d5 1))then(if 0<=ar aw (dz (ao (dk d5 1)) 4)/\ar aw (dz (ao (dk d5 1)) 4)<(↑(av (ao (dk d5 0))):Int)then(if 0<=ao (dk d5 1)/\ao (dk d5 1)<32 then(if 0<=ar aw (dz (ao (dk d5 1)) 4)/\ar aw (dz (ao (dk d5 1)) 4)<(↑(av (ao (dk d5 0))):Int)then(if 0<=ar aw (dz (ao (dk d5 1)) 4)/\ar aw (dz (ao (dk d5 1)) 4)<(↑(av (ao (dk d5 0))):Int)then(if aq (au (dk d5 4))=aq (au (db (dk d5 4) (0+av (ar aw (dz (ao (dk d5 1)) 4))) (az (ar ay (dz (ao (bc (dk d5 4) (0+av (ar aw (dz (ao (dk d5 1)) 4))))) 256)))))then(k3 [az (↑(av (ao (dk d5 0))):Int),az (ar aw (ao (dk d5 1)-1)),dk d5 2,db (dk d5 3) (av (ao (dk d5 1))) (az (ar bt (bq (ao (bc (dk d5 4) (0+av (ar aw (dz (ao (dk d5 1)) 4))))) 256))),db (dk d5 4) (0+av (ar aw (dz (ao (dk d5 1)) 4))) (az (ar ay (dz (ao (bc (dk d5 4) (0+av (ar aw (dz (ao (dk d5 1)) 4))))) 256)))] [])else none)else none)else none)else none)else none)else(k2 [dk d5 2,dk d5 3] []))
def Xg (k2:KD R):KD R->KD R:=fun k3 d4 m4=>(bif decide (0<(↑(aq (au (dk d4 1))):Int))then(if ja 0<=0/\ja 0<=64/\64<=(↑(aq (au (dk d4 1))):Int)then(Pf N (dk d4 0) (bj (cr (av (ao (dk d4 2))) (dc 0 (au (dk d4 4))))) (bj (cut (au (dk d4 1)) 0 64)) (fun d5 m5=>(if ja 0<=64/\64<=(↑(aq (au (dk d4 1))):Int)/\(↑(aq (au (dk d4 1))):Int)<=(↑(aq (au (dk d4 1))):Int)then(if aq (au (dk d5 1))=aq (au (dk d5 1))then(k3 [dk d4 0,bj (cut (au (dk d4 1)) 64 (↑(aq (au (dk d4 1))):Int)),az (↑(av (ao (dk d5 0))):Int),dk d4 3,dk d5 1] [])else none)else none)))else none)else(if aq (au (dk d4 4))=aq (au (dk d4 4))then(k2 [az (↑(av (ao (dk d4 2))):Int),dk d4 3,dk d4 4] [])else none))
def TQ (k2:KD R):KD R->KD R:=fun k3 d3 m3=>(bif decide (ao (dk d3 3)<8)then(LR N (bc (dk d3 0) 0) (dk d3 3) (fun d4 m4=>(if 0<=ao (dk d3 3)/\ao (dk d3 3)<(↑(av (ao (dk d3 2))):Int)then(bif bo (aq (au (dk d3 1))) (aq (au (dk d3 1)))then(if aq (au (dk d3 5))=aq (au (db (dk d3 5) (0+av (ao (dk d3 3))) (dk d4 0)))then(k3 [dk d3 0,bj (au (dk d3 1)),az (↑(av (ao (dk d3 2))):Int),az (ar aw (ao (dk d3 3)+1)),dk d3 4,db (dk d3 5) (0+av (ao (dk d3 3))) (dk d4 0)] [])else none)else none)else none)))else(bif bo (aq (au (dk d3 1))) (aq (au (dk d3 1)))then(if aq (au (dk d3 5))=aq (au (dk d3 5))then(k2 [dk d3 0,bj (au (dk d3 1)),az (↑(av (ao (dk d3 2))):Int),dk d3 4,dk d3 5] [])else none)else none))
def Pc {R:Type} (N:Nat) (k2:KD R):KD R->KD R:=fun k3 d2 m2=>(bif decide (0<=ao (dk d2 6))then(if 0<=ao (dk d2 6)/\ao (dk d2 6)<(↑(av (ao (dk d2 2))):Int)then(bif bo (aq (au (dk d2 4))) (aq (au (dk d2 4)))then(k3 [dk d2 0,az (↑(av (ao (dk d2 1))):Int),az (↑(av (ao (dk d2 2))):Int),az (↑(av (ao (dk d2 3))):Int),bj (au (dk d2 4)),az (ar ay (dz (ao (dk d2 5)) 256)),az (ar aw (ao (dk d2 6)-1)),dk d2 7,db (dk d2 8) (av (ao (dk d2 1))+av (ao (dk d2 6))) (az (ar bt (bq (ao (dk d2 5)) 256)))] [])else none)else none)else(bif bo (aq (au (dk d2 4))) (aq (au (dk d2 4)))then(k2 [dk d2 0,az (↑(av (ao (dk d2 1))):Int),az (↑(av (ao (dk d2 2))):Int),az (↑(av (ao (dk d2 3))):Int),bj (au (dk d2 4)),dk d2 7,dk d2 8] [])else none))
def TR {R:Type} (N:Nat) (k2:KD R):KD R->KD R:=fun k3 d1 m1=>(bif !decide (bq (↑(aq (au (dk d1 2))):Int) 64=56)then(bif bo (aq (au (dk d1 2))) (aq (au (dk d1 2)))then(if(aq (au (dk d1 2))+1)*1<=140737488355328/\aq (au (dk d1 2))+1<=9223372036854775807 then(bif bo (aq (au (dk d1 2))+1) (aq (au (dk d1 2)++[az 0]))then(k3 [dk d1 0,dk d1 1,bj (au (dk d1 2)++[az 0]),dk d1 3] [])else none)else none)else none)else(bif bo (aq (au (dk d1 2))) (aq (au (dk d1 2)))then(k2 [dk d1 0,dk d1 1,bj (au (dk d1 2)),dk d1 3] [])else none))
def jC (a0 a1:C) (k1:KD R):Option R:=bif bo (aq (au a1)) (aq (au a1))then(if(aq (au a1)+1)*1<=140737488355328/\aq (au a1)+1<=9223372036854775807 then(jn (fun d1 m1=>(jn (fun d2 m2=>(bif bo (aq (au (dk d2 4))) (aq (au (dk d2 4)))then(if(aq (au (dk d2 4))+aq (cr (av (ao (dk d2 2))) (dc (av (ao (dk d2 1))) (au (dk d2 6)))))*1<=140737488355328/\aq (au (dk d2 4))+aq (cr (av (ao (dk d2 2))) (dc (av (ao (dk d2 1))) (au (dk d2 6))))<=9223372036854775807 then(jn (fun d3 m3=>(jn (fun d4 m4=>(jn (fun d5 m5=>(k1 [dk d5 1] [])) (fun k2=>(if aq (au (dk d4 2))=aq (au (dk d4 2))then(Ac N (TP N k2) [az (↑(av (ao (dk d4 0))):Int),az 31,dk d4 1,AI (ct 32 (br bt)),dk d4 2] [])else none)))) (fun k2=>(if aq (au (dk d3 4))=aq (au (dk d3 4))then(Ac N (Xg N k2) [dk d3 0,bj (au (dk d3 1)),az (↑(av (ao (dk d3 2))):Int),dk d3 3,dk d3 4] [])else none)))) (fun k2=>(bif bo (aq (au (dk d2 4))+aq (cr (av (ao (dk d2 2))) (dc (av (ao (dk d2 1))) (au (dk d2 6))))) (aq (au (dk d2 4)++cr (av (ao (dk d2 2))) (dc (av (ao (dk d2 1))) (au (dk d2 6)))))then(Ac N (TQ N k2) [dk d2 0,bj (au (dk d2 4)++cr (av (ao (dk d2 2))) (dc (av (ao (dk d2 1))) (au (dk d2 6)))),az (↑(av 8):Int),az 0,dk d2 5,dj (bf 8 (AI (br ay)))] [])else none)))else none)else none)) (fun k2=>(bif bo (aq (au (dk d1 2))) (aq (au (dk d1 2)))then(Ac N (Pc N k2) [dk d1 1,az 0,az (↑(av 8):Int),az (↑(av 8):Int),bj (au (dk d1 2)),az (ar ay (ar ay (↑(aq (au (dk d1 0))):Int)*8)),az 7,dk d1 3,dj (bf 8 (AI (br bt)))] [])else none)))) (fun k2=>(bif bo (aq (au a1)+1) (aq (au a1++[az 128]))then(Ac N (TR N k2) [a1,a0,bj (au a1++[az 128]),AI (ct 32 (br bt))] [])else none)))else none)else none
def LQ:=lid "" (@jC R N)
theorem J0 {R N a0 a1 k}:@LQ R N a0 a1 k=jC N a0 a1 k:=by unfold LQ;rw[AV]
def z1i:OvG R:=Ae [Bo,.slice 1 (.int .u8)] (Bq (LQ N)) (BD (ct 32 (br bt)))
theorem U9:okX 71 (@z1i R N):=Ai (AH (J4 N) <| AH (z1k N) <| AW) N [(71,[(0,[(2,5)]),(13,[(45,9)]),(19,[(1000009,17)])])] [(71,[([0,1,1,1],⟨[1,2,4],[(5,.sl 1 (.int .u8) 5005)],[],[],[],[(.int .u64)]⟩),
  ([4,0,1,1,1],⟨[1,2,4],[(5,.sl 1 (.int .u8) 5005)],[],[],[],[(.int .u64)]⟩),
  ([1,0,1,1,1,1,1,1],⟨[2,4,7],[(5,.sl 1 (.int .u8) 5005)],[],[],[],[(.int .u64)]⟩),
  ([4,1,0,1,1,1,1,1,1],⟨[2,4,7],[(5,.sl 1 (.int .u8) 5005),(6,.d (.int .u64)),(8,.d (.int .i64))],[],[],[],[(.int .u64)]⟩),
  ([1,0,1,1,1,1,1,1,1,1,1],⟨[2,4],[(5,.sl 1 (.int .u8) 5005),(9,.vec (.l 1000000000075) 8 (.int .u64))],[],[],[],[(.int .u64)]⟩),
  ([4,1,0,1,1,1,1,1,1,1,1,1],⟨[2,4],[(5,.sl 1 (.int .u8) 5005),(9,.vec (.l 1000000000075) 8 (.int .u64)),(10,.d (.int .i64))],[],[],[],[(.int .u64)]⟩),
  ([0,1,1,1,1,1,1,1,1,1,1],⟨[4],[(9,.vec (.l 1000000000075) 8 (.int .u64))],[],[],[],[(.int .u64)]⟩),
  ([1,0,1,1,1,1,1,1,1,1,1,1,1,1],⟨[4,11],[],[],[],[],[(.int .u64)]⟩),
  ([4,1,0,1,1,1,1,1,1,1,1,1,1,1,1],⟨[4,11],[(9,.vec (.l 1000000000075) 8 (.int .u64)),(12,.d (.int .i64))],[],[],[],[(.int .u64)]⟩),
  ([9],⟨[],[(4,.as (.ptr (.l 4) [] (.arr 32 (.int .u8))))],[],[(.l 4,.box (.d (.arr 32 (.int .u8))))],[],[(.int .u64)]⟩),
  ([4,0,1,1,1,1,1,1,1,1,1,1],⟨[2,4],[(5,.d (.slice 1 (.int .u8))),(9,.vec (.l 1000000000075) 8 (.int .u64))],[],[],[],[(.int .u64)]⟩)])] (fun _ _=>J0)
def TT {R:Type} (N:Nat) (k2:KD R):KD R->KD R:=fun k3 d1 m1=>(bif decide (ao (dk d1 2)<(↑(aq (au (dk d1 0))):Int))then(if 0<=ao (dk d1 2)/\ao (dk d1 2)<(↑(aq (au (dk d1 0))):Int)then(bif bo (aq (au (dk d1 1))) (aq (au (dk d1 1)))then(if(aq (au (dk d1 1))+4)*1<=140737488355328/\aq (au (dk d1 1))+4<=9223372036854775807 then(if 0<=ao (dk d1 2)/\ao (dk d1 2)<(↑(aq (au (dk d1 0))):Int)then(bif bo (aq (au (dk d1 1))+4) (aq (au (dk d1 1)++[az (ar bt (ar aw (dz (↑(aq (au (bp (au (dk d1 0)) (av (ao (dk d1 2))) dw))):Int) 16777216))),az (ar bt (ar aw (dz (↑(aq (au (bp (au (dk d1 0)) (av (ao (dk d1 2))) dw))):Int) 65536))),az (ar bt (ar aw (dz (↑(aq (au (bp (au (dk d1 0)) (av (ao (dk d1 2))) dw))):Int) 256))),az (ar bt (↑(aq (au (bp (au (dk d1 0)) (av (ao (dk d1 2))) dw))):Int))]))then(if(aq (au (dk d1 1)++[az (ar bt (ar aw (dz (↑(aq (au (bp (au (dk d1 0)) (av (ao (dk d1 2))) dw))):Int) 16777216))),az (ar bt (ar aw (dz (↑(aq (au (bp (au (dk d1 0)) (av (ao (dk d1 2))) dw))):Int) 65536))),az (ar bt (ar aw (dz (↑(aq (au (bp (au (dk d1 0)) (av (ao (dk d1 2))) dw))):Int) 256))),az (ar bt (↑(aq (au (bp (au (dk d1 0)) (av (ao (dk d1 2))) dw))):Int))])+aq (au (bp (au (dk d1 0)) (av (ao (dk d1 2))) dw)))*1<=140737488355328/\aq (au (dk d1 1)++[az (ar bt (ar aw (dz (↑(aq (au (bp (au (dk d1 0)) (av (ao (dk d1 2))) dw))):Int) 16777216))),az (ar bt (ar aw (dz (↑(aq (au (bp (au (dk d1 0)) (av (ao (dk d1 2))) dw))):Int) 65536))),az (ar bt (ar aw (dz (↑(aq (au (bp (au (dk d1 0)) (av (ao (dk d1 2))) dw))):Int) 256))),az (ar bt (↑(aq (au (bp (au (dk d1 0)) (av (ao (dk d1 2))) dw))):Int))])+aq (au (bp (au (dk d1 0)) (av (ao (dk d1 2))) dw))<=9223372036854775807 then(bif bo (aq (au (dk d1 1)++[az (ar bt (ar aw (dz (↑(aq (au (bp (au (dk d1 0)) (av (ao (dk d1 2))) dw))):Int) 16777216))),az (ar bt (ar aw (dz (↑(aq (au (bp (au (dk d1 0)) (av (ao (dk d1 2))) dw))):Int) 65536))),az (ar bt (ar aw (dz (↑(aq (au (bp (au (dk d1 0)) (av (ao (dk d1 2))) dw))):Int) 256))),az (ar bt (↑(aq (au (bp (au (dk d1 0)) (av (ao (dk d1 2))) dw))):Int))])+aq (au (bp (au (dk d1 0)) (av (ao (dk d1 2))) dw))) (aq (au (dk d1 1)++[az (ar bt (ar aw (dz (↑(aq (au (bp (au (dk d1 0)) (av (ao (dk d1 2))) dw))):Int) 16777216))),az (ar bt (ar aw (dz (↑(aq (au (bp (au (dk d1 0)) (av (ao (dk d1 2))) dw))):Int) 65536))),az (ar bt (ar aw (dz (↑(aq (au (bp (au (dk d1 0)) (av (ao (dk d1 2))) dw))):Int) 256))),az (ar bt (↑(aq (au (bp (au (dk d1 0)) (av (ao (dk d1 2))) dw))):Int))]++au (bp (au (dk d1 0)) (av (ao (dk d1 2))) dw)))then(k3 [dk d1 0,bj (au (dk d1 1)++[az (ar bt (ar aw (dz (↑(aq (au (bp (au (dk d1 0)) (av (ao (dk d1 2))) dw))):Int) 16777216))),az (ar bt (ar aw (dz (↑(aq (au (bp (au (dk d1 0)) (av (ao (dk d1 2))) dw))):Int) 65536))),az (ar bt (ar aw (dz (↑(aq (au (bp (au (dk d1 0)) (av (ao (dk d1 2))) dw))):Int) 256))),az (ar bt (↑(aq (au (bp (au (dk d1 0)) (av (ao (dk d1 2))) dw))):Int))]++au (bp (au (dk d1 0)) (av (ao (dk d1 2))) dw)),az (ar aw (ao (dk d1 2)+1))] [])else none)else none)else none)else none)else none)else none)else none)else(bif bo (aq (au (dk d1 1))) (aq (au (dk d1 1)))then(k2 [bj (au (dk d1 1))] [])else none))
def jE (a0 a1:C) (k1:KD R):Option R:=jn (fun d1 m1=>(bif bo (aq (au (dk d1 0))) (aq (au (dk d1 0)))then(k1 [bj (au (dk d1 0))] [])else none)) (fun k2=>(Ac N (TT N k2) [a1,bj [a0,az (ar bt (↑(aq (au a1)):Int))],az 0] []))
def Pg:=lid "" (@jE R N)
theorem J3 {R N a0 a1 k}:@Pg R N a0 a1 k=jE N a0 a1 k:=by unfold Pg;rw[AV]
def z1l:OvG R:=Ae [.int .u8,.slice 24 (.slice 1 (.int .u8))] (Bq (Pg N)) fun a K d1 m1=>K (V.ts 1 (br bt) (au (dk d1 0))) []
theorem J2:okX 88 (@z1l R N):=Ai AW N [(88,[(1,[(12,4)])])] [(88,[([1,0,1,1],(Af [(5,.sl 1 (.int .u8) 5005)])),
  ([4,1,0,1,1],(AX [1] [(5,.sl 1 (.int .u8) 5005),(6,.d (.int .i64))])),
  ([9],(Af [(4,.sl 1 (.int .u8) 5004)]))])] (fun _ _=>J3) fun a K=>(show _=jn (fun d1 m1=>(bif bo (aq (au (dk d1 0))) (aq (au (dk d1 0)))then
  (K (V.ts 1 (br bt) (au (dk d1 0))) [])
 else
  none)) _ by kernel_rfl).trans (congrArg (fun k=>jn k _) (funext fun _=>funext fun _=>by simp only[bw,cond_true]))
def jA (a0 a1 a2:C) (k1:KD R):Option R:=Pg N a1 a2 (fun d1 m1=>(LQ N a0 (bj (au (dk d1 0))) (fun d2 m2=>(k1 [dk d2 0] []))))
def Gi:=lid "" (@jA R N)
theorem U7 {R N a0 a1 a2 k}:@Gi R N a0 a1 a2 k=jA N a0 a1 a2 k:=by unfold Gi;rw[AV]
def z1f:OvG R:=Ae [Bo,.int .u8,.slice 24 (.slice 1 (.int .u8))] (Eb (Gi N)) (BD (ct 32 (br bt)))
theorem Mn:okX 61 (@z1f R N):=Ai (AH (U9 N) <| AH (J2 N) <| AW) N [(61,[(0,[(3,5)]),(1,[(11,7)])])] [(61,[([9],⟨[],[(6,.as (.ptr (.l 6) [] (.arr 32 (.int .u8))))],[],[(.l 6,.box (.d (.arr 32 (.int .u8))))],[],[]⟩)])] (fun _ _=>U7)
section
variable {R:Type} {N:Nat}
def rX (b:Int):Int:=if 97<=b then IntKind.u64.wrap (b-39)else b
def Jr (s:List UInt8) (n:Nat):Nat->Int
 |0=>0
 |i+1=>IntKind.u64.wrap (IntKind.u64.wrap (IntKind.u64.wrap (Jr s n i*16)+rX (IntKind.u64.wrap ((s.getD (8*n+i) (nt 0)).toNat:Int)))-48)
theorem pE (s:C) (n:Nat) (h1:8*n+8<=s.toStr.length) (h2:n<=1000) (hN:100<N) (k:KD R):LR N s (.int n) k=k [.int (Jr s.toStr n 8)] []:=by
 have q1:IntKind.i64.wrap (8*(n:Int))=8*n:=wrap_i64 (by omega) (by omega);have q2:IntKind.i64.wrap (8*(n:Int)+8)=8*n+8:=wrap_i64 (by omega) (by omega);have lp:∀K:KD R,Ac N (TU N K) [s,.int n,.int 0,.int (8*n+(0:Nat))] []=K [.int (Jr s.toStr n 8)] []:=fun K=>by
  refine Dd (F:=TU N K) (fun i=>[s,.int n,.int (Jr s.toStr n i),.int (8*n+(i:Nat))]) (fun _=>[]) 8 _ ?_ ?_ (N:=N) (by omega)
  ·intro i hi rec;have e1:8*(n:Int)+i<8*n+8:=by omega
   have e2:0<=8*(n:Int)+i/\8*(n:Int)+i<(s.toStr.length:Int):=by omega
   have e3:IntKind.i64.wrap (8*(n:Int)+i+1)=8*n+((i+1:Nat):Int):=by rw[wrap_i64 (by omega) (by omega)];omega
   have e4:(8*(n:Int)+i).toNat=8*n+i:=by omega
   unfold TU;simp only[AQ,AF,AL,AP,AU,Ab,AB,q1,q2,e1,e3,e4,AE];refine(if_pos e2).trans ?_;simp only[Jr,rX];by_cases z:97<=IntKind.u64.wrap ((bp s.toStr (8*n+i) (nt 0)).toNat:Int)
   ·refine(congrArg (fun b=>cond b _ _) (decide_eq_true z)).trans ?_;rw[if_pos z];rfl
   ·refine(congrArg (fun b=>cond b _ _) (decide_eq_false z)).trans ?_;rw[if_neg z];rfl
  ·intro rec;unfold TU;have e:¬8*(n:Int)+((8:Nat):Int)<8*n+8:=by omega
   simp only[AF,AL,AP,AU,AB,q1,q2,e,AE]
 rw[J5];unfold jF;simp only[AQ,AB,q1];rw[show(8*(n:Int))=8*n+(0:Nat) by omega];exact(lp _).trans rfl
structure Cz (t:C):Prop where
 l0:(t.get 0).toStr.length=64
 l1:(t.get 1).toStr.length=512
 w0:∀i,i<8->Jr (t.get 0).toStr i 8=((([1779033703,3144134277,1013904242,2773480762,1359893119,2600822924,528734635,1541459225]:List W32).getD i 0).toNat:Int)
 w1:∀i,i<64->Jr (t.get 1).toStr i 8=((ksW.getD i 0).toNat:Int)
theorem KU (x:Int):IntKind.u64.wrap x=x%18446744073709551616:=by simp[ar,jk,iw]
theorem XD (x:W32):dv 64 (x.toNat:Int)=x.setWidth 64:=by rw[lg];apply BitVec.eq_of_toNat_eq;simp
theorem x64 (x y:W32):Aj ep ay (x.toNat:Int) (y.toNat:Int)=((x^^^y).toNat:Int):=by
 show IntKind.u64.wrap (((dv 64 (x.toNat:Int))^^^(dv 64 (y.toNat:Int))).toNat:Int)=_;rw[XD,XD,<-BitVec.setWidth_xor,ta,KU];have:=CJ (x^^^y);omega
theorem a64 (x y:W32):Aj dr ay (x.toNat:Int) (y.toNat:Int)=((x&&&y).toNat:Int):=by
 show IntKind.u64.wrap (((dv 64 (x.toNat:Int))&&&(dv 64 (y.toNat:Int))).toNat:Int)=_;rw[XD,XD,<-BitVec.setWidth_and,ta,KU];have:=CJ (x&&&y);omega
theorem q9x (x:W32):IntKind.u64.wrap (4294967295-(x.toNat:Int))=((~~~x).toNat:Int):=by
 have:=CJ x;rw[KU,BitVec.toNat_not];omega
theorem z0H (e f g:W32):(e&&&f)+(~~~e&&&g)=g^^^(e&&&(f^^^g)):=by
 have h:(e&&&f)&&&(~~~e&&&g)=0:=by
  apply mw;intro i hi;simp only[oz,ug,BitVec.getLsbD_zero];cases e.getLsbD i <;> simp
 rw[BitVec.add_eq_or_of_and_eq_zero _ _ h];apply mw;intro i hi;simp only[oz,uy,uh,ug,hi,decide_true,Bool.true_and];cases e.getLsbD i <;> cases f.getLsbD i <;> cases g.getLsbD i <;> rfl
theorem q9m (a b c:W32):(a&&&b)^^^(a&&&c)^^^(b&&&c)=(a&&&b)|||(c&&&(a|||b)):=by
 apply mw;intro i hi;simp only[oz,uy,uh];cases a.getLsbD i <;> cases b.getLsbD i <;> cases c.getLsbD i <;> rfl
theorem fI {x:Int} {v:W32} (h0:0<=x) (h1:x<18446744073709551616) (h:x%4294967296=(v.toNat:Int)):bq (IntKind.u64.wrap x) 4294967296=(v.toNat:Int):=by rw[KU,Int.emod_eq_of_lt h0 h1,dp h0];exact h
end
section
variable {R:Type} {N:Nat}
def QD (w:List C) (l:List W32) (i:Nat):W32:=
 if i<16 then Ix ((w.drop (4*i)).take 4)else l.getD (i-16) 0+(sg0 (l.getD (i-15) 0)+l.getD (i-7) 0+sg1 (l.getD (i-2) 0))
def Bx (w:List C):Nat->List W32
 |0=>[]
 |i+1=>Bx w i++[QD w (Bx w i) i]
theorem LY (w:List C):∀i,(Bx w i).length=i
 |0=>rfl
 |i+1=>by simp[Bx,LY w i]
theorem UX (w:List C) (i:Nat):∀j,i<j->(Bx w j).getD i 0=QD w (Bx w i) i
 |0,h=>by omega
 |j+1,h=>by
  simp only[Bx,bn];by_cases e:i=j
  ·subst e;rw[fu (by rw[LY];exact ca _),LY,Nat.sub_self];rfl
  ·rw[fm (by rw[LY];omega),<-bn];exact UX w i j (by omega)
theorem YQ (w:List C) (i j k:Nat) (hj:i<j) (hk:i<k):(Bx w j).getD i 0=(Bx w k).getD i 0:=by rw[UX w i j hj,UX w i k hk]
theorem z4U (a b c d:C) (ha:BO a) (hb:BO b) (hc:BO c) (hd:BO d):((Ix [a,b,c,d]).toNat:Int)=((a.toInt*256+b.toInt)*256+c.toInt)*256+d.toInt:=by
 have key:∀(x:W32) (y:C) (m:Nat),BO y->x.toNat<m->m<=16777216->((x <<< 8|||dv 32 y.toInt).toNat:Int)=(x.toNat:Int)*256+y.toInt:=by
  intro x y m hy hx hm;obtain⟨_,h1,h2⟩:=hy;obtain⟨n,hn⟩:=Int.eq_ofNat_of_zero_le h1;rw[hn]at h2 ⊢;have e1:(dv 32 (n:Int)).toNat=n:=by rw[lg,BitVec.toNat_ofNat];omega
  rw[BitVec.toNat_or,BitVec.toNat_shiftLeft,Nat.shiftLeft_eq,e1];rw[show(2:Nat)^8=256 from rfl,show(2:Nat)^32=4294967296 from rfl,qh (by omega)];have:=Nat.two_pow_add_eq_or_of_lt (b:=n) (i:=8) (by omega) x.toNat;rw[Nat.mul_comm,show(256:Nat)=2^8 from rfl,<-this];omega
 have e0:=key 0 a 1 ha (by decide) (by decide);have z0:((0:W32).toNat:Int)=0:=rfl;rw[z0]at e0;have b0:=ha.2;have b1:=hb.2;have b2:=hc.2;have b3:=hd.2;have e1:=key ((0:W32) <<< 8|||dv 32 a.toInt) b 256 hb (by omega) (by decide);have e2:=key (((0:W32) <<< 8|||dv 32 a.toInt) <<< 8|||dv 32 b.toInt) c 65536 hc (by omega) (by decide);have e3:=key ((((0:W32) <<< 8|||dv 32 a.toInt) <<< 8|||dv 32 b.toInt) <<< 8|||dv 32 c.toInt) d 16777216 hd (by omega) (by decide);show((((((0:W32) <<< 8|||dv 32 a.toInt) <<< 8|||dv 32 b.toInt) <<< 8|||dv 32 c.toInt) <<< 8|||dv 32 d.toInt).toNat:Int)=_;omega
theorem z4t {b:List C} {i:Nat} (h:4*i+4<=b.length):(b.drop (4*i)).take 4=[b.getD (4*i) .nil,b.getD (4*i+1) .nil,b.getD (4*i+2) .nil,b.getD (4*i+3) .nil]:=by
 apply fl;intro j;rw[List.getElem?_take];split
 ·rename_i hj;rw[List.getElem?_drop];have hl:4*i+j<b.length:=by omega
  rw[bm hl]
  match j,hj with
  |0,_=>simp[bn,bm (show 4*i<b.length by omega)]
  |1,_=>simp[bn,bm (show 4*i+1<b.length by omega)]
  |2,_=>simp[bn,bm (show 4*i+2<b.length by omega)]
  |3,_=>simp[bn,bm (show 4*i+3<b.length by omega)]
 ·rename_i hj;rw[List.getElem?_eq_none (by simp;omega)]
theorem z4l (a b c d:Int) (ha:0<=a/\a<256) (hb:0<=b/\b<256) (hc:0<=c/\c<256) (hd:0<=d/\d<256):
  IntKind.u64.wrap (IntKind.u64.wrap (IntKind.u64.wrap (IntKind.u64.wrap (IntKind.u64.wrap (IntKind.u64.wrap (IntKind.u64.wrap a*256)+IntKind.u64.wrap b)*256)+IntKind.u64.wrap c)*256)+IntKind.u64.wrap d)=((a*256+b)*256+c)*256+d:=by
 simp only[KU];omega
theorem z4m (a x b y:W32):bq (IntKind.u64.wrap (IntKind.u64.wrap (IntKind.u64.wrap ((a.toNat:Int)+(x.toNat:Int))+(b.toNat:Int))+(y.toNat:Int))) 4294967296=((a+(x+b+y)).toNat:Int):=by
 have h1:=CJ a;have h2:=CJ x;have h3:=CJ b;have h4:=CJ y;simp only[KU];rw[dp (by omega)];simp only[kr];omega
theorem q7g (t:C) (h b:List C) (hb:b.length=64) (hbb:∀c∈b,BO c) (hN:1000<N) (K:KD R):
  Ac N (Pe N K) [.slice h,.slice b,t,.slice [],.int 0] []=K [.slice h,t,.slice ((Bx b 64).map wI)] []:=by
 refine Dd (F:=Pe N K) (fun i=>[.slice h,.slice b,t,.slice ((Bx b i).map wI),.int i]) (fun _=>[]) 64 _ ?_ ?_ (N:=N) (by omega)
 ·intro i hi rec;have e1:(i:Int)<64:=by omega
  have g1:(i+1)*8<=140737488355328/\i+1<=9223372036854775807:=by omega
  have hl:((Bx b i).map wI).length=i:=by rw[ez,LY]
  by_cases z:(i:Int)<16
  ·have zn:i<16:=by omega
   have p0:IntKind.i64.wrap (4*(i:Int))=((4*i:Nat):Int):=by rw[wrap_i64 (by omega) (by omega)];omega
   have p1:IntKind.i64.wrap (((4*i:Nat):Int)+1)=((4*i+1:Nat):Int):=by rw[wrap_i64 (by omega) (by omega)];omega
   have p2:IntKind.i64.wrap (((4*i:Nat):Int)+2)=((4*i+2:Nat):Int):=by rw[wrap_i64 (by omega) (by omega)];omega
   have p3:IntKind.i64.wrap (((4*i:Nat):Int)+3)=((4*i+3:Nat):Int):=by rw[wrap_i64 (by omega) (by omega)];omega
   have c0:((4*i:Nat):Int)<((64:Nat):Int):=by omega
   have c1:((4*i+1:Nat):Int)<((64:Nat):Int):=by omega
   have c2:((4*i+2:Nat):Int)<((64:Nat):Int):=by omega
   have c3:((4*i+3:Nat):Int)<((64:Nat):Int):=by omega
   have y0:=hbb _ (CR (show 4*i<b.length by omega));have y1:=hbb _ (CR (show 4*i+1<b.length by omega));have y2:=hbb _ (CR (show 4*i+2<b.length by omega));have y3:=hbb _ (CR (show 4*i+3<b.length by omega));have hs:(Bx b (i+1)).map wI=(Bx b i).map wI++[.int ((((b.getD (4*i) .nil).toInt*256+(b.getD (4*i+1) .nil).toInt)*256+(b.getD (4*i+2) .nil).toInt)*256+(b.getD (4*i+3) .nil).toInt)]:=by
    simp only[Bx,QD,if_pos zn,kq,ed,vq,wI];rw[z4t (by omega),z4U _ _ _ _ y0 y1 y2 y3]
   have hv:=z4l _ _ _ _ y0.2 y1.2 y2.2 y3.2;unfold Pe;simp only[AQ,AF,AL,AP,AU,Ab,AB,AJ,e1,z,p0,p1,p2,p3,hb,c0,c1,c2,c3,hl,g1,AE,bu,and_self,bw,bh,bx,cn,df,cq,BM (show i<4611686018427387904 by omega)];rw[hv,<-hs]
  ·have zn:¬i<16:=by omega
   have p15:IntKind.i64.wrap ((i:Int)-15)=((i-15:Nat):Int):=by rw[wrap_i64 (by omega) (by omega)];omega
   have p2:IntKind.i64.wrap ((i:Int)-2)=((i-2:Nat):Int):=by rw[wrap_i64 (by omega) (by omega)];omega
   have p16:IntKind.i64.wrap ((i:Int)-16)=((i-16:Nat):Int):=by rw[wrap_i64 (by omega) (by omega)];omega
   have p7:IntKind.i64.wrap ((i:Int)-7)=((i-7:Nat):Int):=by rw[wrap_i64 (by omega) (by omega)];omega
   have c15:((i-15:Nat):Int)<(i:Int):=by omega
   have c2:((i-2:Nat):Int)<(i:Int):=by omega
   have c16:((i-16:Nat):Int)<(i:Int):=by omega
   have c7:((i-7:Nat):Int)<(i:Int):=by omega
   have gw:∀j,j<i->(dg wI (Bx b i)).getD j .nil=wI ((Bx b i).getD j 0):=fun j hj=>by rw[bn,di,bn,bm (by rw[LY];exact hj)];rfl
   have g15:=gw (i-15) (by omega);have g2:=gw (i-2) (by omega);have g16:=gw (i-16) (by omega);have g7:=gw (i-7) (by omega);have r1:∀(x:W32) (k:KD R),Cd N (wI x) (.int 7) (.bool true) k=k [wI (FG x 7)] []:=fun x k=>IB x 7 (by omega) (by omega) true (by omega) k;have r2:∀(x:W32) (k:KD R),Cd N (wI x) (.int 18) (.bool true) k=k [wI (FG x 18)] []:=fun x k=>IB x 18 (by omega) (by omega) true (by omega) k;have r3:∀(x:W32) (k:KD R),Cd N (wI x) (.int 3) (.bool false) k=k [wI (x >>> 3)] []:=fun x k=>IB x 3 (by omega) (by omega) false (by omega) k;have r4:∀(x:W32) (k:KD R),Cd N (wI x) (.int 17) (.bool true) k=k [wI (FG x 17)] []:=fun x k=>IB x 17 (by omega) (by omega) true (by omega) k;have r5:∀(x:W32) (k:KD R),Cd N (wI x) (.int 19) (.bool true) k=k [wI (FG x 19)] []:=fun x k=>IB x 19 (by omega) (by omega) true (by omega) k;have r6:∀(x:W32) (k:KD R),Cd N (wI x) (.int 10) (.bool false) k=k [wI (x >>> 10)] []:=fun x k=>IB x 10 (by omega) (by omega) false (by omega) k;have hs:(Bx b (i+1)).map wI=(Bx b i).map wI++[wI ((Bx b i).getD (i-16) 0+(sg0 ((Bx b i).getD (i-15) 0)+(Bx b i).getD (i-7) 0+sg1 ((Bx b i).getD (i-2) 0)))]:=by simp only[Bx,QD,if_neg zn,kq,ed,vq]
   unfold Pe;simp only[AQ,AF,AL,AP,AU,Ab,AB,AJ,e1,z,p15,p2,p16,p7,c15,c2,c16,c7,hl,g1,g15,g2,g16,g7,r1,r2,r3,r4,r5,r6,Gm,x64,AE,bu,and_self,bw,bh,bx,cn,df,cq,BM (show i<4611686018427387904 by omega)];rw[z4m,hs];rfl
 ·intro rec;unfold Pe;have e:¬((64:Nat):Int)<64:=by decide
  simp only[AF,AL,AP,AU,Ab,AB,AJ,e,AE,bw]
end
section
variable {R:Type} {N:Nat}
theorem y6 (w:List C):∀i j,i<=16->j<i->(nG w i).getD j 0=Ix ((w.drop (4*j)).take 4)
 |0,j,_,h=>by omega
 |i+1,j,hi,h=>by
  show((nG w i).set i _).getD j 0=_;rw[ML (by rw[Mi];omega)];by_cases e:i=j
  ·subst e;rw[if_pos rfl]
  ·rw[if_neg e];exact y6 w i j (by omega) (by omega)
theorem y8 (w:List C) (h:List W32) (hh:h.length=8):∀i,i<=64->∀j,(j<i\/j<16)->i<=j+16->(CG (nG w 16) h i).1.getD (j%16) 0=(Bx w 64).getD j 0
 |0,_,j,hj,_=>by
  have hj:j<16:=by omega
  show(nG w 16).getD (j%16) 0=_;rw[qh hj,y6 w 16 j (by omega) hj,UX w j 64 (by omega),QD,if_pos hj]
 |i+1,hi,j,hj,hij=>by
  have ih:=y8 w h hh i (by omega);have hl:=(QG (Mi w 16) hh i).1;show(Gd i (CG (nG w 16) h i).1).getD (j%16) 0=_;unfold Gd;by_cases z:16<=i
  ·rw[if_pos z,ML (by omega)];by_cases e:i%16=j%16
   ·have e':j=i:=by omega
    subst e';rw[if_pos rfl];have i0:=ih (j-16) (by omega) (by omega);have i1:=ih (j-15) (by omega) (by omega);have i7:=ih (j-7) (by omega) (by omega);have i2:=ih (j-2) (by omega) (by omega);rw[show(j-16)%16=j%16 by omega]at i0;rw[show(j-15)%16=(j+1)%16 by omega]at i1;rw[show(j-7)%16=(j+9)%16 by omega]at i7;rw[show(j-2)%16=(j+14)%16 by omega]at i2;rw[i0,i1,i7,i2,UX w j 64 (by omega),QD,if_neg (by omega),YQ w (j-16) j 64 (by omega) (by omega),YQ w (j-15) j 64 (by omega) (by omega),YQ w (j-7) j 64 (by omega) (by omega),YQ w (j-2) j 64 (by omega) (by omega)]
   ·rw[if_neg e];exact ih j (by omega) (by omega)
  ·rw[if_neg z];exact ih j (by omega) (by omega)
def Yy (i:Nat) (v s:List W32):Prop:=v.length=8/\∀k,k<8->v.getD ((64-i+k)%8) 0=s.getD k 0
theorem z0f (h s e f g K w:W32):IntKind.u64.wrap (IntKind.u64.wrap (IntKind.u64.wrap (IntKind.u64.wrap ((h.toNat:Int)+(s.toNat:Int))+IntKind.u64.wrap (((e&&&f).toNat:Int)+((~~~e&&&g).toNat:Int)))+(K.toNat:Int))+(w.toNat:Int))=(h.toNat:Int)+s.toNat+(e&&&f).toNat+(~~~e&&&g).toNat+K.toNat+w.toNat:=by
 have h1:=CJ h;have h2:=CJ s;have h3:=CJ (e&&&f);have h4:=CJ (~~~e&&&g);have h5:=CJ K;have h6:=CJ w;simp only[KU];omega
theorem j8 (h s e f g K w:W32):((h.toNat:Int)+s.toNat+(e&&&f).toNat+(~~~e&&&g).toNat+K.toNat+w.toNat)%4294967296=((h+s+(g^^^(e&&&(f^^^g)))+K+w).toNat:Int):=by rw[<-z0H];simp only[kr];omega
theorem q8L (d h s e f g K w:W32):bq (IntKind.u64.wrap ((d.toNat:Int)+((h.toNat:Int)+s.toNat+(e&&&f).toNat+(~~~e&&&g).toNat+K.toNat+w.toNat))) 4294967296=((d+(h+s+(g^^^(e&&&(f^^^g)))+K+w)).toNat:Int):=by
 have h0:=CJ d;have h1:=CJ h;have h2:=CJ s;have h3:=CJ (e&&&f);have h4:=CJ (~~~e&&&g);have h5:=CJ K;have h6:=CJ w;have ho:=j8 h s e f g K w;refine fI (by omega) (by omega) ?_;rw[kr];omega
theorem q7w (z m h s e f g K w:W32):bq (IntKind.u64.wrap (IntKind.u64.wrap (((h.toNat:Int)+s.toNat+(e&&&f).toNat+(~~~e&&&g).toNat+K.toNat+w.toNat)+(z.toNat:Int))+(m.toNat:Int))) 4294967296=((h+s+(g^^^(e&&&(f^^^g)))+K+w+z+m).toNat:Int):=by
 have h0:=CJ z;have h1:=CJ h;have h2:=CJ s;have h3:=CJ (e&&&f);have h4:=CJ (~~~e&&&g);have h5:=CJ K;have h6:=CJ w;have h7:=CJ m;have ho:=j8 h s e f g K w;have e1:IntKind.u64.wrap (((h.toNat:Int)+s.toNat+(e&&&f).toNat+(~~~e&&&g).toNat+K.toNat+w.toNat)+(z.toNat:Int))=((h.toNat:Int)+s.toNat+(e&&&f).toNat+(~~~e&&&g).toNat+K.toNat+w.toNat)+(z.toNat:Int):=by simp only[KU];omega
 rw[e1];refine fI (by omega) (by omega) ?_;simp only[kr]at ho ⊢;omega
theorem q7f (t:C) (ht:Cz t) (hC:C) (b:List C) (vW:List W32) (i:Nat) (hi:i<64) (hv:vW.length=8) (hN:1000<N) (K rec:KD R):
  Pd N K rec [hC,t,.int 8,.slice ((Bx b 64).map wI),.int i,.agg (vW.map wI)] []=
   rec [hC,t,.int 8,.slice ((Bx b 64).map wI),.int ((i+1:Nat):Int),.agg (((vW.set ((67-i)%8) (vW.getD ((67-i)%8) 0+(vW.getD ((71-i)%8) 0+bs1 (vW.getD ((68-i)%8) 0)+(vW.getD ((70-i)%8) 0^^^(vW.getD ((68-i)%8) 0&&&(vW.getD ((69-i)%8) 0^^^vW.getD ((70-i)%8) 0)))+ksW.getD i 0+(Bx b 64).getD i 0))).set ((71-i)%8)
    (vW.getD ((71-i)%8) 0+bs1 (vW.getD ((68-i)%8) 0)+(vW.getD ((70-i)%8) 0^^^(vW.getD ((68-i)%8) 0&&&(vW.getD ((69-i)%8) 0^^^vW.getD ((70-i)%8) 0)))+ksW.getD i 0+(Bx b 64).getD i 0+bs0 (vW.getD ((64-i)%8) 0)+((vW.getD ((64-i)%8) 0&&&vW.getD ((65-i)%8) 0)|||(vW.getD ((66-i)%8) 0&&&(vW.getD ((64-i)%8) 0|||vW.getD ((65-i)%8) 0))))).map wI)] []:=by
 have e1:(i:Int)<64:=by omega
 have e8:av 8=8:=rfl;have q64:IntKind.i64.wrap (64-(i:Int))=((64-i:Nat):Int):=by rw[wrap_i64 (by omega) (by omega)];omega
 have q65:IntKind.i64.wrap (65-(i:Int))=((65-i:Nat):Int):=by rw[wrap_i64 (by omega) (by omega)];omega
 have q66:IntKind.i64.wrap (66-(i:Int))=((66-i:Nat):Int):=by rw[wrap_i64 (by omega) (by omega)];omega
 have q67:IntKind.i64.wrap (67-(i:Int))=((67-i:Nat):Int):=by rw[wrap_i64 (by omega) (by omega)];omega
 have q68:IntKind.i64.wrap (68-(i:Int))=((68-i:Nat):Int):=by rw[wrap_i64 (by omega) (by omega)];omega
 have q69:IntKind.i64.wrap (69-(i:Int))=((69-i:Nat):Int):=by rw[wrap_i64 (by omega) (by omega)];omega
 have q70:IntKind.i64.wrap (70-(i:Int))=((70-i:Nat):Int):=by rw[wrap_i64 (by omega) (by omega)];omega
 have q71:IntKind.i64.wrap (71-(i:Int))=((71-i:Nat):Int):=by rw[wrap_i64 (by omega) (by omega)];omega
 have c8:∀a:Nat,bq (a:Int) 8=((a%8:Nat):Int):=fun a=>q18 a 8;have r8:∀a:Nat,((a%8:Nat):Int)<((8:Nat):Int):=fun a=>by omega
 have gv:∀a:Nat,bc (.agg (vW.map wI)) (a%8)=wI (vW.getD (a%8) 0):=fun a=>HF (by omega);have gs:∀(x:W32) (m a:Nat),bc (.agg ((vW.set m x).map wI)) (a%8)=wI ((vW.set m x).getD (a%8) 0):=fun x m a=>HF (by rw[eg];omega);have z57:∀x:W32,(vW.set ((67-i)%8) x).getD ((64-i)%8) 0=vW.getD ((64-i)%8) 0:=fun x=>by rw[ML (by omega),if_neg (by omega)]
 have hw:(dg wI (Bx b 64)).length=64:=by rw[ez,LY]
 have gw:(dg wI (Bx b 64)).getD i .nil=wI ((Bx b 64).getD i 0):=by rw[bn,di,bn,bm (by rw[LY];exact hi)];rfl
 have r1:∀(x:W32) (k:KD R),Cd N (wI x) (.int 6) (.bool true) k=k [wI (FG x 6)] []:=fun x k=>IB x 6 (by omega) (by omega) true (by omega) k;have r2:∀(x:W32) (k:KD R),Cd N (wI x) (.int 11) (.bool true) k=k [wI (FG x 11)] []:=fun x k=>IB x 11 (by omega) (by omega) true (by omega) k;have r3:∀(x:W32) (k:KD R),Cd N (wI x) (.int 25) (.bool true) k=k [wI (FG x 25)] []:=fun x k=>IB x 25 (by omega) (by omega) true (by omega) k;have r4:∀(x:W32) (k:KD R),Cd N (wI x) (.int 2) (.bool true) k=k [wI (FG x 2)] []:=fun x k=>IB x 2 (by omega) (by omega) true (by omega) k;have r5:∀(x:W32) (k:KD R),Cd N (wI x) (.int 13) (.bool true) k=k [wI (FG x 13)] []:=fun x k=>IB x 13 (by omega) (by omega) true (by omega) k;have r6:∀(x:W32) (k:KD R),Cd N (wI x) (.int 22) (.bool true) k=k [wI (FG x 22)] []:=fun x k=>IB x 22 (by omega) (by omega) true (by omega) k;have rt:∀k:KD R,LR N (t.get 1) (.int i) k=k [wI (ksW.getD i 0)] []:=fun k=>by rw[pE _ i (by rw[ht.l1];omega) (by omega) (by omega),ht.w1 i hi];rfl
 unfold Pd;simp only[AF,AL,AP,AU,Ab,Av,AB,AJ,DQ,e1,e8,q64,q65,q66,q67,q68,q69,q70,q71,c8,r8,gv,hw,gw,r1,r2,r3,r4,r5,r6,rt,Gm,x64,a64,q9x,z0f,q8L,mF,gs,z57,q9m,q7w,AE,bu,and_self,bw,cq,bh,eg,ez,BM (show i<4611686018427387904 by omega)];refine(if_pos ⟨trivial,by omega⟩).trans ?_;rfl
theorem z3k (w:List C) (h:List W32) (hh:h.length=8) (i:Nat) (hi:i<64) (v:List W32) (hv:Yy i v (CG (nG w 16) h i).2):
  Yy (i+1) ((v.set ((67-i)%8) (v.getD ((67-i)%8) 0+(v.getD ((71-i)%8) 0+bs1 (v.getD ((68-i)%8) 0)+(v.getD ((70-i)%8) 0^^^(v.getD ((68-i)%8) 0&&&(v.getD ((69-i)%8) 0^^^v.getD ((70-i)%8) 0)))+ksW.getD i 0+(Bx w 64).getD i 0))).set ((71-i)%8)
    (v.getD ((71-i)%8) 0+bs1 (v.getD ((68-i)%8) 0)+(v.getD ((70-i)%8) 0^^^(v.getD ((68-i)%8) 0&&&(v.getD ((69-i)%8) 0^^^v.getD ((70-i)%8) 0)))+ksW.getD i 0+(Bx w 64).getD i 0+bs0 (v.getD ((64-i)%8) 0)+((v.getD ((64-i)%8) 0&&&v.getD ((65-i)%8) 0)|||(v.getD ((66-i)%8) 0&&&(v.getD ((64-i)%8) 0|||v.getD ((65-i)%8) 0)))))
   (CG (nG w 16) h (i+1)).2:=by
 obtain⟨hl,hp⟩:=hv;have p0:=hp 0 (by omega);have p1:=hp 1 (by omega);have p2:=hp 2 (by omega);have p3:=hp 3 (by omega);have p4:=hp 4 (by omega);have p5:=hp 5 (by omega);have p6:=hp 6 (by omega);have p7:=hp 7 (by omega);rw[show 64-i+0=64-i by omega]at p0;rw[show 64-i+1=65-i by omega]at p1;rw[show 64-i+2=66-i by omega]at p2;rw[show 64-i+3=67-i by omega]at p3;rw[show 64-i+4=68-i by omega]at p4;rw[show 64-i+5=69-i by omega]at p5;rw[show 64-i+6=70-i by omega]at p6;rw[show 64-i+7=71-i by omega]at p7;have hn:(Gd i (CG (nG w 16) h i).1).getD (i%16) 0=(Bx w 64).getD i 0:=y8 w h hh (i+1) (by omega) i (by omega) (by omega);have hs:(CG (nG w 16) h (i+1)).2=[Lr i (Gd i (CG (nG w 16) h i).1) (CG (nG w 16) h i).2+bs0 ((CG (nG w 16) h i).2.getD 0 0)+(((CG (nG w 16) h i).2.getD 0 0&&&(CG (nG w 16) h i).2.getD 1 0)|||((CG (nG w 16) h i).2.getD 2 0&&&((CG (nG w 16) h i).2.getD 0 0|||(CG (nG w 16) h i).2.getD 1 0))),(CG (nG w 16) h i).2.getD 0 0,(CG (nG w 16) h i).2.getD 1 0,(CG (nG w 16) h i).2.getD 2 0,(CG (nG w 16) h i).2.getD 3 0+Lr i (Gd i (CG (nG w 16) h i).1) (CG (nG w 16) h i).2,(CG (nG w 16) h i).2.getD 4 0,(CG (nG w 16) h i).2.getD 5 0,(CG (nG w 16) h i).2.getD 6 0]:=rfl;have ha:Lr i (Gd i (CG (nG w 16) h i).1) (CG (nG w 16) h i).2=v.getD ((71-i)%8) 0+bs1 (v.getD ((68-i)%8) 0)+(v.getD ((70-i)%8) 0^^^(v.getD ((68-i)%8) 0&&&(v.getD ((69-i)%8) 0^^^v.getD ((70-i)%8) 0)))+ksW.getD i 0+(Bx w 64).getD i 0:=by unfold Lr;rw[hn,p4,p5,p6,p7]
 rw[hs,ha,<-p0,<-p1,<-p2,<-p3,<-p4,<-p5,<-p6];refine⟨by rw[eg,eg];exact hl,fun k hk=>?_⟩;generalize v.getD ((71-i)%8) 0+bs1 (v.getD ((68-i)%8) 0)+(v.getD ((70-i)%8) 0^^^(v.getD ((68-i)%8) 0&&&(v.getD ((69-i)%8) 0^^^v.getD ((70-i)%8) 0)))+ksW.getD i 0+(Bx w 64).getD i 0=one;rw[ML (by rw[eg];omega),ML (by omega)]
 match k,hk with
 |0,_=>rw[if_pos (by omega)];rfl
 |1,_=>rw[if_neg (by omega),if_neg (by omega),show(64-(i+1)+1)%8=(64-i)%8 by omega];rfl
 |2,_=>rw[if_neg (by omega),if_neg (by omega),show(64-(i+1)+2)%8=(65-i)%8 by omega];rfl
 |3,_=>rw[if_neg (by omega),if_neg (by omega),show(64-(i+1)+3)%8=(66-i)%8 by omega];rfl
 |4,_=>rw[if_neg (by omega),if_pos (by omega)];rfl
 |5,_=>rw[if_neg (by omega),if_neg (by omega),show(64-(i+1)+5)%8=(68-i)%8 by omega];rfl
 |6,_=>rw[if_neg (by omega),if_neg (by omega),show(64-(i+1)+6)%8=(69-i)%8 by omega];rfl
 |7,_=>rw[if_neg (by omega),if_neg (by omega),show(64-(i+1)+7)%8=(70-i)%8 by omega];rfl
theorem zJ {F:KD R->List C->List Es->Option R} (n:Nat) (inv:Nat->List C->Prop) (r:Option R)
  (step:∀i st,i<n->inv i st->∃st',inv (i+1) st'/\∀rec:KD R,F rec st []=rec st' [])
  (stop:∀st,inv n st->∀rec:KD R,F rec st []=r):∀(m i N:Nat) (st:List C),i+m=n->m<N->inv i st->Ac N F st []=r
 |0,i,N,st,hi,hN,h=>by
  obtain⟨N,rfl⟩:∃a,N=a+1:=⟨N-1,by omega⟩;have e:i=n:=by omega
  subst e;rw[Bm];exact stop st h _
 |m+1,i,N,st,hi,hN,h=>by
  obtain⟨N,rfl⟩:∃a,N=a+1:=⟨N-1,by omega⟩;obtain⟨st',h1,h2⟩:=step i st (by omega) h;rw[Bm,h2];exact zJ n inv r step stop m (i+1) N st' (by omega) (by omega) h1
theorem yL {l:List W32} (h:l.length=8):l=[l.getD 0 0,l.getD 1 0,l.getD 2 0,l.getD 3 0,l.getD 4 0,l.getD 5 0,l.getD 6 0,l.getD 7 0]:=by
 match l,h with
 | [_,_,_,_,_,_,_,_],_=>rfl
theorem q7e (t:C) (ht:Cz t) (hC:C) (b:List C) (h:List W32) (hh:h.length=8) (hN:1000<N) (K:KD R):
  Ac N (Pd N K) [hC,t,.int 8,.slice ((Bx b 64).map wI),.int (0:Nat),.agg (h.map wI)] []=K [hC,.int 8,.agg ((CG (nG b 16) h 64).2.map wI)] []:=by
 refine zJ (F:=Pd N K) 64 (fun i st=>∃v,Yy i v (CG (nG b 16) h i).2/\st=[hC,t,.int 8,.slice ((Bx b 64).map wI),.int i,.agg (v.map wI)]) _ ?_ ?_ 64 0 N _ (by omega) (by omega) ⟨h,⟨hh,fun k hk=>?_⟩,rfl⟩
 ·rintro i st hi ⟨v,hv,rfl⟩;exact⟨_,⟨_,z3k b h hh i hi v hv,rfl⟩,fun rec=>q7f t ht hC b v i hi hv.1 hN K rec⟩
 ·rintro st ⟨v,hv,rfl⟩ rec;have e:v=(CG (nG b 16) h 64).2:=by
   have hl:=(QG (Mi b 16) hh 64).2;rw[yL hv.1,yL hl];have hp:=hv.2;have p0:=hp 0 (by omega);have p1:=hp 1 (by omega);have p2:=hp 2 (by omega);have p3:=hp 3 (by omega);have p4:=hp 4 (by omega);have p5:=hp 5 (by omega);have p6:=hp 6 (by omega);have p7:=hp 7 (by omega);simp only[Nat.sub_self,cq,Nat.zero_mod,Nat.reduceMod]at p0 p1 p2 p3 p4 p5 p6 p7;rw[p0,p1,p2,p3,p4,p5,p6,p7]
  unfold Pd;have e64:¬((64:Nat):Int)<64:=by decide
  simp only[AF,AL,AP,AU,Ab,Av,AB,AJ,e64,AE,e];rfl
 ·have:(64-0+k)%8=k:=by omega
  rw[this];rfl
theorem q7d (h s:List W32) (hh:h.length=8) (hs:s.length=8) (hN:1000<N) (K:KD R):
  Ac N (TS N K) [.slice (h.map wI),.int 8,.int (0:Nat),.int (0:Nat),.agg (s.map wI),.agg []] []=K [.int 8,.agg ((aG h s 8).map wI)] []:=by
 have key:=Dd (F:=TS N K) (fun i=>[.slice (h.map wI),.int 8,.int (i:Nat),.int (i:Nat),.agg (s.map wI),.agg (((aG h s 8).take i).map wI)]) (fun _=>[]) 8 (K [.int 8,.agg ((aG h s 8).map wI)] []) ?_ ?_ (N:=N) (by omega)
 ·exact key
 ·intro i hi rec;have e1:(i:Int)<8:=by omega
  have e8:av 8=8:=rfl;have e2:(i:Int)<((8:Nat):Int):=by omega
  have g1:(i+1)*8<=140737488355328/\i+1<=9223372036854775807:=by omega
  have hl8:(aG h s 8).length=8:=by rw[Lp];exact hh
  have hlt:(dg wI ((aG h s 8).take i)).length=i:=by rw[ez,kl,hl8];omega
  have htk:cr i (dg wI ((aG h s 8).take i))=dg wI ((aG h s 8).take i):=du (by rw[hlt];exact ca _);have hgh:(h.map wI).getD i .nil=wI (h.getD i 0):=by rw[bn,di,bn,bm (by omega)];rfl
  have hgs:bc (.agg (s.map wI)) i=wI (s.getD i 0):=HF (by omega);have hlm:(h.map wI).length=8:=by rw[ez];exact hh
  have hag:∀j m,j<m->m<=8->(aG h s m).getD j 0=h.getD j 0+s.getD j 0:=by
   intro j m hj hm
   induction m with
   |zero=>omega
   |succ m ih=>
    show((aG h s m).set m _).getD j 0=_;rw[ML (by rw[Lp];omega)];by_cases e:m=j
    ·subst e;rw[if_pos rfl]
    ·rw[if_neg e];exact ih (by omega) (by omega)
  have z7V:bq (IntKind.u64.wrap (((h.getD i 0).toNat:Int)+((s.getD i 0).toNat:Int))) 4294967296=((h.getD i 0+s.getD i 0).toNat:Int):=by
   have h1:=CJ (h.getD i 0);have h2:=CJ (s.getD i 0);refine fI (by omega) (by omega) ?_;rw[kr];omega
  have ht:dg wI ((aG h s 8).take (i+1))=dg wI ((aG h s 8).take i)++[wI (h.getD i 0+s.getD i 0)]:=by
   rw[mb,bm (by omega),kq];have:=hag i 8 hi (by omega);rw[bn,bm (by omega)]at this;simp only[jh]at this;rw[this];rfl
  unfold TS;simp only[AF,AL,AP,AU,Ab,Av,AB,AJ,DQ,e1,e2,e8,hlm,g1,hlt,htk,hgh,hgs,z7V,Gm,AE,bu,and_self,cq,bh,bx,cn,df,BM (show i<4611686018427387904 by omega)];rw[ht];rfl
 ·intro rec;unfold TS;have e:¬((8:Nat):Int)<8:=by decide
  have hl8:(aG h s 8).length=8:=by rw[Lp];exact hh
  simp only[AF,AL,AP,AU,Ab,Av,AB,AJ,e,AE,du (Nat.le_of_eq hl8)];rfl
theorem q3s (t:C) (ht:Cz t) (h:List W32) (b:List C) (hh:h.length=8) (hb:b.length=64) (hbb:∀c∈b,BO c) (hN:1000<N) (k:KD R):Pf N t (.slice (h.map wI)) (.slice b) k=k [.int 8,.agg ((JH h b).map wI)] []:=by
 have hlm:(h.map wI).length=8:=by rw[ez];exact hh
 have ne:(h.map wI).isEmpty=false:=by cases h with|nil=>simp at hh|cons=>rfl
 rw[J1];unfold jD;simp only[AQ];refine(q7g t (h.map wI) b hb hbb hN _).trans ?_;simp only[AF,AL,AP,AJ,DQ,ne,hlm,bw,AE];refine(q7e t ht _ b h hh hN _).trans ?_;simp only[AF,AL,AP,AB,if_true];refine(q7d h _ hh (QG (Mi b 16) hh 64).2 hN _).trans ?_;simp only[AF,AL,AP,AB,if_true];rfl
end
section
variable {R:Type} {N:Nat}
def feed (p:List W32 × List C) (b:C):List W32 × List C:=
 if p.2.length=63 then(JH p.1 (p.2++[b]),[])else(p.1,p.2++[b])
theorem uA:∀(x:List C) (h:List W32) (q:List C),q.length+x.length<64->x.foldl feed (h,q)=(h,q++x)
 | [],h,q,_=>by simp
 |b::x,h,q,hl=>by
  have hl':q.length+(x.length+1)<64:=by simpa using hl
  have e:feed (h,q) b=(h,q++[b]):=by unfold feed;rw[if_neg (by show ¬q.length=63;omega)]
  rw[oa,e,uA x h (q++[b]) (by simp;omega)];simp
theorem bR:∀(x:List C) (h:List W32) (q:List C),q.length+x.length=64->q.length<64->x.foldl feed (h,q)=(JH h (q++x),[])
 | [],h,q,hl,hq=>by simp at hl;omega
 |b::x,h,q,hl,hq=>by
  have hl':q.length+(x.length+1)=64:=by simpa using hl
  by_cases e63:q.length=63
  ·have hx:x=[]:=fh (by omega);subst hx;simp only[oa,xm,feed];rw[if_pos e63]
  ·have e:feed (h,q) b=(h,q++[b]):=by unfold feed;rw[if_neg (by show ¬q.length=63;exact e63)]
   rw[oa,e,bR x h (q++[b]) (by simp;omega) (by simp;omega)];simp
structure Gr (m:C) (h:List W32) (q:List C) (n:Int):Prop where
 ex:∃w:List C,m= .agg [.agg (h.map wI),.agg w,.int n]/\w.length=64/\w.take q.length=q/\∀c∈w,BO c
 hl:h.length=8
 nn:W64 n
 ql:n%64=(q.length:Int)
theorem uB {h:List W32} (hh:h.length=8):∀(x:List C) (q:List C),(x.foldl feed (h,q)).1.length=8:=by
 have key:∀(x:List C) (p:List W32 × List C),p.1.length=8->(x.foldl feed p).1.length=8:=by
  intro x
  induction x with
  |nil=>intro p hp;exact hp
  |cons b x ih=>
   intro p hp;rw[oa];refine ih _ ?_;unfold feed;split
   ·exact Zz hp _
   ·exact hp
 exact fun x q=>key x (h,q) hh
theorem put_eq (l:List C) (m:C) (h:List W32) (q:List C) (n:Int) (hm:Gr m h q n) (hb:∀c∈l,BO c) (hN:l.length+100<N):
  ∃m' n',Gr m' (l.foldl feed (h,q)).1 (l.foldl feed (h,q)).2 n'/\n'=(n+l.length)%18446744073709551616/\∀k:KD R,Mc N (.slice l) m k=k [m'] []:=by
 obtain⟨d,⟨m',h1,rfl⟩,h2⟩:=eS (R:=R) (F:=fun k2=>SS N k2)
  (fun j st=>∃(x:List C) (m:C) (h':List W32) (q':List C) (n':Int),st=[.slice x,m]/\Gr m h' q' n'/\x.length<=j/\(∀c∈x,BO c)/\x.foldl feed (h',q')=l.foldl feed (h,q)/\(n'+x.length)%18446744073709551616=(n+l.length)%18446744073709551616)
  (fun d=>∃m',Gr m' (l.foldl feed (h,q)).1 (l.foldl feed (h,q)).2 ((n+l.length)%18446744073709551616)/\d=[m'])
  (fun j st hst=>by
   obtain⟨x,m,h',q',n',rfl,⟨⟨w,rfl,hw,hwq,hwb⟩,hh,hn,hq⟩,hx,hbx,hf,hne⟩:=hst;have z7W:q'.length<64:=by have:=hn.1;omega
   by_cases e:0<(x.length:Int)
   ·left;have r:bq n' 64=(q'.length:Int):=by rw[dp hn.1];exact hq
    obtain⟨p,hp⟩:∃p,min x.length (64-q'.length)=p:=⟨_,rfl⟩;have tq:(64-(q'.length:Int)).toNat=64-q'.length:=by omega
    have cw:(Cg w q'.length (64-q'.length) x).length=64:=by rw[rC (by omega)];exact hw
    have c1:0<64-q'.length:=by omega
    have c2:0<=(p:Int)/\(p:Int)<=(x.length:Int)/\(x.length:Int)<=(x.length:Int):=by omega
    have c3:0<=(q'.length:Int)/\(q'.length:Int)<=64/\ja 64<=64:=⟨by omega,by omega,by decide⟩;have wp:IntKind.u64.wrap (p:Int)=(p:Int):=wrap_u64 (by omega) (by omega);have wn:IntKind.u64.wrap (n'+(p:Int))=(n'+p)%18446744073709551616:=by simp[ar,jk,iw]
    have hxs:x=x.take p++x.drop p:=(kv p x).symm;have z7d:cut x (p:Int) (x.length:Int)=x.drop p:=by simp[cut]
    have tk:(x.take (64-q'.length))=x.take p:=by
     rcases Nat.le_total x.length (64-q'.length)with h1|h1
     ·rw[du h1,du (by omega)]
     ·rw[show p=64-q'.length by omega]
    have cpy:Cg w q'.length (64-q'.length) x=(q'++x.take p)++w.drop (q'.length+p):=by
     unfold Cg;rw[hwq,tk,show min x.length (64-q'.length)=p from hp]
    have cb:∀c∈Cg w q'.length (64-q'.length) x,BO c:=by
     rw[cpy];intro c hc;rcases dy.1 hc with hc|hc
     ·rcases dy.1 hc with hc|hc
      ·rw[<-hwq]at hc;exact hwb c (lr hc)
      ·exact hbx c (lr hc)
     ·exact hwb c (jm hc)
    have lp:(x.take p).length=p:=by simp;omega
    have ld:(x.drop p).length<j+0\/(x.drop p).length<x.length:=.inr (by simp;omega);have e2:bq ((n'+(p:Int))%18446744073709551616) 64=(n'+p)%64:=by rw[dp (by omega)];omega
    by_cases z:(n'+(p:Int))%64=0
    ·have z6I:q'.length+p=64:=by omega
     have hcw:Cg w q'.length (64-q'.length) x=q'++x.take p:=by rw[cpy,og (by omega)];simp
     refine⟨_,(x.drop p).length,by simp;omega,⟨x.drop p,_,JH h' (q'++x.take p),[],(n'+p)%18446744073709551616,rfl,⟨⟨q'++x.take p,rfl,by simp;omega,by simp,by rw[<-hcw];exact cb⟩,Zz hh _,⟨by omega,by omega⟩,by simp;omega⟩,ca _,fun c hc=>hbx c (jm hc),?_,by simp;omega⟩,fun k rec=>?_⟩
     ·rw[<-hf,hxs,im,kv,bR _ _ _ (by omega) z7W]
     ·unfold SS;simp only[AQ,AF,AL,AB,AJ,DQ,EW,GI,Km,HY,IC,YT,e,r,tq,bh,hp,c1,c2,c3,wp,wn,e2,z,z7d,hcw,decide_true,cond_true,and_self,if_true,q6B h' hh (q'++x.take p) (by simp;omega) (by rw[<-hcw];exact cb) _ (show 100<N by omega)]
    ·have z7x:q'.length+p<64:=by omega
     have hpx:p=x.length:=by omega
     refine⟨_,(x.drop p).length,by simp;omega,⟨x.drop p,_,h',q'++x.take p,(n'+p)%18446744073709551616,rfl,⟨⟨Cg w q'.length (64-q'.length) x,rfl,cw,?_,cb⟩,hh,⟨by omega,by omega⟩,by simp;omega⟩,ca _,fun c hc=>hbx c (jm hc),?_,by simp;omega⟩,fun k rec=>?_⟩
     ·rw[cpy,xn]
     ·have e9:(x.take p).foldl feed (h',q')=(h',q'++x.take p):=uA _ _ _ (by rw[lp];exact z7x);rw[<-hf,<-e9,<-im,kv]
     ·unfold SS;simp only[AQ,AF,AL,AB,AJ,DQ,EW,GI,Km,HY,IC,YT,e,r,tq,bh,hp,c1,c2,c3,wp,wn,e2,z,z7d,AE,and_self]
   ·right;have hx0:x=[]:=fh (by omega);subst hx0;have en:n'=(n+l.length)%18446744073709551616:=by have:=hn.1;have:=hn.2;simp at hne;omega
    refine⟨_,⟨.agg [.agg (h'.map wI),.agg w,.int n'],?_,rfl⟩,fun k rec=>?_⟩
    ·rw[<-hf,<-en];exact⟨⟨w,rfl,hw,hwq,hwb⟩,hh,hn,hq⟩
    ·unfold SS;simp only[AF,AL,AJ,e,AE])
  l.length l.length [.slice l,m] N (ca _) ⟨l,m,h,q,n,rfl,hm,ca _,hb,rfl,rfl⟩ (by omega)
 refine⟨m',_,h1,rfl,fun k=>?_⟩;rw[zX];unfold fB;simp only[AQ];exact(h2 _).trans rfl
end
section
variable {R:Type} {N:Nat}
theorem Ld {l:List C} {i:Nat} (hi:i<l.length):l.take (i+1)=l.take i++[l.getD i .nil]:=by rw[mb,bm hi,bn,bm hi];rfl
def Ee (l:List C):List C:=l.flatMap au
def Hc (B:Nat) (l:List C):Prop:=∀x∈l,x= .slice x.elems/\(∀c∈x.elems,BO c)/\x.elems.length<=B
theorem q2L (l:List C) (m:C) (h:List W32) (q:List C) (n:Int) (hm:Gr m h q n) (B:Nat) (hb:Hc B l) (hl:l.length<N) (hN:B+100<N) (hN2:N<4611686018427387904):
  ∃m' n',Gr m' ((Ee l).foldl feed (h,q)).1 ((Ee l).foldl feed (h,q)).2 n'/\n'=(n+(Ee l).length)%18446744073709551616/\∀k:KD R,Oo N (.slice l) m k=k [m'] []:=by
 obtain⟨d,⟨m',h1,rfl⟩,h2⟩:=FO (R:=R) (F:=fun k2=>Wn N k2) l.length
  (fun i st=>∃m:C,Gr m ((Ee (l.take i)).foldl feed (h,q)).1 ((Ee (l.take i)).foldl feed (h,q)).2 ((n+(Ee (l.take i)).length)%18446744073709551616)/\st=[.slice l,.int l.length,.int i,m])
  (fun d=>∃m',Gr m' ((Ee l).foldl feed (h,q)).1 ((Ee l).foldl feed (h,q)).2 ((n+(Ee l).length)%18446744073709551616)/\d=[m'])
  (fun i st hi hst=>by
   obtain⟨m,hm,rfl⟩:=hst;have e1:(i:Int)<(l.length:Int):=by omega
   obtain⟨y1,y2,y3⟩:=hb _ (CR hi);obtain⟨m2,n2,h2,hn2,h3⟩:=put_eq (R:=R) (N:=N) (l.getD i .nil).elems m _ _ _ hm y2 (by omega);have ec:Ee (l.take (i+1))=Ee (l.take i)++(l.getD i .nil).elems:=by rw[Ld hi];unfold Ee;rw[kc];simp
   refine⟨_,⟨m2,?_,rfl⟩,fun k rec=>?_⟩
   ·rw[ec,im];have en:n2=(n+((Ee (l.take i)++(l.getD i .nil).elems).length:Nat))%18446744073709551616:=by rw[hn2,bx];omega
    rw[<-en];exact h2
   ·unfold Wn;simp only[AF,AL,AP,AU,AB,AJ,e1,AE,bu,and_self,bh,BM (show i<4611686018427387904 by omega)];rw[y1,h3];simp only[AF])
  (fun st hst=>by
   obtain⟨m,hm,rfl⟩:=hst;rw[ir]at hm;refine⟨_,⟨m,hm,rfl⟩,fun k rec=>?_⟩;unfold Wn;simp only[AF,AL,AP,AU,AB,fb,AE])
  (N:=N) (by omega) (st:=[.slice l,.int l.length,.int (0:Nat),m]) ⟨m,by
   have:=hm.nn;have e:(n+((Ee (l.take 0)).length:Nat))%18446744073709551616=n:=by
    have:(Ee (l.take 0)).length=0:=rfl;rw[this];have:=hm.nn.1;have:=hm.nn.2;omega
   rw[e];exact hm,rfl⟩
 refine⟨m',_,h1,rfl,fun k=>?_⟩;rw[zU];unfold eZ;simp only[AQ,AJ];exact(h2 _).trans rfl
def b4 (n:Int):List C:=[az (ar bt (fx n (2^24))),az (ar bt (fx n (2^16))),az (ar bt (fx n (2^8))),az (ar bt n)]
theorem cC (n:C) (k:KD R):LC N n k=k [.slice (b4 n.toInt)] []:=by
 rw[ab];unfold fD;rfl
theorem JD (n:Int):(b4 n).length=4:=rfl
theorem Nl (x:Int):BO (.int (ar bt x)):=by
 refine⟨rfl,?_,?_⟩
 ·show 0<=ar bt x;rw[wrap_u8];omega
 ·show ar bt x<256;rw[wrap_u8];omega
theorem Ng (n:Int):∀c∈b4 n,BO c:=by
 intro c hc;simp only[b4,gr,jd,or_false]at hc;rcases hc with rfl|rfl|rfl|rfl <;> exact Nl _
def Ci (n:Int):List C:=.int 128::bf (63-((n+8)%64).toNat) (.int 0)
def Dc (n:Int):List C:=b4 (IntKind.u32.wrap (fx (n*8%18446744073709551616) (2^32)))++b4 (IntKind.u32.wrap (n*8%18446744073709551616))
theorem OU (n:Int):∀c∈Ci n,BO c:=by
 intro c hc;rcases gr.1 hc with rfl|hc
 ·exact⟨rfl,by decide,by decide⟩
 ·rw[ij hc];exact⟨rfl,by decide,by decide⟩
theorem yQ (n:Int):∀c∈Dc n,BO c:=by
 intro c hc;rcases dy.1 hc with hc|hc
 ·exact Ng _ c hc
 ·exact Ng _ c hc
def Ke (h:List W32):C:=.agg (h.flatMap fun x=>b4 x.toNat)
theorem Vc:∀(h:List W32),(h.flatMap fun x=>b4 x.toNat).length=4*h.length
 | []=>rfl
 |x::h=>by rw[jv,bx,Vc h,JD,cn];omega
theorem q4w (A:List C) (z:C) (n:Nat) (y:List C) (hy:y.length<=n):Cg (A++bf n z) A.length n y=A++(y++bf (n-y.length) z):=by
 unfold Cg;rw[xn,du hy,Nat.min_eq_left hy,<-List.drop_drop,List.drop_left,List.drop_replicate,dq]
theorem q6j (f:W32->List C) (H:List W32) (i:Nat) (hi:i<H.length):(H.take (i+1)).flatMap f=(H.take i).flatMap f++f (H.getD i 0):=by
 have et:H.take (i+1)=H.take i++[H.getD i 0]:=by rw[mb,bm hi,bn,bm hi];rfl
 rw[et,kc];simp
def Nw (H:List W32) (i:Nat):List C:=((H.take i).flatMap fun x=>b4 x.toNat)++bf (32-4*i) (.int 0)
theorem q4Z (H:List W32) (hh:H.length=8) (i:Nat) (hi:i<8):Cg (Nw H i) (4*i) (32-4*i) (b4 (H.getD i 0).toNat)=Nw H (i+1):=by
 have la:((H.take i).flatMap fun x=>b4 x.toNat).length=4*i:=by rw[Vc,kl];omega
 have key:=q4w ((H.take i).flatMap fun x=>b4 x.toNat) (.int 0) (32-4*i) (b4 (H.getD i 0).toNat) (by rw[JD];omega);rw[la,JD]at key;unfold Nw;rw[key,q6j _ H i (by omega),dq,show 32-4*i-4=32-4*(i+1) by omega]
theorem q4Y (H:List W32) (hh:H.length=8):dj (Nw H 8)=Ke H:=by
 unfold Nw Ke;rw[du (by omega)];simp
theorem q8M (m:C) (h:List W32) (q:List C) (n:Int) (hm:Gr m h q n) (hN:1000<N) (k:KD R):
  SN N m k=k [Ke ((Dc n).foldl feed ((Ci n).foldl feed (h,q))).1,m] []:=by
 obtain⟨⟨w,rfl,hw,hwq,hwb⟩,hh,hn,hq⟩:=hm;have hm:Gr (.agg [.agg (h.map wI),.agg w,.int n]) h q n:=⟨⟨w,rfl,hw,hwq,hwb⟩,hh,hn,hq⟩;have w8:IntKind.u64.wrap (n+8)=(n+8)%18446744073709551616:=by simp[ar,jk,iw]
 have r:bq ((n+8)%18446744073709551616) 64=(n+8)%64:=by rw[dp (by omega)];omega
 have wl:IntKind.u64.wrap (n*8)=n*8%18446744073709551616:=by simp[ar,jk,iw]
 obtain⟨z,hz⟩:∃z:Nat,(n+8)%64=z:=⟨((n+8)%64).toNat,by omega⟩;have hz64:z<64:=by omega
 have e1:IntKind.u64.wrap (64-(z:Int))=64-z:=wrap_u64 (by omega) (by omega);have tz:(64-(z:Int)).toNat=63-z+1:=by omega
 have ef:cr (63-z+1) (dc 0 (List.set (bf (63-z+1) (AI (br bt))) 0 (az 128)))=Ci n:=by
  rw[ib,List.replicate_succ];show cr (63-z+1) (az 128::bf (63-z) (AI (br bt)))=_;rw[du (by simp)];unfold Ci;rw[hz];rfl
 obtain⟨m1,n1,hm1,_,h1⟩:=put_eq (R:=R) (N:=N) (Ci n) _ _ _ _ hm (OU n) (by simp[Ci];omega);obtain⟨m2,n2,hm2,_,h2⟩:=put_eq (R:=R) (N:=N) (Dc n) _ _ _ _ hm1 (yQ n) (by simp[Dc,JD];omega);obtain⟨⟨w2,rfl,_,_,_⟩,hh2,_,_⟩:=hm2;generalize hH:((Dc n).foldl feed ((Ci n).foldl feed (h,q))).1=H at*;have z32:AI (.arr 32 (.int .u8))= .agg (bf 32 (.int 0)):=rfl;have lp:∀K:KD R,Ac N (SM N K) [.agg (H.map wI),.int 0,.agg [.agg (h.map wI),.agg w,.int n],AI (.arr 32 (.int .u8)),.agg (bf 32 (.int 0))] []=K [.agg [.agg (h.map wI),.agg w,.int n],AI (.arr 32 (.int .u8)),Ke H] []:=fun K=>by
  have key:=Dd (F:=SM N K) (fun i=>[.agg (H.map wI),.int i,.agg [.agg (h.map wI),.agg w,.int n],AI (.arr 32 (.int .u8)),.agg (Nw H i)]) (fun _=>[]) 8 (K [.agg [.agg (h.map wI),.agg w,.int n],AI (.arr 32 (.int .u8)),Ke H] []) ?_ ?_ (N:=N) (by omega)
  ·exact key
  ·intro i hi rec;have e1:(i:Int)<8:=by omega
   have e2:IntKind.i64.wrap (4*(i:Int))=((4*i:Nat):Int):=by rw[wrap_i64 (by omega) (by omega)];omega
   have e3:(32-((4*i:Nat):Int)).toNat=32-4*i:=by omega
   have c1:0<32-4*i:=by omega
   have c2:((4*i:Nat):Int)<=32/\ja 32<=32:=⟨by omega,by decide⟩;have gi:bc (.agg (H.map wI)) i=wI (H.getD i 0):=HF (by omega);have ec:=q4Z H hh2 i hi;unfold SM;simp only[AF,AL,AP,AU,Ab,AB,AJ,DQ,e1,e2,e3,c1,c2,gi,cC,Gm,ec,AE,bu,and_self,bh,BM (show i<4611686018427387904 by omega)]
  ·intro rec;have e:¬((8:Nat):Int)<8:=by decide
   unfold SM;simp only[AF,AL,AP,AU,Ab,AB,e,AE,q4Y H hh2]
 rw[zT];unfold eY;simp only[Km,AB,w8,r,e1,wl,hz,tz,ef];refine(if_pos (by omega)).trans ?_;refine(if_pos ⟨by decide,by omega⟩).trans ?_;rw[h1];have m32:min (av 32) 64=32:=rfl;simp only[AF,cC,AB,AJ,bw,cond_true,JD,m32];refine(if_pos (by omega)).trans ?_;have h2':=h2;unfold Dc at h2';rw[h2'];simp only[AQ,AF,EW,z32];exact(lp _).trans rfl
end
section
variable {R:Type} {N:Nat}
def ivW:List W32:=[1779033703,3144134277,1013904242,2773480762,1359893119,2600822924,528734635,1541459225]
theorem q9t:∃m,Gr m ivW [] 0/\∀k:KD R,SU N k=k [m] []:=by
 refine⟨.agg [.agg (ivW.map wI),.agg (bf 64 (.int 0)),.int 0],⟨⟨bf 64 (.int 0),rfl,by simp,rfl,fun c hc=>?_⟩,rfl,⟨by decide,by decide⟩,rfl⟩,fun k=>?_⟩
 ·rw[ij hc];exact⟨rfl,by decide,by decide⟩
 ·rw[zY];unfold fC;rfl
def CY (x:C):List C:=b4 (IntKind.u32.wrap (x.elems.length:Int))++x.elems
def CH (d:C) (l:List C):List C:=[d,.int (IntKind.u8.wrap (l.length:Int))]++l.flatMap CY
def HZ (p:List C):C:=Ke ((Dc p.length).foldl feed ((Ci p.length).foldl feed (p.foldl feed (ivW,[])))).1
theorem QR (d:C) (hd:BO d) (l:List C) (B:Nat) (hb:Hc B l) (hl:l.length+1000<N) (hN:B+1000<N) (hN2:N<4611686018427387904) (hm:(CH d l).length<4611686018427387904) (k:KD R):
  Jy N d (.slice l) k=k [HZ (CH d l)] []:=by
 obtain⟨m0,hm0,h0⟩:=q9t (R:=R) (N:=N);have p1:Hc 10 [bj [d,az (IntKind.u8.wrap (l.length:Int))]]:=fun x hx=>by
  rw[List.mem_singleton.1 hx];refine⟨rfl,fun c hc=>?_,by simp[AJ]⟩;simp only[AJ,gr,jd,or_false]at hc;rcases hc with rfl|rfl
  ·exact hd
  ·exact Nl _
 obtain⟨m1,n1,hm1,hn1,h1⟩:=q2L (R:=R) (N:=N) [bj [d,az (IntKind.u8.wrap (l.length:Int))]] m0 ivW [] 0 hm0 10 p1 (by simp;omega) (by omega) hN2;have c1:Ee [bj [d,az (IntKind.u8.wrap (l.length:Int))]]=[d,az (IntKind.u8.wrap (l.length:Int))]:=rfl;rw[c1]at hm1 hn1
 obtain⟨dd,⟨m2,hm2,rfl⟩,h2⟩:=FO (R:=R) (F:=fun k2=>Wm N k2) l.length
  (fun i st=>∃m:C,Gr m (([d,az (IntKind.u8.wrap (l.length:Int))]++(l.take i).flatMap CY).foldl feed (ivW,[])).1 (([d,az (IntKind.u8.wrap (l.length:Int))]++(l.take i).flatMap CY).foldl feed (ivW,[])).2 ((([d,az (IntKind.u8.wrap (l.length:Int))]++(l.take i).flatMap CY).length:Nat)%18446744073709551616)/\st=[.slice l,.int l.length,.int i,AI (.arr 32 (.int .u8)),m])
  (fun dd=>∃m',Gr m' ((CH d l).foldl feed (ivW,[])).1 ((CH d l).foldl feed (ivW,[])).2 (((CH d l).length:Nat)%18446744073709551616)/\dd=[AI (.arr 32 (.int .u8)),m'])
  (fun i st hi hst=>by
   obtain⟨m,hm,rfl⟩:=hst;have e1:(i:Int)<(l.length:Int):=by omega
   obtain⟨y1,y2,y3⟩:=hb _ (CR hi);have pp:Hc (B+4) [bj (b4 (IntKind.u32.wrap ((l.getD i .nil).elems.length:Int))),l.getD i .nil]:=fun x hx=>by
    simp only[gr,jd,or_false]at hx;rcases hx with rfl|rfl
    ·exact⟨rfl,Ng _,by rw[AJ,JD];omega⟩
    ·exact⟨y1,y2,by omega⟩
   obtain⟨m2,n2,h2,hn2,h3⟩:=q2L (R:=R) (N:=N) _ m _ _ _ hm (B+4) pp (by simp;omega) (by omega) hN2;have cc:Ee [bj (b4 (IntKind.u32.wrap ((l.getD i .nil).elems.length:Int))),l.getD i .nil]=CY (l.getD i .nil):=by
    unfold Ee CY;rw[jv,jv,List.flatMap_nil,List.append_nil,AJ]
   have ec:(l.take (i+1)).flatMap CY=(l.take i).flatMap CY++CY (l.getD i .nil):=by rw[Ld hi,kc];simp
   rw[cc]at h2 hn2;refine⟨_,⟨m2,?_,rfl⟩,fun k rec=>?_⟩
   ·rw[ec,<-dq,im];have en:n2=((([d,az (IntKind.u8.wrap (l.length:Int))]++(l.take i).flatMap CY++CY (l.getD i .nil)).length:Nat):Int)%18446744073709551616:=by
     rw[hn2];generalize [d,az (IntKind.u8.wrap (l.length:Int))]++(l.take i).flatMap CY=z;generalize CY (l.getD i .nil)=y;rw[bx];omega
    rw[<-en];exact h2
   ·unfold Wm;simp only[AF,AL,AP,AU,Ab,AB,AJ,e1,AE,bu,and_self,bh,cC,h3,BM (show i<4611686018427387904 by omega)])
  (fun st hst=>by
   obtain⟨m,hm,rfl⟩:=hst;rw[ir]at hm;refine⟨_,⟨m,hm,rfl⟩,fun k rec=>?_⟩;unfold Wm;simp only[AF,AL,AP,AU,Ab,AB,fb,AE])
  (N:=N) (by omega) (st:=[.slice l,.int l.length,.int (0:Nat),AI (.arr 32 (.int .u8)),m1]) ⟨m1,by
   have e:([d,az (IntKind.u8.wrap (l.length:Int))]++(l.take 0).flatMap CY)=[d,az (IntKind.u8.wrap (l.length:Int))]:=rfl;rw[e];have en:n1=((([d,az (IntKind.u8.wrap (l.length:Int))]).length:Nat):Int)%18446744073709551616:=by rw[hn1];simp
   rw[<-en];exact hm1,rfl⟩
 have ln:(((CH d l).length:Nat):Int)%18446744073709551616=((CH d l).length:Int):=by omega
 rw[ln]at hm2;rw[zR];unfold eV;simp only[h0,AF,AJ,h1,AQ];refine(h2 _).trans ?_;simp only[AL,q8M m2 _ _ _ hm2 (show 1000<N by omega),AF];rfl
end
section
variable {R:Type} {N:Nat}
abbrev z32:C:=AI (.arr 32 (.int .u8))
theorem q6t (l:List C) (i:Nat):bc (.agg l) i=l.getD i .nil:=rfl
theorem mB (l:List C) (i:Nat) (x:C):db (.agg l) i x= .agg (l.set i x):=rfl
theorem WO (i m r:Nat) (hi:i=4*m+r) (hr:r<4) (hm:m<8) (c h:List C) (hc:c.length=32) (hh:h.length=8) (x:Nat) (hx:x<4294967296) (hg:h.getD m .nil= .int (x:Int)) (K rec:KD R):
  TP N K rec [.int 8,.int (i:Int),z32,.agg c,.agg h] []=rec [.int 8,.int ((i:Int)-1),z32,.agg (c.set i (.int ((x%256:Nat):Int))),.agg (h.set m (.int ((x / 256:Nat):Int)))] []:=by
 have z2:(i:Int)<32:=by omega
 have e8:av 8=8:=rfl;have q:dz (i:Int) 4=(m:Int):=by rw[ek (by omega)];omega
 have q2:IntKind.i64.wrap (m:Int)=(m:Int):=wrap_i64 (by omega) (by omega);have c1:(m:Int)<((8:Nat):Int):=by omega
 have w1:IntKind.i64.wrap ((i:Int)-1)=(i:Int)-1:=wrap_i64 (by omega) (by omega);have m1:IntKind.u8.wrap (bq (x:Int) 256)=((x%256:Nat):Int):=by rw[dp (by omega),wrap_u8];omega
 have m2:IntKind.u64.wrap (dz (x:Int) 256)=((x / 256:Nat):Int):=by rw[ek (by omega),wrap_u64 (by omega) (by omega)];omega
 unfold TP;simp only[AF,AL,AP,AU,Ab,AB,DQ,bu,z2,e8,q,q2,c1,w1,q6t,mB,cq,bh,hg,m1,m2,AE,and_self,eg];rfl
theorem z3L (A B:List C) (n:Nat) (hA:A.length=n) (a b c d a' b' c' d':C):((((A++[a,b,c,d]++B).set (n+3) d').set (n+2) c').set (n+1) b').set n a'=A++[a',b',c',d']++B:=by
 subst hA;apply fl;intro i;simp only[dq];by_cases h:i<A.length
 ·simp[gf,fm h,show ¬A.length=i by omega,show ¬A.length+1=i by omega,show ¬A.length+2=i by omega,show ¬A.length+3=i by omega]
 ·obtain⟨j,rfl⟩:∃j,i=A.length+j:=⟨i-A.length,by omega⟩
  match j with
  |0=>simp[gf]
  |1=>simp[gf]
  |2=>simp[gf]
  |3=>simp[gf]
  |j+4=>simp[gf,fu]
theorem VH (x:Nat) (hx:x<4294967296):b4 (x:Int)=[.int ((x / 256 / 256 / 256%256:Nat):Int),.int ((x / 256 / 256%256:Nat):Int),.int ((x / 256%256:Nat):Int),.int ((x%256:Nat):Int)]:=by
 unfold b4;simp only[wrap_u8];rw[ic _ (by decide),ic _ (by decide),ic _ (by decide)];simp only[show(2:Int)^24=16777216 by decide,show(2:Int)^16=65536 by decide,show(2:Int)^8=256 by decide];rw[show((x:Int) / 16777216)%256=((x / 256 / 256 / 256%256:Nat):Int) by omega,show((x:Int) / 65536)%256=((x / 256 / 256%256:Nat):Int) by omega,show((x:Int) / 256)%256=((x / 256%256:Nat):Int) by omega,show(x:Int)%256=((x%256:Nat):Int) by omega]
theorem wY (hW:List W32) (hh8:hW.length=8) (K:KD R):∀(m M:Nat) (h:List C),m<=8->h.length=8->(∀j,j<m->h.getD j .nil=wI (hW.getD j 0))->4*m+1<M->
  Ac M (TP N K) [.int 8,.int (4*(m:Int)-1),z32,.agg (bf (4*m) (.int 0)++(hW.drop m).flatMap fun x=>b4 x.toNat),.agg h] []=K [z32,Ke hW] []
 |0,M,h,_,hl,_,hM=>by
  obtain⟨M,rfl⟩:∃a,M=a+1:=⟨M-1,by omega⟩;rw[Bm];unfold TP;have e:¬(0:Int)<=4*((0:Nat):Int)-1:=by omega
  simp only[AF,AL,AP,AU,Ab,AB,e,AE];rfl
 |m+1,M,h,hm,hl,hg,hM=>by
  obtain⟨M,rfl⟩:∃a,M=a+1+1+1+1:=⟨M-4,by omega⟩;have hx:=CJ (hW.getD m 0);have g:=hg m (by omega);obtain⟨x,hxx⟩:∃x,(hW.getD m 0).toNat=x:=⟨_,rfl⟩;have hr:bf (4*(m+1)) (az 0)=bf (4*m) (.int 0)++[.int 0,.int 0,.int 0,.int 0]:=by rw[show 4*(m+1)=4*m+4 by omega,<-List.replicate_append_replicate];rfl
  have hd:(hW.drop m).flatMap (fun x=>b4 x.toNat)=b4 (x:Int)++(hW.drop (m+1)).flatMap fun x=>b4 x.toNat:=by
   rw[List.drop_eq_getElem_cons (by omega),jv];rw[bn,bm (by omega)]at hxx;simp only[jh]at hxx;rw[hxx]
  rw[hxx]at hx;have hgx:h.getD m .nil= .int (x:Int):=by rw[g,<-hxx];rfl
  have lc:(bf (4*m) (az 0)++[az 0,.int 0,.int 0,.int 0]++(hW.drop (m+1)).flatMap fun x=>b4 x.toNat).length=32:=by simp only[bx,List.length_replicate,Vc,List.length_drop,hh8,cn,df];omega
  have z57:∀(l:List C) (v:C),l.length=8->(l.set m v).getD m .nil=v:=fun l v hl=>by rw[bn,List.getElem?_set_self (by omega)];rfl
  rw[hr];have i3:(4*((m+1:Nat):Int)-1)=((4*m+3:Nat):Int):=by omega
  have i2:(((4*m+3:Nat):Int)-1)=((4*m+2:Nat):Int):=by omega
  have i1:(((4*m+2:Nat):Int)-1)=((4*m+1:Nat):Int):=by omega
  have i0:(((4*m+1:Nat):Int)-1)=((4*m:Nat):Int):=by omega
  rw[i3,Bm,WO (4*m+3) m 3 rfl (by omega) (by omega) _ _ lc hl x hx hgx,i2,Bm,WO (4*m+2) m 2 rfl (by omega) (by omega) _ _ (by rw[eg];exact lc) (by rw[eg];exact hl) (x / 256) (by omega) (z57 _ _ hl),i1,
   Bm,WO (4*m+1) m 1 rfl (by omega) (by omega) _ _ (by rw[eg,eg];exact lc) (by rw[eg,eg];exact hl) (x / 256 / 256) (by omega) (z57 _ _ (by rw[eg];exact hl)),i0,
   Bm,WO (4*m) m 0 rfl (by omega) (by omega) _ _ (by rw[eg,eg,eg];exact lc) (by rw[eg,eg,eg];exact hl) (x / 256 / 256 / 256) (by omega) (z57 _ _ (by rw[eg,eg];exact hl)),
   z3L _ _ (4*m) (by simp),dq,<-VH x hx,<-hd]
  have e:(((4*m:Nat):Int)-1)=4*(m:Int)-1:=by omega
  rw[e];refine wY hW hh8 K m M _ (by omega) (by simp only[eg];exact hl) (fun j hj=>?_) (by omega);rw[<-hg j (by omega)];simp only[bn,List.getElem?_set_ne (show m≠j by omega)]
theorem wZ (t:C) (ht:Cz t) (hN:1000<N) (K:KD R):∀(q M:Nat) (b:List C) (h:List W32),b.length=64*q->h.length=8->(∀c∈b,BO c)->q<M->
  Ac M (Xg N K) [t,.slice b,.int 8,z32,.agg (h.map wI)] []=K [.int 8,z32,.agg ((b.foldl feed (h,[])).1.map wI)] []
 |0,M,b,h,hb,hh,_,hM=>by
  obtain⟨M,rfl⟩:∃a,M=a+1:=⟨M-1,by omega⟩;have hb0:b=[]:=fh (by omega);subst hb0;rw[Bm];unfold Xg;simp only[AF,AL,AP,AU,Ab,AJ,AB,df,fb,AE,xm];rfl
 |q+1,M,b,h,hb,hh,hbb,hM=>by
  obtain⟨M,rfl⟩:∃a,M=a+1:=⟨M-1,by omega⟩;have z':0<(b.length:Int):=by omega
  have c1:64<=(b.length:Int):=by omega
  have c2:ja 0<=0/\ja 0<=64/\64<=(b.length:Int):=⟨by decide,by decide,c1⟩;have c3:ja 0<=64/\64<=(b.length:Int)/\(b.length:Int)<=(b.length:Int):=⟨by decide,c1,Int.le_refl _⟩;have e8:av 8=8:=rfl;have th:cr 8 (dc 0 (h.map wI))=h.map wI:=by rw[ib];exact du (by rw[ez];omega)
  have k1:cut b 0 64=b.take 64:=by simp[cut]
  have k2:cut b 64 (b.length:Int)=b.drop 64:=by simp[cut]
  have bl:∀k:KD R,Pf N t (.slice (h.map wI)) (.slice (b.take 64)) k=k [.int 8,.agg ((JH h (b.take 64)).map wI)] []:=fun k=>
   q3s t ht h (b.take 64) hh (by simp;omega) (fun c hc=>hbb c (lr hc)) hN k
  have ff:b.foldl feed (h,[])=(b.drop 64).foldl feed (JH h (b.take 64),[]):=by
   conv=>lhs;rw[<-kv 64 b]
   rw[im,bR (b.take 64) h [] (by simp;omega) (by simp)];rfl
  rw[Bm,ff,<-wZ t ht hN K q M (b.drop 64) (JH h (b.take 64)) (by simp;omega) (Zz hh _) (fun c hc=>hbb c (jm hc)) (by omega)];unfold Xg;simp only[AF,AL,AP,AU,Ab,AJ,AB,DQ,z',c2,c3,e8,k1,k2,th,bl,AE,and_self,bh];rfl
def ivL (i:Nat):List C:=((ivW.take i).map wI)++bf (8-i) (AI (.int .u64))
theorem q6Z:∀i,i<8->(ivL i).set i (wI (ivW.getD i 0))=ivL (i+1)
 |0,_=>rfl
 |1,_=>rfl
 |2,_=>rfl
 |3,_=>rfl
 |4,_=>rfl
 |5,_=>rfl
 |6,_=>rfl
 |7,_=>rfl
 |i+8,h=>by omega
theorem q7h (t:C) (ht:Cz t) (b:List C) (hN:1000<N) (K:KD R):
  Ac N (TQ N K) [t,.slice b,.int 8,.int 0,z32,.agg (bf 8 (AI (.int .u64)))] []=K [t,.slice b,.int 8,z32,.agg (ivW.map wI)] []:=by
 have key:=Dd (F:=TQ N K) (fun i=>[t,.slice b,.int 8,.int (i:Nat),z32,.agg (ivL i)]) (fun _=>[]) 8 (K [t,.slice b,.int 8,z32,.agg (ivW.map wI)] []) ?_ ?_ (N:=N) (by omega)
 ·exact key
 ·intro i hi rec;have e1:(i:Int)<8:=by omega
  have e8:av 8=8:=rfl;have e2:(i:Int)<((8:Nat):Int):=by omega
  have rt:∀k:KD R,LR N (t.get 0) (.int i) k=k [wI (ivW.getD i 0)] []:=fun k=>by rw[pE _ i (by rw[ht.l0];omega) (by omega) (by omega),ht.w0 i hi];rfl
  unfold TQ;simp only[AF,AL,AP,AU,Ab,Av,AB,AJ,DQ,e1,e2,e8,rt,mB,cq,AE,bu,and_self,bh,bw,eg,q6Z i hi,BM (show i<4611686018427387904 by omega)];rfl
 ·intro rec;have e:¬((8:Nat):Int)<8:=by decide
  unfold TQ;simp only[AF,AL,AP,AU,Ab,Av,AB,AJ,DQ,e,AE,bw];rfl
end
section
variable {R:Type} {N:Nat}
theorem q7k (t p1:C) (p:List C) (n:Nat) (hp:p.length=n) (hn:n<=4398046511104) (hN:1000<N) (K:KD R):
  Ac N (TR N K) [p1,t,.slice (p++[.int 128]),z32] []=K [p1,t,.slice (p++Ci n),z32] []:=by
 obtain⟨m,hm⟩:∃m,63-(((n:Int)+8)%64).toNat=m:=⟨_,rfl⟩;have hm2:m<64:=by omega
 have key:=Dd (F:=TR N K) (fun i=>[p1,t,.slice (p++.int 128::bf i (.int 0)),z32]) (fun _=>[]) m (K [p1,t,.slice (p++Ci n),z32] []) ?_ ?_ (N:=N) (by omega)
 ·exact key
 ·intro i hi rec;have hl:(p++az 128::bf i (az 0)).length=n+1+i:=by simp[hp];omega
  have z:¬((n+1+i:Nat):Int).tmod 64=56:=by rw[dp (by omega)];omega
  have g1:(n+1+i+1)*1<=140737488355328/\n+1+i+1<=9223372036854775807:=by omega
  have e:(p++az 128::bf i (az 0))++[az 0]=p++az 128::bf (i+1) (az 0):=by rw[List.replicate_succ',dq];rfl
  have hl2:(p++az 128::bf (i+1) (az 0)).length=n+1+i+1:=by simp[hp];omega
  unfold TR;simp only[AF,AL,AP,AU,AJ,hl,z,g1,e,hl2,AE,bw,and_self]
 ·intro rec;have hl:(p++az 128::bf m (az 0)).length=n+1+m:=by simp[hp];omega
  have z:((n+1+m:Nat):Int).tmod 64=56:=by rw[dp (by omega)];omega
  have e:Ci n=az 128::bf m (az 0):=by unfold Ci;rw[hm]
  rw[e];unfold TR;simp only[AF,AL,AP,AU,AJ,hl,z,AE,bw]
theorem q7j (t:C) (b e:List C) (x:Nat) (hx:x<18446744073709551616) (i:Nat) (hi:i<8) (K rec:KD R):
  Pc N K rec [t,.int 0,.int 8,.int 8,.slice b,.int (x:Int),.int (i:Int),z32,.agg e] []=rec [t,.int 0,.int 8,.int 8,.slice b,.int ((x / 256:Nat):Int),.int ((i:Int)-1),z32,.agg (e.set i (.int ((x%256:Nat):Int)))] []:=by
 have c1:(i:Int)<((8:Nat):Int):=by omega
 have e8:av 8=8:=rfl;have w1:IntKind.i64.wrap ((i:Int)-1)=(i:Int)-1:=wrap_i64 (by omega) (by omega);have m1:IntKind.u8.wrap (bq (x:Int) 256)=((x%256:Nat):Int):=by rw[dp (by omega),wrap_u8];omega
 have m2:IntKind.u64.wrap (dz (x:Int) 256)=((x / 256:Nat):Int):=by rw[ek (by omega),wrap_u64 (by omega) (by omega)];omega
 have t0:av 0=0:=rfl;unfold Pc;simp only[AF,AL,AP,AU,Ab,Av,Ba,DD,Da,AJ,AB,c1,e8,t0,w1,m1,m2,mB,cq,bu,AE,bw,and_self,bh];rfl
theorem yP (n:Nat) (hn:n<=4398046511104):Dc n=[.int ((n*8 / 256 / 256 / 256 / 256 / 256 / 256 / 256%256:Nat):Int),.int ((n*8 / 256 / 256 / 256 / 256 / 256 / 256%256:Nat):Int),.int ((n*8 / 256 / 256 / 256 / 256 / 256%256:Nat):Int),.int ((n*8 / 256 / 256 / 256 / 256%256:Nat):Int),.int ((n*8 / 256 / 256 / 256%256:Nat):Int),.int ((n*8 / 256 / 256%256:Nat):Int),.int ((n*8 / 256%256:Nat):Int),.int ((n*8%256:Nat):Int)]:=by
 unfold Dc;have e1:IntKind.u32.wrap (fx ((n:Int)*8%18446744073709551616) (2^32))=((n*8 / 4294967296:Nat):Int):=by rw[ic _ (by decide),wrap_u32,show(2:Int)^32=4294967296 by decide];omega
 have e2:IntKind.u32.wrap ((n:Int)*8%18446744073709551616)=((n*8%4294967296:Nat):Int):=by rw[wrap_u32];omega
 rw[e1,e2,VH _ (by omega),VH _ (by omega)];obtain⟨y,hy⟩:∃y,n*8=y:=⟨_,rfl⟩;rw[hy];have f1:y / 4294967296=y / 256 / 256 / 256 / 256:=by omega
 have f2:y%4294967296%256=y%256:=by omega
 have f3:y%4294967296 / 256%256=y / 256%256:=by omega
 have f4:y%4294967296 / 256 / 256%256=y / 256 / 256%256:=by omega
 have f5:y%4294967296 / 256 / 256 / 256%256=y / 256 / 256 / 256%256:=by omega
 rw[f1,f2,f3,f4,f5];rfl
theorem q7i (t:C) (b:List C) (n:Nat) (hn:n<=4398046511104) (hN:1000<N) (K:KD R):
  Ac N (Pc N K) [t,.int 0,.int 8,.int 8,.slice b,.int ((n*8:Nat):Int),.int 7,z32,.agg (bf 8 (AI (.int .u8)))] []=K [t,.int 0,.int 8,.int 8,.slice b,z32,.agg (Dc n)] []:=by
 obtain⟨M,hM⟩:∃M,N=M+1+1+1+1+1+1+1+1+1:=⟨N-9,by omega⟩;obtain⟨F,hF⟩:∃F,Pc N K=F:=⟨_,rfl⟩;have one:∀(e:List C) (x:Nat) (_:x<18446744073709551616) (i:Nat) (_:i<8) (rec:KD R),F rec [t,.int 0,.int 8,.int 8,.slice b,.int (x:Int),.int (i:Int),z32,.agg e] []=rec [t,.int 0,.int 8,.int 8,.slice b,.int ((x / 256:Nat):Int),.int ((i:Int)-1),z32,.agg (e.set i (.int ((x%256:Nat):Int)))] []:=fun e x hx i hi rec=>by rw[<-hF];exact q7j t b e x hx i hi K rec
 have stop:∀(e:List C) (x:Int) (rec:KD R),F rec [t,.int 0,.int 8,.int 8,.slice b,.int x,.int (-1),z32,.agg e] []=K [t,.int 0,.int 8,.int 8,.slice b,z32,.agg e] []:=fun e x rec=>by
  rw[<-hF];have e0:¬(0:Int)<=-1:=by decide
  have e8:av 8=8:=rfl;have t0:av 0=0:=rfl;unfold Pc;simp only[AF,AL,AP,AU,Ab,Av,Ba,DD,Da,AJ,AB,e0,e8,t0,AE,bw];rfl
 rw[hF,hM,yP n hn];have s7:(7:Int)=((7:Nat):Int):=rfl;have s6:((7:Nat):Int)-1=((6:Nat):Int):=rfl;have s5:((6:Nat):Int)-1=((5:Nat):Int):=rfl;have s4:((5:Nat):Int)-1=((4:Nat):Int):=rfl;have s3:((4:Nat):Int)-1=((3:Nat):Int):=rfl;have s2:((3:Nat):Int)-1=((2:Nat):Int):=rfl;have s1:((2:Nat):Int)-1=((1:Nat):Int):=rfl;have s0:((1:Nat):Int)-1=((0:Nat):Int):=rfl;have sm:((0:Nat):Int)-1= -1:=rfl;obtain⟨y,hy⟩:∃y,n*8=y:=⟨_,rfl⟩;rw[hy,s7,Bm,one _ y (by omega) 7 (by omega),s6,Bm,one _ (y / 256) (by omega) 6 (by omega),s5,Bm,one _ (y / 256 / 256) (by omega) 5 (by omega),s4,Bm,one _ (y / 256 / 256 / 256) (by omega) 4 (by omega),s3,Bm,one _ (y / 256 / 256 / 256 / 256) (by omega) 3 (by omega),s2,Bm,one _ (y / 256 / 256 / 256 / 256 / 256) (by omega) 2 (by omega),s1,Bm,one _ (y / 256 / 256 / 256 / 256 / 256 / 256) (by omega) 1 (by omega),s0,Bm,one _ (y / 256 / 256 / 256 / 256 / 256 / 256 / 256) (by omega) 0 (by omega),sm,Bm,stop];rfl
theorem oA (t:C) (ht:Cz t) (p:List C) (hb:∀c∈p,BO c) (hp:p.length<=4398046511104) (hN:p.length+1000<N) (k:KD R):LQ N t (.slice p) k=k [HZ p] []:=by
 obtain⟨n,hn⟩:∃n,p.length=n:=⟨_,rfl⟩;have lf:(Ci n).length=1+(63-(((n:Int)+8)%64).toNat):=by simp[Ci];omega
 have ll:(Dc n).length=8:=by rw[yP n (by omega)];rfl
 obtain⟨q,hq⟩:∃q,(p++Ci n++Dc n).length=64*q:=⟨(p++Ci n++Dc n).length / 64,by simp only[bx,lf,ll,hn];omega⟩;have hq2:q<N:=by simp only[bx,lf,ll,hn]at hq;omega
 have hbb:∀c∈p++Ci n++Dc n,BO c:=fun c hc=>by
  rcases dy.1 hc with hc|hc
  ·rcases dy.1 hc with hc|hc
   ·exact hb c hc
   ·exact OU _ c hc
  ·exact yQ _ c hc
 have hH:((p++Ci n++Dc n).foldl feed (ivW,[])).1.length=8:=uB rfl _ _;have z7X:HZ p=Ke ((p++Ci n++Dc n).foldl feed (ivW,[])).1:=by unfold HZ;rw[hn,im,im]
 have w8:IntKind.u64.wrap (IntKind.u64.wrap (n:Int)*8)=((n*8:Nat):Int):=by simp only[KU];omega
 have g1:(n+1)*1<=140737488355328/\n+1<=9223372036854775807:=by omega
 have g2:((p++Ci n).length+8)*1<=140737488355328/\(p++Ci n).length+8<=9223372036854775807:=by simp only[bx,lf,hn];omega
 have te:cr 8 (dc 0 (Dc n))=Dc n:=by rw[ib];exact du (by omega)
 have e8:av 8=8:=rfl;have t0:av 0=0:=rfl;rw[J0];unfold jC;simp only[AQ,AJ,hn,bw,AE,g1,and_self,bx,cn,df,cq];refine(q7k t (.slice p) p n hn (by omega) (by omega) _).trans ?_;simp only[AF,AL,AP,AU,AJ,bw,cond_true,e8,hn,w8];refine(q7i t (p++Ci n) n (by omega) (by omega) _).trans ?_;simp only[AF,AL,AP,AU,Ab,Av,Ba,AJ,DQ,AB,e8,t0,te,ll];rw[if_pos g2];refine(q7h t ht _ (by omega) _).trans ?_;simp only[AF,AL,AP,AU,Ab,Av,AJ,DQ,AB,e8,if_true];refine(wZ t ht (by omega) _ q N (p++Ci n++Dc n) ivW hq rfl hbb hq2).trans ?_;simp only[AF,AL,AP,DQ,AB,e8,if_true];rw[z7X]
 have key:=wY (N:=N) _ hH (fun d5 m5=>k [dk d5 1] []) 8 N (((p++Ci n++Dc n).foldl feed (ivW,[])).1.map wI) (by omega) (by rw[ez];exact hH) (fun j hj=>by
  rw[bn,di,bn,bm (by omega)];rfl) (by omega)
 have e0:(bf (4*8) (az 0)++(((p++Ci n++Dc n).foldl feed (ivW,[])).1.drop 8).flatMap fun x=>b4 x.toNat)=bf 32 (.int 0):=by rw[og (by omega)];rfl
 rw[e0]at key;exact key
end
def iZ {R:Type} (N:Nat) (k1:KD R):Option R:=k1 [db (db (dj [C.str [],C.str []]) 0 (C.str [54,97,48,57,101,54,54,55,98,98,54,55,97,101,56,53,51,99,54,101,102,51,55,50,97,53,52,102,102,53,51,97,53,49,48,101,53,50,55,102,57,98,48,53,54,56,56,99,49,102,56,51,100,57,97,98,53,98,101,48,99,100,49,57])) 1 (C.str [52,50,56,97,50,102,57,56,55,49,51,55,52,52,57,49,98,53,99,48,102,98,99,102,101,57,98,53,100,98,97,53,51,57,53,54,99,50,53,98,53,57,102,49,49,49,102,49,57,50,51,102,56,50,97,52,97,98,49,99,53,101,100,53,100,56,48,55,97,97,57,56,49,50,56,51,53,98,48,49,50,52,51,49,56,53,98,101,53,53,48,99,55,100,99,51,55,50,98,101,53,100,55,52,56,48,100,101,98,49,102,101,57,98,100,99,48,54,97,55,99,49,57,98,102,49,55,52,101,52,57,98,54,57,99,49,101,102,98,101,52,55,56,54,48,102,99,49,57,100,99,54,50,52,48,99,97,49,99,99,50,100,101,57,50,99,54,102,52,97,55,52,56,52,97,97,53,99,98,48,97,57,100,99,55,54,102,57,56,56,100,97,57,56,51,101,53,49,53,50,97,56,51,49,99,54,54,100,98,48,48,51,50,55,99,56,98,102,53,57,55,102,99,55,99,54,101,48,48,98,102,51,100,53,97,55,57,49,52,55,48,54,99,97,54,51,53,49,49,52,50,57,50,57,54,55,50,55,98,55,48,97,56,53,50,101,49,98,50,49,51,56,52,100,50,99,54,100,102,99,53,51,51,56,48,100,49,51,54,53,48,97,55,51,53,52,55,54,54,97,48,97,98,98,56,49,99,50,99,57,50,101,57,50,55,50,50,99,56,53,97,50,98,102,101,56,97,49,97,56,49,97,54,54,52,98,99,50,52,98,56,98,55,48,99,55,54,99,53,49,97,51,100,49,57,50,101,56,49,57,100,54,57,57,48,54,50,52,102,52,48,101,51,53,56,53,49,48,54,97,97,48,55,48,49,57,97,52,99,49,49,54,49,101,51,55,54,99,48,56,50,55,52,56,55,55,52,99,51,52,98,48,98,99,98,53,51,57,49,99,48,99,98,51,52,101,100,56,97,97,52,97,53,98,57,99,99,97,52,102,54,56,50,101,54,102,102,51,55,52,56,102,56,50,101,101,55,56,97,53,54,51,54,102,56,52,99,56,55,56,49,52,56,99,99,55,48,50,48,56,57,48,98,101,102,102,102,97,97,52,53,48,54,99,101,98,98,101,102,57,97,51,102,55,99,54,55,49,55,56,102,50])] []
def TM:=lid "" (@iZ R N)
theorem U6 {R N k}:@TM R N k=iZ N k:=by unfold TM;rw[AV]
def z1d:OvG R:=Ae [] (fun a=>TM N) (BD Bo)
theorem z1e:okX 31 (@z1d R N):=Ai AW N [] [(31,[([9],⟨[],[(0,.as (.ptr (.l 0) [] Bo))],[],[(.l 0,.box (.d Bo))],[],[]⟩)])] (fun _ _=>U6)
end Go.Proofs.YtgdonkaoajbclaaGreatDoor
