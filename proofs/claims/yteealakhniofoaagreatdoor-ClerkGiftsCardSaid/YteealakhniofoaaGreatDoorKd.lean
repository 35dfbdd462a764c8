/-
 What the functions on the way compute, part 4.
 Conditions: none.
-/
import Derived.Test.YteealakhniofoaaGreatDoorKc
set_option linter.all false
noncomputable section
set_option maxRecDepth 100000
set_option maxHeartbeats 4000000
open BitVec renaming eq_of_getLsbD_eq->nf,getLsbD_and->pn,getLsbD_not->uj,getLsbD_or->vb,getLsbD_xor->uk,ofInt->dz,ofInt_natCast->ox,toNat_add->kf,toNat_setWidth->ti
open Go.BinOp renaming and->fg,xor->eg
open Go.E.C renaming agg->dv,bool->df,elems->az,get->bj,int->bf,nil->dh,set->cm,slice->cg,toInt->ar
open Go.E.Ty renaming arr->bu,int->bm
open Go.IntKind renaming bits->qe,i64->bb,signed->oe,u64->ay,u8->cq,wrap->au
open Int renaming fdiv->jy,fdiv_eq_ediv_of_nonneg->jl,lt_irrefl->fj,natCast_nonneg->cf,ofNat->iy,tdiv->fb,tdiv_eq_ediv_of_nonneg->gq,tmod->bn,tmod_eq_emod_of_nonneg->ez,toNat->av,toNat_natCast->bc
open List renaming append_assoc->fy,drop->jb,drop_of_length_le->ub,drop_zero->jr,eq_nil_of_length_eq_zero->fk,eq_of_mem_replicate->tc,ext_getElem?->fc,flatMap_append->jt,flatMap_cons->ko,foldl_append->iz,foldl_cons->og,foldl_nil->xb,getD->br,getD_eq_getElem?_getD->bq,getElem?_append_left->fp,getElem?_append_right->gj,getElem?_eq_getElem->bp,getElem?_map->de,getElem?_set->gf,length->ax,length_append->bt,length_cons->cn,length_map->fq,length_nil->cu,length_set->dp,length_take->jq,map->ow,map_append->pt,map_cons->dt,map_nil->xv,mem_append->ed,mem_cons->gy,mem_of_mem_drop->kx,mem_of_mem_take->lx,mem_singleton->fv,not_mem_nil->nv,replicate->bw,take->ek,take_add_one->qm,take_append_drop->kh,take_left->xc,take_length->dx,take_of_length_le->eu
open Nat renaming beq->dc,beq_refl->bo,le_refl->bx,mod_eq_of_lt->tr,zero_add->bh
open Option renaming getD_some->jh
open UInt8 renaming ofNat->sv
namespace Go.Proofs.YteealakhniofoaaGreatDoor
open Go Go.E
variable {R:Type} (N:Nat)
def Lp {R:Type} (N:Nat) (k2:KD R):KD R->KD R:=fun k3 d3 m3=>(bif decide (ar (dk d3 3)<8)then(if 0<=ar (dk d3 3)/\ar (dk d3 3)<(↑(ax (az (dk d3 0))):Int)then(if 0<=ar (dk d3 3)/\ar (dk d3 3)<(↑(av (ar (dk d3 1))):Int)then(if(av (ar (dk d3 2))+1)*8<=140737488355328/\av (ar (dk d3 2))+1<=9223372036854775807 then(gA (dk d3 4) (if av (ar (dk d3 2))+1=ax (ek (av (ar (dk d3 2))) (az (dk d3 5))++[bf (bn (au ay (ar (br (az (dk d3 0)) (av (ar (dk d3 3))) dh)+ar (bj (dk d3 4) (0+av (ar (dk d3 3)))))) 4294967296)])then(k3 [dk d3 0,nI (dk d3 1),bf (↑(av (ar (dk d3 2))+1):Int),bf (au bb (ar (dk d3 3)+1)),dk d3 4,dv (ek (av (ar (dk d3 2))) (az (dk d3 5))++[bf (bn (au ay (ar (br (az (dk d3 0)) (av (ar (dk d3 3))) dh)+ar (bj (dk d3 4) (0+av (ar (dk d3 3)))))) 4294967296)])] [])else none))else none)else none)else none)else(gA (dk d3 5) (k2 [nI (dk d3 2),dk d3 5] [])))
def KU (k2:KD R):KD R->KD R:=fun k3 d2 m2=>(bif decide (ar (dk d2 4)<64)then(if 0<=bn (au bb (69-ar (dk d2 4))) 8/\bn (au bb (69-ar (dk d2 4))) 8<(↑(av (ar (dk d2 2))):Int)then(if 0<=bn (au bb (70-ar (dk d2 4))) 8/\bn (au bb (70-ar (dk d2 4))) 8<(↑(av (ar (dk d2 2))):Int)then(if 0<=bn (au bb (68-ar (dk d2 4))) 8/\bn (au bb (68-ar (dk d2 4))) 8<(↑(av (ar (dk d2 2))):Int)then(Db N (bj (dk d2 5) (0+av (bn (au bb (68-ar (dk d2 4))) 8))) (bf 6) (df true) (fun d3 m3=>(if 0<=bn (au bb (68-ar (dk d2 4))) 8/\bn (au bb (68-ar (dk d2 4))) 8<(↑(av (ar (dk d2 2))):Int)then(Db N (bj (dk d2 5) (0+av (bn (au bb (68-ar (dk d2 4))) 8))) (bf 11) (df true) (fun d4 m4=>(if 0<=bn (au bb (68-ar (dk d2 4))) 8/\bn (au bb (68-ar (dk d2 4))) 8<(↑(av (ar (dk d2 2))):Int)then(Db N (bj (dk d2 5) (0+av (bn (au bb (68-ar (dk d2 4))) 8))) (bf 25) (df true) (fun d5 m5=>(if 0<=bn (au bb (71-ar (dk d2 4))) 8/\bn (au bb (71-ar (dk d2 4))) 8<(↑(av (ar (dk d2 2))):Int)then(if 0<=bn (au bb (68-ar (dk d2 4))) 8/\bn (au bb (68-ar (dk d2 4))) 8<(↑(av (ar (dk d2 2))):Int)then(if 0<=bn (au bb (68-ar (dk d2 4))) 8/\bn (au bb (68-ar (dk d2 4))) 8<(↑(av (ar (dk d2 2))):Int)then(KW N (bj (dk d2 1) 1) (dk d2 4) (fun d6 m6=>(if 0<=ar (dk d2 4)/\ar (dk d2 4)<(↑(ax (az (dk d2 3))):Int)then(if 0<=bn (au bb (65-ar (dk d2 4))) 8/\bn (au bb (65-ar (dk d2 4))) 8<(↑(av (ar (dk d2 2))):Int)then(if 0<=bn (au bb (66-ar (dk d2 4))) 8/\bn (au bb (66-ar (dk d2 4))) 8<(↑(av (ar (dk d2 2))):Int)then(if 0<=bn (au bb (64-ar (dk d2 4))) 8/\bn (au bb (64-ar (dk d2 4))) 8<(↑(av (ar (dk d2 2))):Int)then(Db N (bj (dk d2 5) (0+av (bn (au bb (64-ar (dk d2 4))) 8))) (bf 2) (df true) (fun d7 m7=>(if 0<=bn (au bb (64-ar (dk d2 4))) 8/\bn (au bb (64-ar (dk d2 4))) 8<(↑(av (ar (dk d2 2))):Int)then(Db N (bj (dk d2 5) (0+av (bn (au bb (64-ar (dk d2 4))) 8))) (bf 13) (df true) (fun d8 m8=>(if 0<=bn (au bb (64-ar (dk d2 4))) 8/\bn (au bb (64-ar (dk d2 4))) 8<(↑(av (ar (dk d2 2))):Int)then(Db N (bj (dk d2 5) (0+av (bn (au bb (64-ar (dk d2 4))) 8))) (bf 22) (df true) (fun d9 m9=>(if 0<=bn (au bb (67-ar (dk d2 4))) 8/\bn (au bb (67-ar (dk d2 4))) 8<(↑(av (ar (dk d2 2))):Int)then(if 0<=bn (au bb (67-ar (dk d2 4))) 8/\bn (au bb (67-ar (dk d2 4))) 8<(↑(av (ar (dk d2 2))):Int)then(if 0<=bn (au bb (64-ar (dk d2 4))) 8/\bn (au bb (64-ar (dk d2 4))) 8<(↑(av (ar (dk d2 2))):Int)then(if 0<=bn (au bb (64-ar (dk d2 4))) 8/\bn (au bb (64-ar (dk d2 4))) 8<(↑(av (ar (dk d2 2))):Int)then(if 0<=bn (au bb (71-ar (dk d2 4))) 8/\bn (au bb (71-ar (dk d2 4))) 8<(↑(av (ar (dk d2 2))):Int)then(bif dc (ax (az (dk d2 3))) (ax (az (dk d2 3)))then(if ax (az (dk d2 5))=ax (az (cm (cm (dk d2 5) (0+av (bn (au bb (67-ar (dk d2 4))) 8)) (bf (bn (au ay (ar (bj (dk d2 5) (0+av (bn (au bb (67-ar (dk d2 4))) 8)))+au ay (au ay (au ay (au ay (ar (bj (dk d2 5) (0+av (bn (au bb (71-ar (dk d2 4))) 8)))+BR eg ay (BR eg ay (ar (dk d3 0)) (ar (dk d4 0))) (ar (dk d5 0)))+au ay (BR fg ay (ar (bj (dk d2 5) (0+av (bn (au bb (68-ar (dk d2 4))) 8)))) (ar (bj (dk d2 5) (0+av (bn (au bb (69-ar (dk d2 4))) 8))))+BR fg ay (au ay (4294967295-ar (bj (dk d2 5) (0+av (bn (au bb (68-ar (dk d2 4))) 8))))) (ar (bj (dk d2 5) (0+av (bn (au bb (70-ar (dk d2 4))) 8))))))+ar (dk d6 0))+ar (br (az (dk d2 3)) (av (ar (dk d2 4))) dh)))) 4294967296))) (0+av (bn (au bb (71-ar (dk d2 4))) 8)) (bf (bn (au ay (au ay (au ay (au ay (au ay (au ay (ar (bj (dk d2 5) (0+av (bn (au bb (71-ar (dk d2 4))) 8)))+BR eg ay (BR eg ay (ar (dk d3 0)) (ar (dk d4 0))) (ar (dk d5 0)))+au ay (BR fg ay (ar (bj (dk d2 5) (0+av (bn (au bb (68-ar (dk d2 4))) 8)))) (ar (bj (dk d2 5) (0+av (bn (au bb (69-ar (dk d2 4))) 8))))+BR fg ay (au ay (4294967295-ar (bj (dk d2 5) (0+av (bn (au bb (68-ar (dk d2 4))) 8))))) (ar (bj (dk d2 5) (0+av (bn (au bb (70-ar (dk d2 4))) 8))))))+ar (dk d6 0))+ar (br (az (dk d2 3)) (av (ar (dk d2 4))) dh))+BR eg ay (BR eg ay (ar (dk d7 0)) (ar (dk d8 0))) (ar (dk d9 0)))+BR eg ay (BR eg ay (BR fg ay (ar (bj (cm (dk d2 5) (0+av (bn (au bb (67-ar (dk d2 4))) 8)) (bf (bn (au ay (ar (bj (dk d2 5) (0+av (bn (au bb (67-ar (dk d2 4))) 8)))+au ay (au ay (au ay (au ay (ar (bj (dk d2 5) (0+av (bn (au bb (71-ar (dk d2 4))) 8)))+BR eg ay (BR eg ay (ar (dk d3 0)) (ar (dk d4 0))) (ar (dk d5 0)))+au ay (BR fg ay (ar (bj (dk d2 5) (0+av (bn (au bb (68-ar (dk d2 4))) 8)))) (ar (bj (dk d2 5) (0+av (bn (au bb (69-ar (dk d2 4))) 8))))+BR fg ay (au ay (4294967295-ar (bj (dk d2 5) (0+av (bn (au bb (68-ar (dk d2 4))) 8))))) (ar (bj (dk d2 5) (0+av (bn (au bb (70-ar (dk d2 4))) 8))))))+ar (dk d6 0))+ar (br (az (dk d2 3)) (av (ar (dk d2 4))) dh)))) 4294967296))) (0+av (bn (au bb (64-ar (dk d2 4))) 8)))) (ar (bj (dk d2 5) (0+av (bn (au bb (65-ar (dk d2 4))) 8))))) (BR fg ay (ar (bj (cm (dk d2 5) (0+av (bn (au bb (67-ar (dk d2 4))) 8)) (bf (bn (au ay (ar (bj (dk d2 5) (0+av (bn (au bb (67-ar (dk d2 4))) 8)))+au ay (au ay (au ay (au ay (ar (bj (dk d2 5) (0+av (bn (au bb (71-ar (dk d2 4))) 8)))+BR eg ay (BR eg ay (ar (dk d3 0)) (ar (dk d4 0))) (ar (dk d5 0)))+au ay (BR fg ay (ar (bj (dk d2 5) (0+av (bn (au bb (68-ar (dk d2 4))) 8)))) (ar (bj (dk d2 5) (0+av (bn (au bb (69-ar (dk d2 4))) 8))))+BR fg ay (au ay (4294967295-ar (bj (dk d2 5) (0+av (bn (au bb (68-ar (dk d2 4))) 8))))) (ar (bj (dk d2 5) (0+av (bn (au bb (70-ar (dk d2 4))) 8))))))+ar (dk d6 0))+ar (br (az (dk d2 3)) (av (ar (dk d2 4))) dh)))) 4294967296))) (0+av (bn (au bb (64-ar (dk d2 4))) 8)))) (ar (bj (dk d2 5) (0+av (bn (au bb (66-ar (dk d2 4))) 8)))))) (BR fg ay (ar (bj (dk d2 5) (0+av (bn (au bb (65-ar (dk d2 4))) 8)))) (ar (bj (dk d2 5) (0+av (bn (au bb (66-ar (dk d2 4))) 8))))))) 4294967296))))then(k3 [dk d2 0,dk d2 1,nI (dk d2 2),cg (az (dk d2 3)),bf (au bb (ar (dk d2 4)+1)),cm (cm (dk d2 5) (0+av (bn (au bb (67-ar (dk d2 4))) 8)) (bf (bn (au ay (ar (bj (dk d2 5) (0+av (bn (au bb (67-ar (dk d2 4))) 8)))+au ay (au ay (au ay (au ay (ar (bj (dk d2 5) (0+av (bn (au bb (71-ar (dk d2 4))) 8)))+BR eg ay (BR eg ay (ar (dk d3 0)) (ar (dk d4 0))) (ar (dk d5 0)))+au ay (BR fg ay (ar (bj (dk d2 5) (0+av (bn (au bb (68-ar (dk d2 4))) 8)))) (ar (bj (dk d2 5) (0+av (bn (au bb (69-ar (dk d2 4))) 8))))+BR fg ay (au ay (4294967295-ar (bj (dk d2 5) (0+av (bn (au bb (68-ar (dk d2 4))) 8))))) (ar (bj (dk d2 5) (0+av (bn (au bb (70-ar (dk d2 4))) 8))))))+ar (dk d6 0))+ar (br (az (dk d2 3)) (av (ar (dk d2 4))) dh)))) 4294967296))) (0+av (bn (au bb (71-ar (dk d2 4))) 8)) (bf (bn (au ay (au ay (au ay (au ay (au ay (au ay (ar (bj (dk d2 5) (0+av (bn (au bb (71-ar (dk d2 4))) 8)))+BR eg ay (BR eg ay (ar (dk d3 0)) (ar (dk d4 0))) (ar (dk d5 0)))+au ay (BR fg ay (ar (bj (dk d2 5) (0+av (bn (au bb (68-ar (dk d2 4))) 8)))) (ar (bj (dk d2 5) (0+av (bn (au bb (69-ar (dk d2 4))) 8))))+BR fg ay (au ay (4294967295-ar (bj (dk d2 5) (0+av (bn (au bb (68-ar (dk d2 4))) 8))))) (ar (bj (dk d2 5) (0+av (bn (au bb (70-ar (dk d2 4))) 8))))))+ar (dk d6 0))+ar (br (az (dk d2 3)) (av (ar (dk d2 4))) dh))+BR eg ay (BR eg ay (ar (dk d7 0)) (ar (dk d8 0))) (ar (dk d9 0)))+BR eg ay (BR eg ay (BR fg ay (ar (bj (cm (dk d2 5) (0+av (bn (au bb (67-ar (dk d2 4))) 8)) (bf (bn (au ay (ar (bj (dk d2 5) (0+av (bn (au bb (67-ar (dk d2 4))) 8)))+au ay (au ay (au ay (au ay (ar (bj (dk d2 5) (0+av (bn (au bb (71-ar (dk d2 4))) 8)))+BR eg ay (BR eg ay (ar (dk d3 0)) (ar (dk d4 0))) (ar (dk d5 0)))+au ay (BR fg ay (ar (bj (dk d2 5) (0+av (bn (au bb (68-ar (dk d2 4))) 8)))) (ar (bj (dk d2 5) (0+av (bn (au bb (69-ar (dk d2 4))) 8))))+BR fg ay (au ay (4294967295-ar (bj (dk d2 5) (0+av (bn (au bb (68-ar (dk d2 4))) 8))))) (ar (bj (dk d2 5) (0+av (bn (au bb (70-ar (dk d2 4))) 8))))))+ar (dk d6 0))+ar (br (az (dk d2 3)) (av (ar (dk d2 4))) dh)))) 4294967296))) (0+av (bn (au bb (64-ar (dk d2 4))) 8)))) (ar (bj (dk d2 5) (0+av (bn (au bb (65-ar (dk d2 4))) 8))))) (BR fg ay (ar (bj (cm (dk d2 5) (0+av (bn (au bb (67-ar (dk d2 4))) 8)) (bf (bn (au ay (ar (bj (dk d2 5) (0+av (bn (au bb (67-ar (dk d2 4))) 8)))+au ay (au ay (au ay (au ay (ar (bj (dk d2 5) (0+av (bn (au bb (71-ar (dk d2 4))) 8)))+BR eg ay (BR eg ay (ar (dk d3 0)) (ar (dk d4 0))) (ar (dk d5 0)))+au ay (BR fg ay (ar (bj (dk d2 5) (0+av (bn (au bb (68-ar (dk d2 4))) 8)))) (ar (bj (dk d2 5) (0+av (bn (au bb (69-ar (dk d2 4))) 8))))+BR fg ay (au ay (4294967295-ar (bj (dk d2 5) (0+av (bn (au bb (68-ar (dk d2 4))) 8))))) (ar (bj (dk d2 5) (0+av (bn (au bb (70-ar (dk d2 4))) 8))))))+ar (dk d6 0))+ar (br (az (dk d2 3)) (av (ar (dk d2 4))) dh)))) 4294967296))) (0+av (bn (au bb (64-ar (dk d2 4))) 8)))) (ar (bj (dk d2 5) (0+av (bn (au bb (66-ar (dk d2 4))) 8)))))) (BR fg ay (ar (bj (dk d2 5) (0+av (bn (au bb (65-ar (dk d2 4))) 8)))) (ar (bj (dk d2 5) (0+av (bn (au bb (66-ar (dk d2 4))) 8))))))) 4294967296))] [])else none)else none)else none)else none)else none)else none)else none)))else none)))else none)))else none)else none)else none)else none)))else none)else none)else none)))else none)))else none)))else none)else none)else none)else(gA (dk d2 5) (k2 [dk d2 0,nI (dk d2 2),dk d2 5] [])))
def Ji (k2:KD R):KD R->KD R:=fun k3 d1 m1=>(bif decide (ar (dk d1 4)<64)then(jn (fun d2 m2=>(bif dc (ax (az (dk d2 4))) (ax (az (dk d2 4)))then(k3 [dk d2 0,dk d2 1,dk d2 2,cg (az (dk d2 4)),bf (au bb (ar (dk d2 3)+1))] [])else none)) (fun k4=>(bif decide (ar (dk d1 4)<16)then(if 0<=au bb (4*ar (dk d1 4))/\au bb (4*ar (dk d1 4))<(↑(ax (az (dk d1 1))):Int)then(if 0<=au bb (au bb (4*ar (dk d1 4))+1)/\au bb (au bb (4*ar (dk d1 4))+1)<(↑(ax (az (dk d1 1))):Int)then(if 0<=au bb (au bb (4*ar (dk d1 4))+2)/\au bb (au bb (4*ar (dk d1 4))+2)<(↑(ax (az (dk d1 1))):Int)then(if 0<=au bb (au bb (4*ar (dk d1 4))+3)/\au bb (au bb (4*ar (dk d1 4))+3)<(↑(ax (az (dk d1 1))):Int)then(bif dc (ax (az (dk d1 3))) (ax (az (dk d1 3)))then(if(ax (az (dk d1 3))+1)*8<=140737488355328/\ax (az (dk d1 3))+1<=9223372036854775807 then(bif dc (ax (az (dk d1 3))+1) (ax (az (dk d1 3)++[bf (au ay (au ay (au ay (au ay (au ay (au ay (au ay (ar (br (az (dk d1 1)) (av (au bb (4*ar (dk d1 4)))) dh))*256)+au ay (ar (br (az (dk d1 1)) (av (au bb (au bb (4*ar (dk d1 4))+1))) dh)))*256)+au ay (ar (br (az (dk d1 1)) (av (au bb (au bb (4*ar (dk d1 4))+2))) dh)))*256)+au ay (ar (br (az (dk d1 1)) (av (au bb (au bb (4*ar (dk d1 4))+3))) dh))))]))then(k4 [dk d1 0,dk d1 1,dk d1 2,dk d1 4,cg (az (dk d1 3)++[bf (au ay (au ay (au ay (au ay (au ay (au ay (au ay (ar (br (az (dk d1 1)) (av (au bb (4*ar (dk d1 4)))) dh))*256)+au ay (ar (br (az (dk d1 1)) (av (au bb (au bb (4*ar (dk d1 4))+1))) dh)))*256)+au ay (ar (br (az (dk d1 1)) (av (au bb (au bb (4*ar (dk d1 4))+2))) dh)))*256)+au ay (ar (br (az (dk d1 1)) (av (au bb (au bb (4*ar (dk d1 4))+3))) dh))))])] [])else none)else none)else none)else none)else none)else none)else none)else(if 0<=au bb (ar (dk d1 4)-15)/\au bb (ar (dk d1 4)-15)<(↑(ax (az (dk d1 3))):Int)then(if 0<=au bb (ar (dk d1 4)-2)/\au bb (ar (dk d1 4)-2)<(↑(ax (az (dk d1 3))):Int)then(Db N (br (az (dk d1 3)) (av (au bb (ar (dk d1 4)-15))) dh) (bf 7) (df true) (fun d2 m2=>(Db N (br (az (dk d1 3)) (av (au bb (ar (dk d1 4)-15))) dh) (bf 18) (df true) (fun d3 m3=>(Db N (br (az (dk d1 3)) (av (au bb (ar (dk d1 4)-15))) dh) (bf 3) (df false) (fun d4 m4=>(Db N (br (az (dk d1 3)) (av (au bb (ar (dk d1 4)-2))) dh) (bf 17) (df true) (fun d5 m5=>(Db N (br (az (dk d1 3)) (av (au bb (ar (dk d1 4)-2))) dh) (bf 19) (df true) (fun d6 m6=>(Db N (br (az (dk d1 3)) (av (au bb (ar (dk d1 4)-2))) dh) (bf 10) (df false) (fun d7 m7=>(if 0<=au bb (ar (dk d1 4)-16)/\au bb (ar (dk d1 4)-16)<(↑(ax (az (dk d1 3))):Int)then(if 0<=au bb (ar (dk d1 4)-7)/\au bb (ar (dk d1 4)-7)<(↑(ax (az (dk d1 3))):Int)then(bif dc (ax (az (dk d1 3))) (ax (az (dk d1 3)))then(if(ax (az (dk d1 3))+1)*8<=140737488355328/\ax (az (dk d1 3))+1<=9223372036854775807 then(bif dc (ax (az (dk d1 3))+1) (ax (az (dk d1 3)++[bf (bn (au ay (au ay (au ay (ar (br (az (dk d1 3)) (av (au bb (ar (dk d1 4)-16))) dh)+BR eg ay (BR eg ay (ar (dk d2 0)) (ar (dk d3 0))) (ar (dk d4 0)))+ar (br (az (dk d1 3)) (av (au bb (ar (dk d1 4)-7))) dh))+BR eg ay (BR eg ay (ar (dk d5 0)) (ar (dk d6 0))) (ar (dk d7 0)))) 4294967296)]))then(k4 [dk d1 0,dk d1 1,dk d1 2,dk d1 4,cg (az (dk d1 3)++[bf (bn (au ay (au ay (au ay (ar (br (az (dk d1 3)) (av (au bb (ar (dk d1 4)-16))) dh)+BR eg ay (BR eg ay (ar (dk d2 0)) (ar (dk d3 0))) (ar (dk d4 0)))+ar (br (az (dk d1 3)) (av (au bb (ar (dk d1 4)-7))) dh))+BR eg ay (BR eg ay (ar (dk d5 0)) (ar (dk d6 0))) (ar (dk d7 0)))) 4294967296)])] [])else none)else none)else none)else none)else none)))))))))))))else none)else none))))else(bif dc (ax (az (dk d1 3))) (ax (az (dk d1 3)))then(k2 [dk d1 0,dk d1 2,cg (az (dk d1 3))] [])else none))
def Vw (a0 a1 a2:C) (k1:KD R):Option R:=jn (fun d1 m1=>(if List.isEmpty (az (dk d1 0))=false then(jn (fun d2 m2=>(jn (fun d3 m3=>(gA (dk d3 1) (k1 [nI (dk d3 0),dk d3 1] []))) (fun k2=>(gA (dk d2 2) (BO N (Lp N k2) [dk d2 0,nI (dk d2 1),bf 0,bf 0,dk d2 2,dv []] []))))) (fun k2=>(bif dc (ax (az (dk d1 2))) (ax (az (dk d1 2)))then(gA (dk d1 0) (BO N (KU N k2) [dk d1 0,dk d1 1,bf (↑(ax (az (dk d1 0))):Int),cg (az (dk d1 2)),bf 0,dv (az (dk d1 0))] []))else none)))else none)) (fun k2=>(BO N (Ji N k2) [a1,a2,a0,cg [],bf 0] []))
def NW:=lid "" (@Vw R N)
theorem bQ {R N a0 a1 a2 k}:@NW R N a0 a1 a2 k=Vw N a0 a1 a2 k:=by unfold NW;rw[BQ]
def q5F:OvG R:=CA [Bf,.slice 8 (.int .u64),.slice 1 (.int .u8)] (Jq (NW N)) fun a K d1 m1=>K (V.sr (Key.l 1) [] 0 (av (ar (dk d1 0))) none 8 (bm ay)) [(Key.l 1,O.box (V.d (bu (ax (az (dk d1 1))) (bm ay)) (dk d1 1)))]
theorem q5G:okX 144 (@q5F R N):=Cg (Ap (tY N) <| Ap (q5L N) <| BS) N [(144,[(0,[(3,5)]),(12,[(115,3)]),(18,[(148,7),(153,7),(159,7)]),(19,[(185,7)]),(21,[(208,7),(213,7),(219,7)])])] [(144,[([1,0,1,1],⟨[1,3],[(7,.sl 8 (.int .u64) 5007)],[],[],[],[(.int .u64)]⟩),
  ([4,1,0,1,1],⟨[1,2,3],[(7,.sl 8 (.int .u64) 5007),(8,.d (.int .i64))],[],[],[],[(.int .u64)]⟩),
  ([0,1,5,4,1,0,1,1],⟨[1,2,3,8],[(7,.sl 8 (.int .u64) 5007)],[],[],[],[(.int .u64)]⟩),
  ([1,0,1,1,1,1,1],⟨[1,11],[],[],[],[],[(.int .u64)]⟩),
  ([4,1,0,1,1,1,1,1],⟨[1,3,11],[(7,.sl 8 (.int .u64) 5007),(12,.d (.int .i64))],[],[],[],[(.int .u64)]⟩),
  ([1,0,1,1,1,1,1,1,1],⟨[],[(24,.vec (.l 1000000000195) 8 (.int .u64))],[],[],[],[(.int .u64)]⟩),
  ([4,1,0,1,1,1,1,1,1,1],⟨[1,11],[(24,.vec (.l 1000000000195) 8 (.int .u64)),(25,.d (.int .i64))],[],[],[],[(.int .u64)]⟩),
  ([9],⟨[],[(6,.vec (.l 1) 8 (.int .u64))],[],[(.l 1,.box (.arr (.int .u64)))],[],[(.int .u64)]⟩)])] (fun _ _=>bQ)
def Ll {R:Type} (N:Nat) (k2:KD R):KD R->KD R:=fun k3 d5 m5=>(bif decide (0<=ar (dk d5 1))then(if 0<=au bb (fb (ar (dk d5 1)) 4)/\au bb (fb (ar (dk d5 1)) 4)<(↑(av (ar (dk d5 0))):Int)then(if 0<=ar (dk d5 1)/\ar (dk d5 1)<32 then(if 0<=au bb (fb (ar (dk d5 1)) 4)/\au bb (fb (ar (dk d5 1)) 4)<(↑(av (ar (dk d5 0))):Int)then(if 0<=au bb (fb (ar (dk d5 1)) 4)/\au bb (fb (ar (dk d5 1)) 4)<(↑(av (ar (dk d5 0))):Int)then(if ax (az (dk d5 4))=ax (az (cm (dk d5 4) (0+av (au bb (fb (ar (dk d5 1)) 4))) (bf (au ay (fb (ar (bj (dk d5 4) (0+av (au bb (fb (ar (dk d5 1)) 4))))) 256)))))then(k3 [nI (dk d5 0),bf (au bb (ar (dk d5 1)-1)),dk d5 2,cm (dk d5 3) (av (ar (dk d5 1))) (bf (au cq (bn (ar (bj (dk d5 4) (0+av (au bb (fb (ar (dk d5 1)) 4))))) 256))),cm (dk d5 4) (0+av (au bb (fb (ar (dk d5 1)) 4))) (bf (au ay (fb (ar (bj (dk d5 4) (0+av (au bb (fb (ar (dk d5 1)) 4))))) 256)))] [])else none)else none)else none)else none)else none)else(k2 [dk d5 2,dk d5 3] []))
def NU (k2:KD R):KD R->KD R:=fun k3 d4 m4=>(bif decide (0<(↑(ax (az (dk d4 1))):Int))then(if iy 0<=0/\iy 0<=64/\64<=(↑(ax (az (dk d4 1))):Int)then(NW N (dk d4 0) (cg (ek (av (ar (dk d4 2))) (jb 0 (az (dk d4 4))))) (cg (cut (az (dk d4 1)) 0 64)) (fun d5 m5=>(if iy 0<=64/\64<=(↑(ax (az (dk d4 1))):Int)/\(↑(ax (az (dk d4 1))):Int)<=(↑(ax (az (dk d4 1))):Int)then(gA (dk d5 1) (k3 [dk d4 0,cg (cut (az (dk d4 1)) 64 (↑(ax (az (dk d4 1))):Int)),nI (dk d5 0),dk d4 3,dk d5 1] []))else none)))else none)else(gA (dk d4 4) (k2 [nI (dk d4 2),dk d4 3,dk d4 4] [])))
def Lm (k2:KD R):KD R->KD R:=fun k3 d3 m3=>(bif decide (ar (dk d3 3)<8)then(KW N (bj (dk d3 0) 0) (dk d3 3) (fun d4 m4=>(if 0<=ar (dk d3 3)/\ar (dk d3 3)<(↑(av (ar (dk d3 2))):Int)then(bif dc (ax (az (dk d3 1))) (ax (az (dk d3 1)))then(if ax (az (dk d3 5))=ax (az (cm (dk d3 5) (0+av (ar (dk d3 3))) (dk d4 0)))then(k3 [dk d3 0,cg (az (dk d3 1)),nI (dk d3 2),bf (au bb (ar (dk d3 3)+1)),dk d3 4,cm (dk d3 5) (0+av (ar (dk d3 3))) (dk d4 0)] [])else none)else none)else none)))else(bif dc (ax (az (dk d3 1))) (ax (az (dk d3 1)))then(gA (dk d3 5) (k2 [dk d3 0,cg (az (dk d3 1)),nI (dk d3 2),dk d3 4,dk d3 5] []))else none))
def KT {R:Type} (N:Nat) (k2:KD R):KD R->KD R:=fun k3 d2 m2=>(bif decide (0<=ar (dk d2 6))then(if 0<=ar (dk d2 6)/\ar (dk d2 6)<(↑(av (ar (dk d2 2))):Int)then(bif dc (ax (az (dk d2 4))) (ax (az (dk d2 4)))then(k3 [dk d2 0,nI (dk d2 1),nI (dk d2 2),nI (dk d2 3),cg (az (dk d2 4)),bf (au ay (fb (ar (dk d2 5)) 256)),bf (au bb (ar (dk d2 6)-1)),dk d2 7,cm (dk d2 8) (av (ar (dk d2 1))+av (ar (dk d2 6))) (bf (au cq (bn (ar (dk d2 5)) 256)))] [])else none)else none)else(bif dc (ax (az (dk d2 4))) (ax (az (dk d2 4)))then(k2 [dk d2 0,nI (dk d2 1),nI (dk d2 2),nI (dk d2 3),cg (az (dk d2 4)),dk d2 7,dk d2 8] [])else none))
def Ln {R:Type} (N:Nat) (k2:KD R):KD R->KD R:=fun k3 d1 m1=>(bif !decide (bn (↑(ax (az (dk d1 2))):Int) 64=56)then(bif dc (ax (az (dk d1 2))) (ax (az (dk d1 2)))then(if(ax (az (dk d1 2))+1)*1<=140737488355328/\ax (az (dk d1 2))+1<=9223372036854775807 then(bif dc (ax (az (dk d1 2))+1) (ax (az (dk d1 2)++[bf 0]))then(k3 [dk d1 0,dk d1 1,cg (az (dk d1 2)++[bf 0]),dk d1 3] [])else none)else none)else none)else(bif dc (ax (az (dk d1 2))) (ax (az (dk d1 2)))then(k2 [dk d1 0,dk d1 1,cg (az (dk d1 2)),dk d1 3] [])else none))
def Vv (a0 a1:C) (k1:KD R):Option R:=bif dc (ax (az a1)) (ax (az a1))then(if(ax (az a1)+1)*1<=140737488355328/\ax (az a1)+1<=9223372036854775807 then(jn (fun d1 m1=>(jn (fun d2 m2=>(bif dc (ax (az (dk d2 4))) (ax (az (dk d2 4)))then(if(ax (az (dk d2 4))+ax (ek (av (ar (dk d2 2))) (jb (av (ar (dk d2 1))) (az (dk d2 6)))))*1<=140737488355328/\ax (az (dk d2 4))+ax (ek (av (ar (dk d2 2))) (jb (av (ar (dk d2 1))) (az (dk d2 6))))<=9223372036854775807 then(jn (fun d3 m3=>(jn (fun d4 m4=>(jn (fun d5 m5=>(k1 [dk d5 1] [])) (fun k2=>(gA (dk d4 2) (BO N (Ll N k2) [nI (dk d4 0),bf 31,dk d4 1,AH (bu 32 (bm cq)),dk d4 2] []))))) (fun k2=>(gA (dk d3 4) (BO N (NU N k2) [dk d3 0,cg (az (dk d3 1)),nI (dk d3 2),dk d3 3,dk d3 4] []))))) (fun k2=>(bif dc (ax (az (dk d2 4))+ax (ek (av (ar (dk d2 2))) (jb (av (ar (dk d2 1))) (az (dk d2 6))))) (ax (az (dk d2 4)++ek (av (ar (dk d2 2))) (jb (av (ar (dk d2 1))) (az (dk d2 6)))))then(BO N (Lm N k2) [dk d2 0,cg (az (dk d2 4)++ek (av (ar (dk d2 2))) (jb (av (ar (dk d2 1))) (az (dk d2 6)))),bf (↑(av 8):Int),bf 0,dk d2 5,dv (bw 8 (AH (bm ay)))] [])else none)))else none)else none)) (fun k2=>(bif dc (ax (az (dk d1 2))) (ax (az (dk d1 2)))then(BO N (KT N k2) [dk d1 1,bf 0,bf (↑(av 8):Int),bf (↑(av 8):Int),cg (az (dk d1 2)),bf (au ay (au ay (↑(ax (az (dk d1 0))):Int)*8)),bf 7,dk d1 3,dv (bw 8 (AH (bm cq)))] [])else none)))) (fun k2=>(bif dc (ax (az a1)+1) (ax (az a1++[bf 128]))then(BO N (Ln N k2) [a1,a0,cg (az a1++[bf 128]),AH (bu 32 (bm cq))] [])else none)))else none)else none
def NV:=lid "" (@Vv R N)
theorem bP {R N a0 a1 k}:@NV R N a0 a1 k=Vv N a0 a1 k:=by unfold NV;rw[BQ]
def q5D:OvG R:=CA [Bf,.slice 1 (.int .u8)] (Ef (NV N)) (DS (bu 32 (bm cq)))
theorem q5E:okX 127 (@q5D R N):=Cg (Ap (tY N) <| Ap (q5G N) <| BS) N [(127,[(0,[(2,5)]),(13,[(45,9)]),(19,[(1000009,17)])])] [(127,[([0,1,1,1],⟨[1,2,4],[(5,.sl 1 (.int .u8) 5005)],[],[],[],[(.int .u64)]⟩),
  ([4,0,1,1,1],⟨[1,2,4],[(5,.sl 1 (.int .u8) 5005)],[],[],[],[(.int .u64)]⟩),
  ([1,0,1,1,1,1,1,1],⟨[2,4,7],[(5,.sl 1 (.int .u8) 5005)],[],[],[],[(.int .u64)]⟩),
  ([4,1,0,1,1,1,1,1,1],⟨[2,4,7],[(5,.sl 1 (.int .u8) 5005),(6,.d (.int .u64)),(8,.d (.int .i64))],[],[],[],[(.int .u64)]⟩),
  ([1,0,1,1,1,1,1,1,1,1,1],⟨[2,4],[(5,.sl 1 (.int .u8) 5005),(9,.vec (.l 1000000000075) 8 (.int .u64))],[],[],[],[(.int .u64)]⟩),
  ([4,1,0,1,1,1,1,1,1,1,1,1],⟨[2,4],[(5,.sl 1 (.int .u8) 5005),(9,.vec (.l 1000000000075) 8 (.int .u64)),(10,.d (.int .i64))],[],[],[],[(.int .u64)]⟩),
  ([0,1,1,1,1,1,1,1,1,1,1],⟨[4],[(9,.vec (.l 1000000000075) 8 (.int .u64))],[],[],[],[(.int .u64)]⟩),
  ([1,0,1,1,1,1,1,1,1,1,1,1,1,1],⟨[4,11],[],[],[],[],[(.int .u64)]⟩),
  ([4,1,0,1,1,1,1,1,1,1,1,1,1,1,1],⟨[4,11],[(9,.vec (.l 1000000000075) 8 (.int .u64)),(12,.d (.int .i64))],[],[],[],[(.int .u64)]⟩),
  ([9],⟨[],[(4,.as (.ptr (.l 4) [] (.arr 32 (.int .u8))))],[],[(.l 4,.box (.d (.arr 32 (.int .u8))))],[],[(.int .u64)]⟩),
  ([4,0,1,1,1,1,1,1,1,1,1,1],⟨[2,4],[(5,.d (.slice 1 (.int .u8))),(9,.vec (.l 1000000000075) 8 (.int .u64))],[],[],[],[(.int .u64)]⟩)])] (fun _ _=>bP)
def Lq {R:Type} (N:Nat) (k2:KD R):KD R->KD R:=fun k3 d1 m1=>(bif decide (ar (dk d1 2)<(↑(ax (az (dk d1 0))):Int))then(if 0<=ar (dk d1 2)/\ar (dk d1 2)<(↑(ax (az (dk d1 0))):Int)then(bif dc (ax (az (dk d1 1))) (ax (az (dk d1 1)))then(if(ax (az (dk d1 1))+4)*1<=140737488355328/\ax (az (dk d1 1))+4<=9223372036854775807 then(if 0<=ar (dk d1 2)/\ar (dk d1 2)<(↑(ax (az (dk d1 0))):Int)then(bif dc (ax (az (dk d1 1))+4) (ax (az (dk d1 1)++[bf (au cq (au bb (fb (↑(ax (az (br (az (dk d1 0)) (av (ar (dk d1 2))) dh))):Int) 16777216))),bf (au cq (au bb (fb (↑(ax (az (br (az (dk d1 0)) (av (ar (dk d1 2))) dh))):Int) 65536))),bf (au cq (au bb (fb (↑(ax (az (br (az (dk d1 0)) (av (ar (dk d1 2))) dh))):Int) 256))),bf (au cq (↑(ax (az (br (az (dk d1 0)) (av (ar (dk d1 2))) dh))):Int))]))then(if(ax (az (dk d1 1)++[bf (au cq (au bb (fb (↑(ax (az (br (az (dk d1 0)) (av (ar (dk d1 2))) dh))):Int) 16777216))),bf (au cq (au bb (fb (↑(ax (az (br (az (dk d1 0)) (av (ar (dk d1 2))) dh))):Int) 65536))),bf (au cq (au bb (fb (↑(ax (az (br (az (dk d1 0)) (av (ar (dk d1 2))) dh))):Int) 256))),bf (au cq (↑(ax (az (br (az (dk d1 0)) (av (ar (dk d1 2))) dh))):Int))])+ax (az (br (az (dk d1 0)) (av (ar (dk d1 2))) dh)))*1<=140737488355328/\ax (az (dk d1 1)++[bf (au cq (au bb (fb (↑(ax (az (br (az (dk d1 0)) (av (ar (dk d1 2))) dh))):Int) 16777216))),bf (au cq (au bb (fb (↑(ax (az (br (az (dk d1 0)) (av (ar (dk d1 2))) dh))):Int) 65536))),bf (au cq (au bb (fb (↑(ax (az (br (az (dk d1 0)) (av (ar (dk d1 2))) dh))):Int) 256))),bf (au cq (↑(ax (az (br (az (dk d1 0)) (av (ar (dk d1 2))) dh))):Int))])+ax (az (br (az (dk d1 0)) (av (ar (dk d1 2))) dh))<=9223372036854775807 then(bif dc (ax (az (dk d1 1)++[bf (au cq (au bb (fb (↑(ax (az (br (az (dk d1 0)) (av (ar (dk d1 2))) dh))):Int) 16777216))),bf (au cq (au bb (fb (↑(ax (az (br (az (dk d1 0)) (av (ar (dk d1 2))) dh))):Int) 65536))),bf (au cq (au bb (fb (↑(ax (az (br (az (dk d1 0)) (av (ar (dk d1 2))) dh))):Int) 256))),bf (au cq (↑(ax (az (br (az (dk d1 0)) (av (ar (dk d1 2))) dh))):Int))])+ax (az (br (az (dk d1 0)) (av (ar (dk d1 2))) dh))) (ax (az (dk d1 1)++[bf (au cq (au bb (fb (↑(ax (az (br (az (dk d1 0)) (av (ar (dk d1 2))) dh))):Int) 16777216))),bf (au cq (au bb (fb (↑(ax (az (br (az (dk d1 0)) (av (ar (dk d1 2))) dh))):Int) 65536))),bf (au cq (au bb (fb (↑(ax (az (br (az (dk d1 0)) (av (ar (dk d1 2))) dh))):Int) 256))),bf (au cq (↑(ax (az (br (az (dk d1 0)) (av (ar (dk d1 2))) dh))):Int))]++az (br (az (dk d1 0)) (av (ar (dk d1 2))) dh)))then(k3 [dk d1 0,cg (az (dk d1 1)++[bf (au cq (au bb (fb (↑(ax (az (br (az (dk d1 0)) (av (ar (dk d1 2))) dh))):Int) 16777216))),bf (au cq (au bb (fb (↑(ax (az (br (az (dk d1 0)) (av (ar (dk d1 2))) dh))):Int) 65536))),bf (au cq (au bb (fb (↑(ax (az (br (az (dk d1 0)) (av (ar (dk d1 2))) dh))):Int) 256))),bf (au cq (↑(ax (az (br (az (dk d1 0)) (av (ar (dk d1 2))) dh))):Int))]++az (br (az (dk d1 0)) (av (ar (dk d1 2))) dh)),bf (au bb (ar (dk d1 2)+1))] [])else none)else none)else none)else none)else none)else none)else none)else(bif dc (ax (az (dk d1 1))) (ax (az (dk d1 1)))then(k2 [cg (az (dk d1 1))] [])else none))
def Vx (a0 a1:C) (k1:KD R):Option R:=jn (fun d1 m1=>(bif dc (ax (az (dk d1 0))) (ax (az (dk d1 0)))then(k1 [cg (az (dk d1 0))] [])else none)) (fun k2=>(BO N (Lq N k2) [a1,cg [a0,bf (au cq (↑(ax (az a1)):Int))],bf 0] []))
def Pt:=lid "" (@Vx R N)
theorem bR {R N a0 a1 k}:@Pt R N a0 a1 k=Vx N a0 a1 k:=by unfold Pt;rw[BQ]
def q5H:OvG R:=CA [.int .u8,.slice 24 (.slice 1 (.int .u8))] (Ef (Pt N)) fun a K d1 m1=>K (V.ts 1 (bm cq) (az (dk d1 0))) []
theorem q5I:okX 128 (@q5H R N):=Cg BS N [(128,[(1,[(12,4)])])] [(128,[([1,0,1,1],(Ct [(5,.sl 1 (.int .u8) 5005)])),
  ([4,1,0,1,1],(Cr [1] [(5,.sl 1 (.int .u8) 5005),(6,.d (.int .i64))])),
  ([9],(Ct [(4,.sl 1 (.int .u8) 5004)]))])] (fun _ _=>bR) fun a K=>(show _=jn (fun d1 m1=>(bif dc (ax (az (dk d1 0))) (ax (az (dk d1 0)))then
  (K (V.ts 1 (bm cq) (az (dk d1 0))) [])
 else
  none)) _ by kernel_rfl).trans (congrArg (fun k=>jn k _) (funext fun _=>funext fun _=>by simp only[bo,cond_true]))
def Vt (a0 a1 a2:C) (k1:KD R):Option R:=Pt N a1 a2 (fun d1 m1=>(NV N a0 (cg (az (dk d1 0))) (fun d2 m2=>(k1 [dk d2 0] []))))
def Pr:=lid "" (@Vt R N)
theorem bM {R N a0 a1 a2 k}:@Pr R N a0 a1 a2 k=Vt N a0 a1 a2 k:=by unfold Pr;rw[BQ]
def q5z:OvG R:=CA [Bf,.int .u8,.slice 24 (.slice 1 (.int .u8))] (Jq (Pr N)) (DS (bu 32 (bm cq)))
theorem q5A:okX 112 (@q5z R N):=Cg (Ap (q5E N) <| Ap (q5I N) <| BS) N [(112,[(0,[(3,5)]),(1,[(11,7)])])] [(112,[([9],⟨[],[(6,.as (.ptr (.l 6) [] (.arr 32 (.int .u8))))],[],[(.l 6,.box (.d (.arr 32 (.int .u8))))],[],[]⟩)])] (fun _ _=>bM)
section
variable {R:Type} {N:Nat}
def jS (b:Int):Int:=if 97<=b then IntKind.u64.wrap (b-39)else b
def KG (s:List UInt8) (n:Nat):Nat->Int
 |0=>0|i+1=>IntKind.u64.wrap (IntKind.u64.wrap (IntKind.u64.wrap (KG s n i*16)+jS (IntKind.u64.wrap ((s.getD (8*n+i) (sv 0)).toNat:Int)))-48)
theorem gJ (s:C) (n:Nat) (h1:8*n+8<=s.toStr.length) (h2:n<=1000) (hN:100<N) (k:KD R):KW N s (.int n) k=k [.int (KG s.toStr n 8)] []:=by
 have q1:IntKind.i64.wrap (8*(n:Int))=8*n:=wrap_i64 (by omega) (by omega);have q2:IntKind.i64.wrap (8*(n:Int)+8)=8*n+8:=wrap_i64 (by omega) (by omega);have lp:∀K:KD R,BO N (KV N K) [s,.int n,.int 0,.int (8*n+(0:Nat))] []=K [.int (KG s.toStr n 8)] []:=fun K=>by
  refine Fw (F:=KV N K) (fun i=>[s,.int n,.int (KG s.toStr n i),.int (8*n+(i:Nat))]) (fun _=>[]) 8 _ ?_ ?_ (N:=N) (by omega)
  ·intro i hi rec;have e1:8*(n:Int)+i<8*n+8:=by omega
   have e2:0<=8*(n:Int)+i/\8*(n:Int)+i<(s.toStr.length:Int):=by omega
   have e3:IntKind.i64.wrap (8*(n:Int)+i+1)=8*n+((i+1:Nat):Int):=by rw[wrap_i64 (by omega) (by omega)];omega
   have e4:(8*(n:Int)+i).toNat=8*n+i:=by omega
   unfold KV;simp only[AW,AF,AJ,AL,AP,AV,AG,q1,q2,e1,e3,e4,AE,AB];refine(if_pos e2).trans ?_;simp only[KG,jS];by_cases z:97<=IntKind.u64.wrap ((br s.toStr (8*n+i) (sv 0)).toNat:Int);{refine(congrArg (fun b=>cond b _ _) (decide_eq_true z)).trans ?_;rw[if_pos z];rfl};{refine(congrArg (fun b=>cond b _ _) (decide_eq_false z)).trans ?_;rw[if_neg z];rfl}
  ·intro rec;unfold KV;have e:¬8*(n:Int)+((8:Nat):Int)<8*n+8:=by omega
   simp only[AF,AJ,AL,AP,AG,q1,q2,e,AE,AB]
 rw[bS];unfold Vy;simp only[AW,AG,q1,AB];rw[show(8*(n:Int))=8*n+(0:Nat) by omega];exact(lp _).trans rfl
structure Fz (t:C):Prop where
 l0:(t.get 0).toStr.length=64
 l1:(t.get 1).toStr.length=512
 w0:∀i,i<8->KG (t.get 0).toStr i 8=((([1779033703,3144134277,1013904242,2773480762,1359893119,2600822924,528734635,1541459225]:List W32).getD i 0).toNat:Int)
 w1:∀i,i<64->KG (t.get 1).toStr i 8=((ksW.getD i 0).toNat:Int)
theorem Km (x:Int):IntKind.u64.wrap x=x%18446744073709551616:=by simp[au,qe,oe]
theorem Vb (x:W32):dz 64 (x.toNat:Int)=x.setWidth 64:=by rw[ox];apply BitVec.eq_of_toNat_eq;simp
theorem x64 (x y:W32):BR eg ay (x.toNat:Int) (y.toNat:Int)=((x^^^y).toNat:Int):=by show IntKind.u64.wrap (((dz 64 (x.toNat:Int))^^^(dz 64 (y.toNat:Int))).toNat:Int)=_;rw[Vb,Vb,<-BitVec.setWidth_xor,ti,Km];have:=DG (x^^^y);omega
theorem a64 (x y:W32):BR fg ay (x.toNat:Int) (y.toNat:Int)=((x&&&y).toNat:Int):=by show IntKind.u64.wrap (((dz 64 (x.toNat:Int))&&&(dz 64 (y.toNat:Int))).toNat:Int)=_;rw[Vb,Vb,<-BitVec.setWidth_and,ti,Km];have:=DG (x&&&y);omega
theorem q4j (x:W32):IntKind.u64.wrap (4294967295-(x.toNat:Int))=((~~~x).toNat:Int):=by have:=DG x;rw[Km,BitVec.toNat_not];omega
theorem q42 (e f g:W32):(e&&&f)+(~~~e&&&g)=g^^^(e&&&(f^^^g)):=by
 have h:(e&&&f)&&&(~~~e&&&g)=0:=by apply nf;intro i hi;simp only[pn,uj,BitVec.getLsbD_zero];cases e.getLsbD i <;> simp
 rw[BitVec.add_eq_or_of_and_eq_zero _ _ h];apply nf;intro i hi;simp only[pn,vb,uk,uj,hi,decide_true,Bool.true_and];cases e.getLsbD i <;> cases f.getLsbD i <;> cases g.getLsbD i <;> rfl
theorem q31 (a b c:W32):(a&&&b)^^^(a&&&c)^^^(b&&&c)=(a&&&b)|||(c&&&(a|||b)):=by apply nf;intro i hi;simp only[pn,vb,uk];cases a.getLsbD i <;> cases b.getLsbD i <;> cases c.getLsbD i <;> rfl
theorem Zu {x:Int} {v:W32} (h0:0<=x) (h1:x<18446744073709551616) (h:x%4294967296=(v.toNat:Int)):bn (IntKind.u64.wrap x) 4294967296=(v.toNat:Int):=by rw[Km,Int.emod_eq_of_lt h0 h1,ez h0];exact h
end
section
variable {R:Type} {N:Nat}
def QL (w:List C) (l:List W32) (i:Nat):W32:=
 if i<16 then JI ((w.drop (4*i)).take 4)else l.getD (i-16) 0+(sg0 (l.getD (i-15) 0)+l.getD (i-7) 0+sg1 (l.getD (i-2) 0))
def Cu (w:List C):Nat->List W32
 |0=>[]|i+1=>Cu w i++[QL w (Cu w i) i]
theorem Lx (w:List C):∀i,(Cu w i).length=i
 |0=>rfl|i+1=>by simp[Cu,Lx w i]
theorem Sy (w:List C) (i:Nat):∀j,i<j->(Cu w j).getD i 0=QL w (Cu w i) i
 |0,h=>by omega
 |j+1,h=>by simp only[Cu,bq];by_cases e:i=j;{subst e;rw[gj (by rw[Lx];exact bx _),Lx,Nat.sub_self];rfl};{rw[fp (by rw[Lx];omega),<-bq];exact Sy w i j (by omega)}
theorem WY (w:List C) (i j k:Nat) (hj:i<j) (hk:i<k):(Cu w j).getD i 0=(Cu w k).getD i 0:=by rw[Sy w i j hj,Sy w i k hk]
theorem q9i (a b c d:C) (ha:DZ a) (hb:DZ b) (hc:DZ c) (hd:DZ d):((JI [a,b,c,d]).toNat:Int)=((a.toInt*256+b.toInt)*256+c.toInt)*256+d.toInt:=by
 have key:∀(x:W32) (y:C) (m:Nat),DZ y->x.toNat<m->m<=16777216->((x <<< 8|||dz 32 y.toInt).toNat:Int)=(x.toNat:Int)*256+y.toInt:=by
  intro x y m hy hx hm;obtain⟨_,h1,h2⟩:=hy;obtain⟨n,hn⟩:=Int.eq_ofNat_of_zero_le h1;rw[hn]at h2 ⊢;have e1:(dz 32 (n:Int)).toNat=n:=by rw[ox,BitVec.toNat_ofNat];omega
  rw[BitVec.toNat_or,BitVec.toNat_shiftLeft,Nat.shiftLeft_eq,e1];rw[show(2:Nat)^8=256 from rfl,show(2:Nat)^32=4294967296 from rfl,tr (by omega)];have:=Nat.two_pow_add_eq_or_of_lt (b:=n) (i:=8) (by omega) x.toNat;rw[Nat.mul_comm,show(256:Nat)=2^8 from rfl,<-this];omega
 have e0:=key 0 a 1 ha (by decide) (by decide);have z0:((0:W32).toNat:Int)=0:=rfl;rw[z0]at e0;have b0:=ha.2;have b1:=hb.2;have b2:=hc.2;have b3:=hd.2;have e1:=key ((0:W32) <<< 8|||dz 32 a.toInt) b 256 hb (by omega) (by decide);have e2:=key (((0:W32) <<< 8|||dz 32 a.toInt) <<< 8|||dz 32 b.toInt) c 65536 hc (by omega) (by decide);have e3:=key ((((0:W32) <<< 8|||dz 32 a.toInt) <<< 8|||dz 32 b.toInt) <<< 8|||dz 32 c.toInt) d 16777216 hd (by omega) (by decide);show((((((0:W32) <<< 8|||dz 32 a.toInt) <<< 8|||dz 32 b.toInt) <<< 8|||dz 32 c.toInt) <<< 8|||dz 32 d.toInt).toNat:Int)=_;omega
theorem q8k {b:List C} {i:Nat} (h:4*i+4<=b.length):(b.drop (4*i)).take 4=[b.getD (4*i) .nil,b.getD (4*i+1) .nil,b.getD (4*i+2) .nil,b.getD (4*i+3) .nil]:=by
 apply fc;intro j;rw[List.getElem?_take];split
 ·rename_i hj;rw[List.getElem?_drop];have hl:4*i+j<b.length:=by omega
  rw[bp hl]
  match j,hj with
  |0,_=>simp[bq,bp (show 4*i<b.length by omega)]|1,_=>simp[bq,bp (show 4*i+1<b.length by omega)]|2,_=>simp[bq,bp (show 4*i+2<b.length by omega)]|3,_=>simp[bq,bp (show 4*i+3<b.length by omega)]
 ·rename_i hj;rw[List.getElem?_eq_none (by simp;omega)]
theorem q8c (a b c d:Int) (ha:0<=a/\a<256) (hb:0<=b/\b<256) (hc:0<=c/\c<256) (hd:0<=d/\d<256):
  IntKind.u64.wrap (IntKind.u64.wrap (IntKind.u64.wrap (IntKind.u64.wrap (IntKind.u64.wrap (IntKind.u64.wrap (IntKind.u64.wrap a*256)+IntKind.u64.wrap b)*256)+IntKind.u64.wrap c)*256)+IntKind.u64.wrap d)=((a*256+b)*256+c)*256+d:=by
 simp only[Km];omega
theorem q8d (a x b y:W32):bn (IntKind.u64.wrap (IntKind.u64.wrap (IntKind.u64.wrap ((a.toNat:Int)+(x.toNat:Int))+(b.toNat:Int))+(y.toNat:Int))) 4294967296=((a+(x+b+y)).toNat:Int):=by have h1:=DG a;have h2:=DG x;have h3:=DG b;have h4:=DG y;simp only[Km];rw[ez (by omega)];simp only[kf];omega
theorem q2q (t:C) (h b:List C) (hb:b.length=64) (hbb:∀c∈b,DZ c) (hN:1000<N) (K:KD R):
  BO N (Ji N K) [.slice h,.slice b,t,.slice [],.int 0] []=K [.slice h,t,.slice ((Cu b 64).map wI)] []:=by
 refine Fw (F:=Ji N K) (fun i=>[.slice h,.slice b,t,.slice ((Cu b i).map wI),.int i]) (fun _=>[]) 64 _ ?_ ?_ (N:=N) (by omega)
 ·intro i hi rec;have e1:(i:Int)<64:=by omega
  have g1:(i+1)*8<=140737488355328/\i+1<=9223372036854775807:=by omega
  have hl:((Cu b i).map wI).length=i:=by rw[fq,Lx]
  by_cases z:(i:Int)<16
  ·have zn:i<16:=by omega
   have p0:IntKind.i64.wrap (4*(i:Int))=((4*i:Nat):Int):=by rw[wrap_i64 (by omega) (by omega)];omega
   have p1:IntKind.i64.wrap (((4*i:Nat):Int)+1)=((4*i+1:Nat):Int):=by rw[wrap_i64 (by omega) (by omega)];omega
   have p2:IntKind.i64.wrap (((4*i:Nat):Int)+2)=((4*i+2:Nat):Int):=by rw[wrap_i64 (by omega) (by omega)];omega
   have p3:IntKind.i64.wrap (((4*i:Nat):Int)+3)=((4*i+3:Nat):Int):=by rw[wrap_i64 (by omega) (by omega)];omega
   have c0:((4*i:Nat):Int)<((64:Nat):Int):=by omega
   have c1:((4*i+1:Nat):Int)<((64:Nat):Int):=by omega
   have c2:((4*i+2:Nat):Int)<((64:Nat):Int):=by omega
   have c3:((4*i+3:Nat):Int)<((64:Nat):Int):=by omega
   have y0:=hbb _ (Ez (show 4*i<b.length by omega));have y1:=hbb _ (Ez (show 4*i+1<b.length by omega));have y2:=hbb _ (Ez (show 4*i+2<b.length by omega));have y3:=hbb _ (Ez (show 4*i+3<b.length by omega));have hs:(Cu b (i+1)).map wI=(Cu b i).map wI++[.int ((((b.getD (4*i) .nil).toInt*256+(b.getD (4*i+1) .nil).toInt)*256+(b.getD (4*i+2) .nil).toInt)*256+(b.getD (4*i+3) .nil).toInt)]:=by simp only[Cu,QL,if_pos zn,pt,dt,xv,wI];rw[q8k (by omega),q9i _ _ _ _ y0 y1 y2 y3]
   have hv:=q8c _ _ _ _ y0.2 y1.2 y2.2 y3.2;unfold Ji;simp only[AW,AF,AJ,AL,AP,AV,AG,AQ,e1,z,p0,p1,p2,p3,hb,c0,c1,c2,c3,hl,g1,AE,cf,and_self,bo,bc,bt,cn,cu,bh,CV (show i<4611686018427387904 by omega),AB];rw[hv,<-hs]
  ·have zn:¬i<16:=by omega
   have p15:IntKind.i64.wrap ((i:Int)-15)=((i-15:Nat):Int):=by rw[wrap_i64 (by omega) (by omega)];omega
   have p2:IntKind.i64.wrap ((i:Int)-2)=((i-2:Nat):Int):=by rw[wrap_i64 (by omega) (by omega)];omega
   have p16:IntKind.i64.wrap ((i:Int)-16)=((i-16:Nat):Int):=by rw[wrap_i64 (by omega) (by omega)];omega
   have p7:IntKind.i64.wrap ((i:Int)-7)=((i-7:Nat):Int):=by rw[wrap_i64 (by omega) (by omega)];omega
   have c15:((i-15:Nat):Int)<(i:Int):=by omega
   have c2:((i-2:Nat):Int)<(i:Int):=by omega
   have c16:((i-16:Nat):Int)<(i:Int):=by omega
   have c7:((i-7:Nat):Int)<(i:Int):=by omega
   have gw:∀j,j<i->(ow wI (Cu b i)).getD j .nil=wI ((Cu b i).getD j 0):=fun j hj=>by rw[bq,de,bq,bp (by rw[Lx];exact hj)];rfl
   have g15:=gw (i-15) (by omega);have g2:=gw (i-2) (by omega);have g16:=gw (i-16) (by omega);have g7:=gw (i-7) (by omega);have r1:∀(x:W32) (k:KD R),Db N (wI x) (.int 7) (.bool true) k=k [wI (Fx x 7)] []:=fun x k=>IX x 7 (by omega) (by omega) true (by omega) k;have r2:∀(x:W32) (k:KD R),Db N (wI x) (.int 18) (.bool true) k=k [wI (Fx x 18)] []:=fun x k=>IX x 18 (by omega) (by omega) true (by omega) k;have r3:∀(x:W32) (k:KD R),Db N (wI x) (.int 3) (.bool false) k=k [wI (x >>> 3)] []:=fun x k=>IX x 3 (by omega) (by omega) false (by omega) k;have r4:∀(x:W32) (k:KD R),Db N (wI x) (.int 17) (.bool true) k=k [wI (Fx x 17)] []:=fun x k=>IX x 17 (by omega) (by omega) true (by omega) k;have r5:∀(x:W32) (k:KD R),Db N (wI x) (.int 19) (.bool true) k=k [wI (Fx x 19)] []:=fun x k=>IX x 19 (by omega) (by omega) true (by omega) k;have r6:∀(x:W32) (k:KD R),Db N (wI x) (.int 10) (.bool false) k=k [wI (x >>> 10)] []:=fun x k=>IX x 10 (by omega) (by omega) false (by omega) k;have hs:(Cu b (i+1)).map wI=(Cu b i).map wI++[wI ((Cu b i).getD (i-16) 0+(sg0 ((Cu b i).getD (i-15) 0)+(Cu b i).getD (i-7) 0+sg1 ((Cu b i).getD (i-2) 0)))]:=by simp only[Cu,QL,if_neg zn,pt,dt,xv]
   unfold Ji;simp only[AW,AF,AJ,AL,AP,AV,AG,AQ,e1,z,p15,p2,p16,p7,c15,c2,c16,c7,hl,g1,g15,g2,g16,g7,r1,r2,r3,r4,r5,r6,HW,x64,AE,cf,and_self,bo,bc,bt,cn,cu,bh,CV (show i<4611686018427387904 by omega),AB];rw[q8d,hs];rfl
 ·intro rec;unfold Ji;have e:¬((64:Nat):Int)<64:=by decide
  simp only[AF,AJ,AL,AP,AV,AG,AQ,e,AE,bo,AB]
end
section
variable {R:Type} {N:Nat}
theorem qT (w:List C):∀i j,i<=16->j<i->(nG w i).getD j 0=JI ((w.drop (4*j)).take 4)
 |0,j,_,h=>by omega
 |i+1,j,hi,h=>by show((nG w i).set i _).getD j 0=_;rw[Mm (by rw[NP];omega)];by_cases e:i=j;{subst e;rw[if_pos rfl]};{rw[if_neg e];exact qT w i j (by omega) (by omega)}
theorem qX (w:List C) (h:List W32) (hh:h.length=8):∀i,i<=64->∀j,(j<i\/j<16)->i<=j+16->(DB (nG w 16) h i).1.getD (j%16) 0=(Cu w 64).getD j 0
 |0,_,j,hj,_=>by
  have hj:j<16:=by omega
  show(nG w 16).getD (j%16) 0=_;rw[tr hj,qT w 16 j (by omega) hj,Sy w j 64 (by omega),QL,if_pos hj]
 |i+1,hi,j,hj,hij=>by
  have ih:=qX w h hh i (by omega);have hl:=(QQ (NP w 16) hh i).1;show(HR i (DB (nG w 16) h i).1).getD (j%16) 0=_;unfold HR;by_cases z:16<=i
  ·rw[if_pos z,Mm (by omega)];by_cases e:i%16=j%16
   ·have e':j=i:=by omega
    subst e';rw[if_pos rfl];have i0:=ih (j-16) (by omega) (by omega);have i1:=ih (j-15) (by omega) (by omega);have i7:=ih (j-7) (by omega) (by omega);have i2:=ih (j-2) (by omega) (by omega);rw[show(j-16)%16=j%16 by omega]at i0;rw[show(j-15)%16=(j+1)%16 by omega]at i1;rw[show(j-7)%16=(j+9)%16 by omega]at i7;rw[show(j-2)%16=(j+14)%16 by omega]at i2;rw[i0,i1,i7,i2,Sy w j 64 (by omega),QL,if_neg (by omega),WY w (j-16) j 64 (by omega) (by omega),WY w (j-15) j 64 (by omega) (by omega),WY w (j-7) j 64 (by omega) (by omega),WY w (j-2) j 64 (by omega) (by omega)]
   ·rw[if_neg e];exact ih j (by omega) (by omega)
  ·rw[if_neg z];exact ih j (by omega) (by omega)
def XI (i:Nat) (v s:List W32):Prop:=v.length=8/\∀k,k<8->v.getD ((64-i+k)%8) 0=s.getD k 0
theorem q4K (h s e f g K w:W32):IntKind.u64.wrap (IntKind.u64.wrap (IntKind.u64.wrap (IntKind.u64.wrap ((h.toNat:Int)+(s.toNat:Int))+IntKind.u64.wrap (((e&&&f).toNat:Int)+((~~~e&&&g).toNat:Int)))+(K.toNat:Int))+(w.toNat:Int))=(h.toNat:Int)+s.toNat+(e&&&f).toNat+(~~~e&&&g).toNat+K.toNat+w.toNat:=by have h1:=DG h;have h2:=DG s;have h3:=DG (e&&&f);have h4:=DG (~~~e&&&g);have h5:=DG K;have h6:=DG w;simp only[Km];omega
theorem rZ (h s e f g K w:W32):((h.toNat:Int)+s.toNat+(e&&&f).toNat+(~~~e&&&g).toNat+K.toNat+w.toNat)%4294967296=((h+s+(g^^^(e&&&(f^^^g)))+K+w).toNat:Int):=by rw[<-q42];simp only[kf];omega
theorem q3n (d h s e f g K w:W32):bn (IntKind.u64.wrap ((d.toNat:Int)+((h.toNat:Int)+s.toNat+(e&&&f).toNat+(~~~e&&&g).toNat+K.toNat+w.toNat))) 4294967296=((d+(h+s+(g^^^(e&&&(f^^^g)))+K+w)).toNat:Int):=by have h0:=DG d;have h1:=DG h;have h2:=DG s;have h3:=DG (e&&&f);have h4:=DG (~~~e&&&g);have h5:=DG K;have h6:=DG w;have ho:=rZ h s e f g K w;refine Zu (by omega) (by omega) ?_;rw[kf];omega
theorem q2x (z m h s e f g K w:W32):bn (IntKind.u64.wrap (IntKind.u64.wrap (((h.toNat:Int)+s.toNat+(e&&&f).toNat+(~~~e&&&g).toNat+K.toNat+w.toNat)+(z.toNat:Int))+(m.toNat:Int))) 4294967296=((h+s+(g^^^(e&&&(f^^^g)))+K+w+z+m).toNat:Int):=by
 have h0:=DG z;have h1:=DG h;have h2:=DG s;have h3:=DG (e&&&f);have h4:=DG (~~~e&&&g);have h5:=DG K;have h6:=DG w;have h7:=DG m;have ho:=rZ h s e f g K w;have e1:IntKind.u64.wrap (((h.toNat:Int)+s.toNat+(e&&&f).toNat+(~~~e&&&g).toNat+K.toNat+w.toNat)+(z.toNat:Int))=((h.toNat:Int)+s.toNat+(e&&&f).toNat+(~~~e&&&g).toNat+K.toNat+w.toNat)+(z.toNat:Int):=by simp only[Km];omega
 rw[e1];refine Zu (by omega) (by omega) ?_;simp only[kf]at ho ⊢;omega
theorem q2p (t:C) (ht:Fz t) (hC:C) (b:List C) (vW:List W32) (i:Nat) (hi:i<64) (hv:vW.length=8) (hN:1000<N) (K rec:KD R):
  KU N K rec [hC,t,.int 8,.slice ((Cu b 64).map wI),.int i,.agg (vW.map wI)] []=
   rec [hC,t,.int 8,.slice ((Cu b 64).map wI),.int ((i+1:Nat):Int),.agg (((vW.set ((67-i)%8) (vW.getD ((67-i)%8) 0+(vW.getD ((71-i)%8) 0+bs1 (vW.getD ((68-i)%8) 0)+(vW.getD ((70-i)%8) 0^^^(vW.getD ((68-i)%8) 0&&&(vW.getD ((69-i)%8) 0^^^vW.getD ((70-i)%8) 0)))+ksW.getD i 0+(Cu b 64).getD i 0))).set ((71-i)%8)
    (vW.getD ((71-i)%8) 0+bs1 (vW.getD ((68-i)%8) 0)+(vW.getD ((70-i)%8) 0^^^(vW.getD ((68-i)%8) 0&&&(vW.getD ((69-i)%8) 0^^^vW.getD ((70-i)%8) 0)))+ksW.getD i 0+(Cu b 64).getD i 0+bs0 (vW.getD ((64-i)%8) 0)+((vW.getD ((64-i)%8) 0&&&vW.getD ((65-i)%8) 0)|||(vW.getD ((66-i)%8) 0&&&(vW.getD ((64-i)%8) 0|||vW.getD ((65-i)%8) 0))))).map wI)] []:=by
 have e1:(i:Int)<64:=by omega
 have e8:av 8=8:=rfl;have q64:IntKind.i64.wrap (64-(i:Int))=((64-i:Nat):Int):=by rw[wrap_i64 (by omega) (by omega)];omega
 have q65:IntKind.i64.wrap (65-(i:Int))=((65-i:Nat):Int):=by rw[wrap_i64 (by omega) (by omega)];omega
 have q66:IntKind.i64.wrap (66-(i:Int))=((66-i:Nat):Int):=by rw[wrap_i64 (by omega) (by omega)];omega
 have q67:IntKind.i64.wrap (67-(i:Int))=((67-i:Nat):Int):=by rw[wrap_i64 (by omega) (by omega)];omega
 have q68:IntKind.i64.wrap (68-(i:Int))=((68-i:Nat):Int):=by rw[wrap_i64 (by omega) (by omega)];omega
 have q69:IntKind.i64.wrap (69-(i:Int))=((69-i:Nat):Int):=by rw[wrap_i64 (by omega) (by omega)];omega
 have q70:IntKind.i64.wrap (70-(i:Int))=((70-i:Nat):Int):=by rw[wrap_i64 (by omega) (by omega)];omega
 have q71:IntKind.i64.wrap (71-(i:Int))=((71-i:Nat):Int):=by rw[wrap_i64 (by omega) (by omega)];omega
 have c8:∀a:Nat,bn (a:Int) 8=((a%8:Nat):Int):=fun a=>xU a 8;have r8:∀a:Nat,((a%8:Nat):Int)<((8:Nat):Int):=fun a=>by omega
 have gv:∀a:Nat,bj (.agg (vW.map wI)) (a%8)=wI (vW.getD (a%8) 0):=fun a=>Hh (by omega);have gs:∀(x:W32) (m a:Nat),bj (.agg ((vW.set m x).map wI)) (a%8)=wI ((vW.set m x).getD (a%8) 0):=fun x m a=>Hh (by rw[dp];omega);have z7i:∀x:W32,(vW.set ((67-i)%8) x).getD ((64-i)%8) 0=vW.getD ((64-i)%8) 0:=fun x=>by rw[Mm (by omega),if_neg (by omega)]
 have hw:(ow wI (Cu b 64)).length=64:=by rw[fq,Lx]
 have gw:(ow wI (Cu b 64)).getD i .nil=wI ((Cu b 64).getD i 0):=by rw[bq,de,bq,bp (by rw[Lx];exact hi)];rfl
 have r1:∀(x:W32) (k:KD R),Db N (wI x) (.int 6) (.bool true) k=k [wI (Fx x 6)] []:=fun x k=>IX x 6 (by omega) (by omega) true (by omega) k;have r2:∀(x:W32) (k:KD R),Db N (wI x) (.int 11) (.bool true) k=k [wI (Fx x 11)] []:=fun x k=>IX x 11 (by omega) (by omega) true (by omega) k;have r3:∀(x:W32) (k:KD R),Db N (wI x) (.int 25) (.bool true) k=k [wI (Fx x 25)] []:=fun x k=>IX x 25 (by omega) (by omega) true (by omega) k;have r4:∀(x:W32) (k:KD R),Db N (wI x) (.int 2) (.bool true) k=k [wI (Fx x 2)] []:=fun x k=>IX x 2 (by omega) (by omega) true (by omega) k;have r5:∀(x:W32) (k:KD R),Db N (wI x) (.int 13) (.bool true) k=k [wI (Fx x 13)] []:=fun x k=>IX x 13 (by omega) (by omega) true (by omega) k;have r6:∀(x:W32) (k:KD R),Db N (wI x) (.int 22) (.bool true) k=k [wI (Fx x 22)] []:=fun x k=>IX x 22 (by omega) (by omega) true (by omega) k;have rt:∀k:KD R,KW N (t.get 1) (.int i) k=k [wI (ksW.getD i 0)] []:=fun k=>by rw[gJ _ i (by rw[ht.l1];omega) (by omega) (by omega),ht.w1 i hi];rfl
 unfold KU;simp only[AF,AJ,AL,AP,AV,Ab,AG,AQ,Ac,e1,e8,q64,q65,q66,q67,q68,q69,q70,q71,c8,r8,gv,hw,gw,r1,r2,r3,r4,r5,r6,rt,HW,x64,a64,q4j,q4K,q3n,dJ,gs,z7i,q31,q2x,AE,cf,and_self,bo,bh,bc,dp,fq,CV (show i<4611686018427387904 by omega),AB];refine(if_pos ⟨trivial,by omega⟩).trans ?_;rfl
theorem q60 (w:List C) (h:List W32) (hh:h.length=8) (i:Nat) (hi:i<64) (v:List W32) (hv:XI i v (DB (nG w 16) h i).2):
  XI (i+1) ((v.set ((67-i)%8) (v.getD ((67-i)%8) 0+(v.getD ((71-i)%8) 0+bs1 (v.getD ((68-i)%8) 0)+(v.getD ((70-i)%8) 0^^^(v.getD ((68-i)%8) 0&&&(v.getD ((69-i)%8) 0^^^v.getD ((70-i)%8) 0)))+ksW.getD i 0+(Cu w 64).getD i 0))).set ((71-i)%8)
    (v.getD ((71-i)%8) 0+bs1 (v.getD ((68-i)%8) 0)+(v.getD ((70-i)%8) 0^^^(v.getD ((68-i)%8) 0&&&(v.getD ((69-i)%8) 0^^^v.getD ((70-i)%8) 0)))+ksW.getD i 0+(Cu w 64).getD i 0+bs0 (v.getD ((64-i)%8) 0)+((v.getD ((64-i)%8) 0&&&v.getD ((65-i)%8) 0)|||(v.getD ((66-i)%8) 0&&&(v.getD ((64-i)%8) 0|||v.getD ((65-i)%8) 0)))))
   (DB (nG w 16) h (i+1)).2:=by
 obtain⟨hl,hp⟩:=hv;have p0:=hp 0 (by omega);have p1:=hp 1 (by omega);have p2:=hp 2 (by omega);have p3:=hp 3 (by omega);have p4:=hp 4 (by omega);have p5:=hp 5 (by omega);have p6:=hp 6 (by omega);have p7:=hp 7 (by omega);rw[show 64-i+0=64-i by omega]at p0;rw[show 64-i+1=65-i by omega]at p1;rw[show 64-i+2=66-i by omega]at p2;rw[show 64-i+3=67-i by omega]at p3;rw[show 64-i+4=68-i by omega]at p4;rw[show 64-i+5=69-i by omega]at p5;rw[show 64-i+6=70-i by omega]at p6;rw[show 64-i+7=71-i by omega]at p7;have hn:(HR i (DB (nG w 16) h i).1).getD (i%16) 0=(Cu w 64).getD i 0:=qX w h hh (i+1) (by omega) i (by omega) (by omega);have hs:(DB (nG w 16) h (i+1)).2=[MO i (HR i (DB (nG w 16) h i).1) (DB (nG w 16) h i).2+bs0 ((DB (nG w 16) h i).2.getD 0 0)+(((DB (nG w 16) h i).2.getD 0 0&&&(DB (nG w 16) h i).2.getD 1 0)|||((DB (nG w 16) h i).2.getD 2 0&&&((DB (nG w 16) h i).2.getD 0 0|||(DB (nG w 16) h i).2.getD 1 0))),(DB (nG w 16) h i).2.getD 0 0,(DB (nG w 16) h i).2.getD 1 0,(DB (nG w 16) h i).2.getD 2 0,(DB (nG w 16) h i).2.getD 3 0+MO i (HR i (DB (nG w 16) h i).1) (DB (nG w 16) h i).2,(DB (nG w 16) h i).2.getD 4 0,(DB (nG w 16) h i).2.getD 5 0,(DB (nG w 16) h i).2.getD 6 0]:=rfl;have ha:MO i (HR i (DB (nG w 16) h i).1) (DB (nG w 16) h i).2=v.getD ((71-i)%8) 0+bs1 (v.getD ((68-i)%8) 0)+(v.getD ((70-i)%8) 0^^^(v.getD ((68-i)%8) 0&&&(v.getD ((69-i)%8) 0^^^v.getD ((70-i)%8) 0)))+ksW.getD i 0+(Cu w 64).getD i 0:=by unfold MO;rw[hn,p4,p5,p6,p7]
 rw[hs,ha,<-p0,<-p1,<-p2,<-p3,<-p4,<-p5,<-p6];refine⟨by rw[dp,dp];exact hl,fun k hk=>?_⟩;generalize v.getD ((71-i)%8) 0+bs1 (v.getD ((68-i)%8) 0)+(v.getD ((70-i)%8) 0^^^(v.getD ((68-i)%8) 0&&&(v.getD ((69-i)%8) 0^^^v.getD ((70-i)%8) 0)))+ksW.getD i 0+(Cu w 64).getD i 0=one;rw[Mm (by rw[dp];omega),Mm (by omega)]
 match k,hk with
 |0,_=>rw[if_pos (by omega)];rfl|1,_=>rw[if_neg (by omega),if_neg (by omega),show(64-(i+1)+1)%8=(64-i)%8 by omega];rfl|2,_=>rw[if_neg (by omega),if_neg (by omega),show(64-(i+1)+2)%8=(65-i)%8 by omega];rfl|3,_=>rw[if_neg (by omega),if_neg (by omega),show(64-(i+1)+3)%8=(66-i)%8 by omega];rfl|4,_=>rw[if_neg (by omega),if_pos (by omega)];rfl|5,_=>rw[if_neg (by omega),if_neg (by omega),show(64-(i+1)+5)%8=(68-i)%8 by omega];rfl|6,_=>rw[if_neg (by omega),if_neg (by omega),show(64-(i+1)+6)%8=(69-i)%8 by omega];rfl|7,_=>rw[if_neg (by omega),if_neg (by omega),show(64-(i+1)+7)%8=(70-i)%8 by omega];rfl
theorem qG {F:KD R->List C->List Es->Option R} (n:Nat) (inv:Nat->List C->Prop) (r:Option R)
  (step:∀i st,i<n->inv i st->∃st',inv (i+1) st'/\∀rec:KD R,F rec st []=rec st' [])
  (stop:∀st,inv n st->∀rec:KD R,F rec st []=r):∀(m i N:Nat) (st:List C),i+m=n->m<N->inv i st->BO N F st []=r
 |0,i,N,st,hi,hN,h=>by
  obtain⟨N,rfl⟩:∃a,N=a+1:=⟨N-1,by omega⟩;have e:i=n:=by omega
  subst e;rw[Dl];exact stop st h _
 |m+1,i,N,st,hi,hN,h=>by obtain⟨N,rfl⟩:∃a,N=a+1:=⟨N-1,by omega⟩;obtain⟨st',h1,h2⟩:=step i st (by omega) h;rw[Dl,h2];exact qG n inv r step stop m (i+1) N st' (by omega) (by omega) h1
theorem pL {l:List W32} (h:l.length=8):l=[l.getD 0 0,l.getD 1 0,l.getD 2 0,l.getD 3 0,l.getD 4 0,l.getD 5 0,l.getD 6 0,l.getD 7 0]:=by
 match l,h with
 | [_,_,_,_,_,_,_,_],_=>rfl
theorem q2o (t:C) (ht:Fz t) (hC:C) (b:List C) (h:List W32) (hh:h.length=8) (hN:1000<N) (K:KD R):
  BO N (KU N K) [hC,t,.int 8,.slice ((Cu b 64).map wI),.int (0:Nat),.agg (h.map wI)] []=K [hC,.int 8,.agg ((DB (nG b 16) h 64).2.map wI)] []:=by
 refine qG (F:=KU N K) 64 (fun i st=>∃v,XI i v (DB (nG b 16) h i).2/\st=[hC,t,.int 8,.slice ((Cu b 64).map wI),.int i,.agg (v.map wI)]) _ ?_ ?_ 64 0 N _ (by omega) (by omega) ⟨h,⟨hh,fun k hk=>?_⟩,rfl⟩;{rintro i st hi ⟨v,hv,rfl⟩;exact⟨_,⟨_,q60 b h hh i hi v hv,rfl⟩,fun rec=>q2p t ht hC b v i hi hv.1 hN K rec⟩}
 ·rintro st ⟨v,hv,rfl⟩ rec;have e:v=(DB (nG b 16) h 64).2:=by have hl:=(QQ (NP b 16) hh 64).2;rw[pL hv.1,pL hl];have hp:=hv.2;have p0:=hp 0 (by omega);have p1:=hp 1 (by omega);have p2:=hp 2 (by omega);have p3:=hp 3 (by omega);have p4:=hp 4 (by omega);have p5:=hp 5 (by omega);have p6:=hp 6 (by omega);have p7:=hp 7 (by omega);simp only[Nat.sub_self,bh,Nat.zero_mod,Nat.reduceMod]at p0 p1 p2 p3 p4 p5 p6 p7;rw[p0,p1,p2,p3,p4,p5,p6,p7]
  unfold KU;have e64:¬((64:Nat):Int)<64:=by decide
  simp only[AF,AJ,AL,AP,AV,Ab,AG,AQ,e64,AE,e,AB];rfl
 ·have:(64-0+k)%8=k:=by omega
  rw[this];rfl
theorem q2n (h s:List W32) (hh:h.length=8) (hs:s.length=8) (hN:1000<N) (K:KD R):
  BO N (Lp N K) [.slice (h.map wI),.int 8,.int (0:Nat),.int (0:Nat),.agg (s.map wI),.agg []] []=K [.int 8,.agg ((aG h s 8).map wI)] []:=by
 have key:=Fw (F:=Lp N K) (fun i=>[.slice (h.map wI),.int 8,.int (i:Nat),.int (i:Nat),.agg (s.map wI),.agg (((aG h s 8).take i).map wI)]) (fun _=>[]) 8 (K [.int 8,.agg ((aG h s 8).map wI)] []) ?_ ?_ (N:=N) (by omega);{exact key}
 ·intro i hi rec;have e1:(i:Int)<8:=by omega
  have e8:av 8=8:=rfl;have e2:(i:Int)<((8:Nat):Int):=by omega
  have g1:(i+1)*8<=140737488355328/\i+1<=9223372036854775807:=by omega
  have hl8:(aG h s 8).length=8:=by rw[MN];exact hh
  have hlt:(ow wI ((aG h s 8).take i)).length=i:=by rw[fq,jq,hl8];omega
  have htk:ek i (ow wI ((aG h s 8).take i))=ow wI ((aG h s 8).take i):=eu (by rw[hlt];exact bx _);have hgh:(h.map wI).getD i .nil=wI (h.getD i 0):=by rw[bq,de,bq,bp (by omega)];rfl
  have hgs:bj (.agg (s.map wI)) i=wI (s.getD i 0):=Hh (by omega);have hlm:(h.map wI).length=8:=by rw[fq];exact hh
  have hag:∀j m,j<m->m<=8->(aG h s m).getD j 0=h.getD j 0+s.getD j 0:=by
   intro j m hj hm
   induction m with
   |zero=>omega|succ m ih=>
    show((aG h s m).set m _).getD j 0=_;rw[Mm (by rw[MN];omega)];by_cases e:m=j;{subst e;rw[if_pos rfl]};{rw[if_neg e];exact ih (by omega) (by omega)}
  have z9g:bn (IntKind.u64.wrap (((h.getD i 0).toNat:Int)+((s.getD i 0).toNat:Int))) 4294967296=((h.getD i 0+s.getD i 0).toNat:Int):=by have h1:=DG (h.getD i 0);have h2:=DG (s.getD i 0);refine Zu (by omega) (by omega) ?_;rw[kf];omega
  have ht:ow wI ((aG h s 8).take (i+1))=ow wI ((aG h s 8).take i)++[wI (h.getD i 0+s.getD i 0)]:=by rw[qm,bp (by omega),pt];have:=hag i 8 hi (by omega);rw[bq,bp (by omega)]at this;simp only[jh]at this;rw[this];rfl
  unfold Lp;simp only[AF,AJ,AL,AP,AV,Ab,AG,AQ,Ac,e1,e2,e8,hlm,g1,hlt,htk,hgh,hgs,z9g,HW,AE,cf,and_self,bh,bc,bt,cn,cu,CV (show i<4611686018427387904 by omega),AB];rw[ht];rfl
 ·intro rec;unfold Lp;have e:¬((8:Nat):Int)<8:=by decide
  have hl8:(aG h s 8).length=8:=by rw[MN];exact hh
  simp only[AF,AJ,AL,AP,AV,Ab,AG,AQ,e,AE,eu (Nat.le_of_eq hl8),AB];rfl
theorem u1 (t:C) (ht:Fz t) (h:List W32) (b:List C) (hh:h.length=8) (hb:b.length=64) (hbb:∀c∈b,DZ c) (hN:1000<N) (k:KD R):NW N t (.slice (h.map wI)) (.slice b) k=k [.int 8,.agg ((JS h b).map wI)] []:=by
 have hlm:(h.map wI).length=8:=by rw[fq];exact hh
 have ne:(h.map wI).isEmpty=false:=by cases h with|nil=>simp at hh|cons=>rfl
 rw[bQ];unfold Vw;simp only[AW,AB];refine(q2q t (h.map wI) b hb hbb hN _).trans ?_;simp only[AF,AJ,AL,AQ,Ac,ne,hlm,bo,AE,AB];refine(q2o t ht _ b h hh hN _).trans ?_;simp only[AF,AJ,AL,AG,if_true,AB];refine(q2n h _ hh (QQ (NP b 16) hh 64).2 hN _).trans ?_;simp only[AF,AJ,AL,AG,if_true,AB];rfl
end
section
variable {R:Type} {N:Nat}
def feed (p:List W32 × List C) (b:C):List W32 × List C:=
 if p.2.length=63 then(JS p.1 (p.2++[b]),[])else(p.1,p.2++[b])
theorem lT:∀(x:List C) (h:List W32) (q:List C),q.length+x.length<64->x.foldl feed (h,q)=(h,q++x)
 | [],h,q,_=>by simp
 |b::x,h,q,hl=>by
  have hl':q.length+(x.length+1)<64:=by simpa using hl
  have e:feed (h,q) b=(h,q++[b]):=by unfold feed;rw[if_neg (by show ¬q.length=63;omega)]
  rw[og,e,lT x h (q++[b]) (by simp;omega)];simp
theorem YU:∀(x:List C) (h:List W32) (q:List C),q.length+x.length=64->q.length<64->x.foldl feed (h,q)=(JS h (q++x),[])
 | [],h,q,hl,hq=>by simp at hl;omega
 |b::x,h,q,hl,hq=>by
  have hl':q.length+(x.length+1)=64:=by simpa using hl
  by_cases e63:q.length=63;{have hx:x=[]:=fk (by omega);subst hx;simp only[og,xb,feed];rw[if_pos e63]}
  ·have e:feed (h,q) b=(h,q++[b]):=by unfold feed;rw[if_neg (by show ¬q.length=63;exact e63)]
   rw[og,e,YU x h (q++[b]) (by simp;omega) (by simp;omega)];simp
structure HY (m:C) (h:List W32) (q:List C) (n:Int):Prop where
 ex:∃w:List C,m= .agg [.agg (h.map wI),.agg w,.int n]/\w.length=64/\w.take q.length=q/\∀c∈w,DZ c
 hl:h.length=8
 nn:W64 n
 ql:n%64=(q.length:Int)
theorem q05 {h:List W32} (hh:h.length=8):∀(x:List C) (q:List C),(x.foldl feed (h,q)).1.length=8:=by
 have key:∀(x:List C) (p:List W32 × List C),p.1.length=8->(x.foldl feed p).1.length=8:=by
  intro x
  induction x with
  |nil=>intro p hp;exact hp|cons b x ih=>
   intro p hp;rw[og];refine ih _ ?_;unfold feed;split;{exact Xo hp _};{exact hp}
 exact fun x q=>key x (h,q) hh
theorem put_eq (l:List C) (m:C) (h:List W32) (q:List C) (n:Int) (hm:HY m h q n) (hb:∀c∈l,DZ c) (hN:l.length+100<N):
  ∃m' n',HY m' (l.foldl feed (h,q)).1 (l.foldl feed (h,q)).2 n'/\n'=(n+l.length)%18446744073709551616/\∀k:KD R,Lf N (.slice l) m k=k [m'] []:=by
 obtain⟨d,⟨m',h1,rfl⟩,h2⟩:=LZ (R:=R) (F:=fun k2=>KN N k2)
  (fun j st=>∃(x:List C) (m:C) (h':List W32) (q':List C) (n':Int),st=[.slice x,m]/\HY m h' q' n'/\x.length<=j/\(∀c∈x,DZ c)/\x.foldl feed (h',q')=l.foldl feed (h,q)/\(n'+x.length)%18446744073709551616=(n+l.length)%18446744073709551616)
  (fun d=>∃m',HY m' (l.foldl feed (h,q)).1 (l.foldl feed (h,q)).2 ((n+l.length)%18446744073709551616)/\d=[m'])
  (fun j st hst=>by
   obtain⟨x,m,h',q',n',rfl,⟨⟨w,rfl,hw,hwq,hwb⟩,hh,hn,hq⟩,hx,hbx,hf,hne⟩:=hst;have z9h:q'.length<64:=by have:=hn.1;omega
   by_cases e:0<(x.length:Int)
   ·left;have r:bn n' 64=(q'.length:Int):=by rw[ez hn.1];exact hq
    obtain⟨p,hp⟩:∃p,min x.length (64-q'.length)=p:=⟨_,rfl⟩;have tq:(64-(q'.length:Int)).toNat=64-q'.length:=by omega
    have cw:(Dg w q'.length (64-q'.length) x).length=64:=by rw[Tt (by omega)];exact hw
    have c1:0<64-q'.length:=by omega
    have c2:0<=(p:Int)/\(p:Int)<=(x.length:Int)/\(x.length:Int)<=(x.length:Int):=by omega
    have c3:0<=(q'.length:Int)/\(q'.length:Int)<=64/\iy 64<=64:=⟨by omega,by omega,by decide⟩;have wp:IntKind.u64.wrap (p:Int)=(p:Int):=wrap_u64 (by omega) (by omega);have wn:IntKind.u64.wrap (n'+(p:Int))=(n'+p)%18446744073709551616:=by simp[au,qe,oe]
    have hxs:x=x.take p++x.drop p:=(kh p x).symm;have z8v:cut x (p:Int) (x.length:Int)=x.drop p:=by simp[cut]
    have tk:(x.take (64-q'.length))=x.take p:=by rcases Nat.le_total x.length (64-q'.length)with h1|h1;{rw[eu h1,eu (by omega)]};{rw[show p=64-q'.length by omega]}
    have cpy:Dg w q'.length (64-q'.length) x=(q'++x.take p)++w.drop (q'.length+p):=by unfold Dg;rw[hwq,tk,show min x.length (64-q'.length)=p from hp]
    have cb:∀c∈Dg w q'.length (64-q'.length) x,DZ c:=by rw[cpy];intro c hc;rcases ed.1 hc with hc|hc;{rcases ed.1 hc with hc|hc;{rw[<-hwq]at hc;exact hwb c (lx hc)};{exact hbx c (lx hc)}};{exact hwb c (kx hc)}
    have lp:(x.take p).length=p:=by simp;omega
    have ld:(x.drop p).length<j+0\/(x.drop p).length<x.length:=.inr (by simp;omega);have e2:bn ((n'+(p:Int))%18446744073709551616) 64=(n'+p)%64:=by rw[ez (by omega)];omega
    by_cases z:(n'+(p:Int))%64=0
    ·have z70:q'.length+p=64:=by omega
     have hcw:Dg w q'.length (64-q'.length) x=q'++x.take p:=by rw[cpy,ub (by omega)];simp
     refine⟨_,(x.drop p).length,by simp;omega,⟨x.drop p,_,JS h' (q'++x.take p),[],(n'+p)%18446744073709551616,rfl,⟨⟨q'++x.take p,rfl,by simp;omega,by simp,by rw[<-hcw];exact cb⟩,Xo hh _,⟨by omega,by omega⟩,by simp;omega⟩,bx _,fun c hc=>hbx c (kx hc),?_,by simp;omega⟩,fun k rec=>?_⟩;{rw[<-hf,hxs,iz,kh,YU _ _ _ (by omega) z9h]};{unfold KN;simp only[AW,AF,AJ,AG,AQ,Ac,JZ,Mn,PB,Kg,QM,QN,e,r,tq,bc,hp,c1,c2,c3,wp,wn,e2,z,z8v,hcw,decide_true,cond_true,and_self,if_true,q1C h' hh (q'++x.take p) (by simp;omega) (by rw[<-hcw];exact cb) _ (show 100<N by omega)]}
    ·have z8P:q'.length+p<64:=by omega
     have hpx:p=x.length:=by omega
     refine⟨_,(x.drop p).length,by simp;omega,⟨x.drop p,_,h',q'++x.take p,(n'+p)%18446744073709551616,rfl,⟨⟨Dg w q'.length (64-q'.length) x,rfl,cw,?_,cb⟩,hh,⟨by omega,by omega⟩,by simp;omega⟩,bx _,fun c hc=>hbx c (kx hc),?_,by simp;omega⟩,fun k rec=>?_⟩;{rw[cpy,xc]};{have e9:(x.take p).foldl feed (h',q')=(h',q'++x.take p):=lT _ _ _ (by rw[lp];exact z8P);rw[<-hf,<-e9,<-iz,kh]};{unfold KN;simp only[AW,AF,AJ,AG,AQ,Ac,JZ,Mn,PB,Kg,QM,QN,e,r,tq,bc,hp,c1,c2,c3,wp,wn,e2,z,z8v,AE,and_self,AB]}
   ·right;have hx0:x=[]:=fk (by omega);subst hx0;have en:n'=(n+l.length)%18446744073709551616:=by have:=hn.1;have:=hn.2;simp at hne;omega
    refine⟨_,⟨.agg [.agg (h'.map wI),.agg w,.int n'],?_,rfl⟩,fun k rec=>?_⟩;{rw[<-hf,<-en];exact⟨⟨w,rfl,hw,hwq,hwb⟩,hh,hn,hq⟩}
    ·unfold KN;simp only[AF,AJ,AQ,e,AE])
  l.length l.length [.slice l,m] N (bx _) ⟨l,m,h,q,n,rfl,hm,bx _,hb,rfl,rfl⟩ (by omega)
 refine⟨m',_,h1,rfl,fun k=>?_⟩;rw[Zo];unfold VL;simp only[AW,AB];exact(h2 _).trans rfl
end
section
variable {R:Type} {N:Nat}
theorem Wk {l:List C} {i:Nat} (hi:i<l.length):l.take (i+1)=l.take i++[l.getD i .nil]:=by rw[qm,bp hi,bq,bp hi];rfl
def Fg (l:List C):List C:=l.flatMap az
def Ks (B:Nat) (l:List C):Prop:=∀x∈l,x= .slice x.elems/\(∀c∈x.elems,DZ c)/\x.elems.length<=B
theorem zA (l:List C) (m:C) (h:List W32) (q:List C) (n:Int) (hm:HY m h q n) (B:Nat) (hb:Ks B l) (hl:l.length<N) (hN:B+100<N) (hN2:N<4611686018427387904):
  ∃m' n',HY m' ((Fg l).foldl feed (h,q)).1 ((Fg l).foldl feed (h,q)).2 n'/\n'=(n+(Fg l).length)%18446744073709551616/\∀k:KD R,NJ N (.slice l) m k=k [m'] []:=by
 obtain⟨d,⟨m',h1,rfl⟩,h2⟩:=GZ (R:=R) (F:=fun k2=>NI N k2) l.length
  (fun i st=>∃m:C,HY m ((Fg (l.take i)).foldl feed (h,q)).1 ((Fg (l.take i)).foldl feed (h,q)).2 ((n+(Fg (l.take i)).length)%18446744073709551616)/\st=[.slice l,.int l.length,.int i,m])
  (fun d=>∃m',HY m' ((Fg l).foldl feed (h,q)).1 ((Fg l).foldl feed (h,q)).2 ((n+(Fg l).length)%18446744073709551616)/\d=[m'])
  (fun i st hi hst=>by
   obtain⟨m,hm,rfl⟩:=hst;have e1:(i:Int)<(l.length:Int):=by omega
   obtain⟨y1,y2,y3⟩:=hb _ (Ez hi);obtain⟨m2,n2,h2,hn2,h3⟩:=put_eq (R:=R) (N:=N) (l.getD i .nil).elems m _ _ _ hm y2 (by omega);have ec:Fg (l.take (i+1))=Fg (l.take i)++(l.getD i .nil).elems:=by rw[Wk hi];unfold Fg;rw[jt];simp
   refine⟨_,⟨m2,?_,rfl⟩,fun k rec=>?_⟩
   ·rw[ec,iz];have en:n2=(n+((Fg (l.take i)++(l.getD i .nil).elems).length:Nat))%18446744073709551616:=by rw[hn2,bt];omega
    rw[<-en];exact h2
   ·unfold NI;simp only[AF,AJ,AL,AP,AG,AQ,e1,AE,cf,and_self,bc,CV (show i<4611686018427387904 by omega),AB];rw[y1,h3];simp only[AF])
  (fun st hst=>by
   obtain⟨m,hm,rfl⟩:=hst;rw[dx]at hm;refine⟨_,⟨m,hm,rfl⟩,fun k rec=>?_⟩;unfold NI;simp only[AF,AJ,AL,AP,AG,fj,AE,AB])
  (N:=N) (by omega) (st:=[.slice l,.int l.length,.int (0:Nat),m]) ⟨m,by
   have:=hm.nn;have e:(n+((Fg (l.take 0)).length:Nat))%18446744073709551616=n:=by have:(Fg (l.take 0)).length=0:=rfl;rw[this];have:=hm.nn.1;have:=hm.nn.2;omega
   rw[e];exact hm,rfl⟩
 refine⟨m',_,h1,rfl,fun k=>?_⟩;rw[Zm];unfold VJ;simp only[AW,AQ,AB];exact(h2 _).trans rfl
def b4 (n:Int):List C:=[bf (au cq (jy n (2^24))),bf (au cq (jy n (2^16))),bf (au cq (jy n (2^8))),bf (au cq n)]
theorem Yf (n:C) (k:KD R):KO N n k=k [.slice (b4 n.toInt)] []:=by rw[Zq];unfold VN;rfl
theorem Kw (n:Int):(b4 n).length=4:=rfl
theorem XY (x:Int):DZ (.int (au cq x)):=by refine⟨rfl,?_,?_⟩;{show 0<=au cq x;rw[wrap_u8];omega};{show au cq x<256;rw[wrap_u8];omega}
theorem Th (n:Int):∀c∈b4 n,DZ c:=by intro c hc;simp only[b4,gy,nv,or_false]at hc;rcases hc with rfl|rfl|rfl|rfl <;> exact XY _
def EB (n:Int):List C:=.int 128::bw (63-((n+8)%64).toNat) (.int 0)
def FA (n:Int):List C:=b4 (IntKind.u32.wrap (jy (n*8%18446744073709551616) (2^32)))++b4 (IntKind.u32.wrap (n*8%18446744073709551616))
theorem Ou (n:Int):∀c∈EB n,DZ c:=by intro c hc;rcases gy.1 hc with rfl|hc;{exact⟨rfl,by decide,by decide⟩};{rw[tc hc];exact⟨rfl,by decide,by decide⟩}
theorem pQ (n:Int):∀c∈FA n,DZ c:=by intro c hc;rcases ed.1 hc with hc|hc;{exact Th _ c hc};{exact Th _ c hc}
def LD (h:List W32):C:=.agg (h.flatMap fun x=>b4 x.toNat)
theorem YC:∀(h:List W32),(h.flatMap fun x=>b4 x.toNat).length=4*h.length
 | []=>rfl|x::h=>by rw[ko,bt,YC h,Kw,cn];omega
theorem Y7 (A:List C) (z:C) (n:Nat) (y:List C) (hy:y.length<=n):Dg (A++bw n z) A.length n y=A++(y++bw (n-y.length) z):=by unfold Dg;rw[xc,eu hy,Nat.min_eq_left hy,<-List.drop_drop,List.drop_left,List.drop_replicate,fy]
theorem q1h (f:W32->List C) (H:List W32) (i:Nat) (hi:i<H.length):(H.take (i+1)).flatMap f=(H.take i).flatMap f++f (H.getD i 0):=by
 have et:H.take (i+1)=H.take i++[H.getD i 0]:=by rw[qm,bp hi,bq,bp hi];rfl
 rw[et,jt];simp
def OV (H:List W32) (i:Nat):List C:=((H.take i).flatMap fun x=>b4 x.toNat)++bw (32-4*i) (.int 0)
theorem J7 (H:List W32) (hh:H.length=8) (i:Nat) (hi:i<8):Dg (OV H i) (4*i) (32-4*i) (b4 (H.getD i 0).toNat)=OV H (i+1):=by
 have la:((H.take i).flatMap fun x=>b4 x.toNat).length=4*i:=by rw[YC,jq];omega
 have key:=Y7 ((H.take i).flatMap fun x=>b4 x.toNat) (.int 0) (32-4*i) (b4 (H.getD i 0).toNat) (by rw[Kw];omega);rw[la,Kw]at key;unfold OV;rw[key,q1h _ H i (by omega),fy,show 32-4*i-4=32-4*(i+1) by omega]
theorem J6 (H:List W32) (hh:H.length=8):dv (OV H 8)=LD H:=by unfold OV LD;rw[eu (by omega)];simp
theorem q3o (m:C) (h:List W32) (q:List C) (n:Int) (hm:HY m h q n) (hN:1000<N) (k:KD R):
  PU N m k=k [LD ((FA n).foldl feed ((EB n).foldl feed (h,q))).1,m] []:=by
 obtain⟨⟨w,rfl,hw,hwq,hwb⟩,hh,hn,hq⟩:=hm;have hm:HY (.agg [.agg (h.map wI),.agg w,.int n]) h q n:=⟨⟨w,rfl,hw,hwq,hwb⟩,hh,hn,hq⟩;have w8:IntKind.u64.wrap (n+8)=(n+8)%18446744073709551616:=by simp[au,qe,oe]
 have r:bn ((n+8)%18446744073709551616) 64=(n+8)%64:=by rw[ez (by omega)];omega
 have wl:IntKind.u64.wrap (n*8)=n*8%18446744073709551616:=by simp[au,qe,oe]
 obtain⟨z,hz⟩:∃z:Nat,(n+8)%64=z:=⟨((n+8)%64).toNat,by omega⟩;have hz64:z<64:=by omega
 have e1:IntKind.u64.wrap (64-(z:Int))=64-z:=wrap_u64 (by omega) (by omega);have tz:(64-(z:Int)).toNat=63-z+1:=by omega
 have ef:ek (63-z+1) (jb 0 (List.set (bw (63-z+1) (AH (bm cq))) 0 (bf 128)))=EB n:=by rw[jr,List.replicate_succ];show ek (63-z+1) (bf 128::bw (63-z) (AH (bm cq)))=_;rw[eu (by simp)];unfold EB;rw[hz];rfl
 obtain⟨m1,n1,hm1,_,h1⟩:=put_eq (R:=R) (N:=N) (EB n) _ _ _ _ hm (Ou n) (by simp[EB];omega);obtain⟨m2,n2,hm2,_,h2⟩:=put_eq (R:=R) (N:=N) (FA n) _ _ _ _ hm1 (pQ n) (by simp[FA,Kw];omega);obtain⟨⟨w2,rfl,_,_,_⟩,hh2,_,_⟩:=hm2;generalize hH:((FA n).foldl feed ((EB n).foldl feed (h,q))).1=H at*;have z32:AH (.arr 32 (.int .u8))= .agg (bw 32 (.int 0)):=rfl;have lp:∀K:KD R,BO N (Lc N K) [.agg (H.map wI),.int 0,.agg [.agg (h.map wI),.agg w,.int n],AH (.arr 32 (.int .u8)),.agg (bw 32 (.int 0))] []=K [.agg [.agg (h.map wI),.agg w,.int n],AH (.arr 32 (.int .u8)),LD H] []:=fun K=>by
  have key:=Fw (F:=Lc N K) (fun i=>[.agg (H.map wI),.int i,.agg [.agg (h.map wI),.agg w,.int n],AH (.arr 32 (.int .u8)),.agg (OV H i)]) (fun _=>[]) 8 (K [.agg [.agg (h.map wI),.agg w,.int n],AH (.arr 32 (.int .u8)),LD H] []) ?_ ?_ (N:=N) (by omega);{exact key}
  ·intro i hi rec;have e1:(i:Int)<8:=by omega
   have e2:IntKind.i64.wrap (4*(i:Int))=((4*i:Nat):Int):=by rw[wrap_i64 (by omega) (by omega)];omega
   have e3:(32-((4*i:Nat):Int)).toNat=32-4*i:=by omega
   have c1:0<32-4*i:=by omega
   have c2:((4*i:Nat):Int)<=32/\iy 32<=32:=⟨by omega,by decide⟩;have gi:bj (.agg (H.map wI)) i=wI (H.getD i 0):=Hh (by omega);have ec:=J7 H hh2 i hi;unfold Lc;simp only[AF,AJ,AL,AP,AV,AG,AQ,Ac,e1,e2,e3,c1,c2,gi,Yf,HW,ec,AE,cf,and_self,bc,CV (show i<4611686018427387904 by omega),AB]
  ·intro rec;have e:¬((8:Nat):Int)<8:=by decide
   unfold Lc;simp only[AF,AJ,AL,AP,AV,AG,e,AE,J6 H hh2,AB]
 rw[Zl];unfold VI;simp only[PB,AG,w8,r,e1,wl,hz,tz,ef,AB];refine(if_pos (by omega)).trans ?_;refine(if_pos ⟨by decide,by omega⟩).trans ?_;rw[h1];have m32:min (av 32) 64=32:=rfl;simp only[AF,Yf,AG,AQ,bo,cond_true,Kw,m32,AB];refine(if_pos (by omega)).trans ?_;have h2':=h2;unfold FA at h2';rw[h2'];simp only[AW,AF,JZ,z32,AB];exact(lp _).trans rfl
end
section
variable {R:Type} {N:Nat}
def ivW:List W32:=[1779033703,3144134277,1013904242,2773480762,1359893119,2600822924,528734635,1541459225]
theorem q4f:∃m,HY m ivW [] 0/\∀k:KD R,PW N k=k [m] []:=by refine⟨.agg [.agg (ivW.map wI),.agg (bw 64 (.int 0)),.int 0],⟨⟨bw 64 (.int 0),rfl,by simp,rfl,fun c hc=>?_⟩,rfl,⟨by decide,by decide⟩,rfl⟩,fun k=>?_⟩;{rw[tc hc];exact⟨rfl,by decide,by decide⟩};{rw[Zp];unfold VM;rfl}
def EO (x:C):List C:=b4 (IntKind.u32.wrap (x.elems.length:Int))++x.elems
def FZ (d:C) (l:List C):List C:=[d,.int (IntKind.u8.wrap (l.length:Int))]++l.flatMap EO
def QO (p:List C):C:=LD ((FA p.length).foldl feed ((EB p.length).foldl feed (p.foldl feed (ivW,[])))).1
theorem zQ (d:C) (hd:DZ d) (l:List C) (B:Nat) (hb:Ks B l) (hl:l.length+1000<N) (hN:B+1000<N) (hN2:N<4611686018427387904) (hm:(FZ d l).length<4611686018427387904) (k:KD R):
  PS N d (.slice l) k=k [QO (FZ d l)] []:=by
 obtain⟨m0,hm0,h0⟩:=q4f (R:=R) (N:=N);have p1:Ks 10 [cg [d,bf (IntKind.u8.wrap (l.length:Int))]]:=fun x hx=>by rw[fv.1 hx];refine⟨rfl,fun c hc=>?_,by simp[AQ]⟩;simp only[AQ,gy,nv,or_false]at hc;rcases hc with rfl|rfl;{exact hd};{exact XY _}
 obtain⟨m1,n1,hm1,hn1,h1⟩:=zA (R:=R) (N:=N) [cg [d,bf (IntKind.u8.wrap (l.length:Int))]] m0 ivW [] 0 hm0 10 p1 (by simp;omega) (by omega) hN2;have c1:Fg [cg [d,bf (IntKind.u8.wrap (l.length:Int))]]=[d,bf (IntKind.u8.wrap (l.length:Int))]:=rfl;rw[c1]at hm1 hn1
 obtain⟨dd,⟨m2,hm2,rfl⟩,h2⟩:=GZ (R:=R) (F:=fun k2=>NH N k2) l.length
  (fun i st=>∃m:C,HY m (([d,bf (IntKind.u8.wrap (l.length:Int))]++(l.take i).flatMap EO).foldl feed (ivW,[])).1 (([d,bf (IntKind.u8.wrap (l.length:Int))]++(l.take i).flatMap EO).foldl feed (ivW,[])).2 ((([d,bf (IntKind.u8.wrap (l.length:Int))]++(l.take i).flatMap EO).length:Nat)%18446744073709551616)/\st=[.slice l,.int l.length,.int i,AH (.arr 32 (.int .u8)),m])
  (fun dd=>∃m',HY m' ((FZ d l).foldl feed (ivW,[])).1 ((FZ d l).foldl feed (ivW,[])).2 (((FZ d l).length:Nat)%18446744073709551616)/\dd=[AH (.arr 32 (.int .u8)),m'])
  (fun i st hi hst=>by
   obtain⟨m,hm,rfl⟩:=hst;have e1:(i:Int)<(l.length:Int):=by omega
   obtain⟨y1,y2,y3⟩:=hb _ (Ez hi);have pp:Ks (B+4) [cg (b4 (IntKind.u32.wrap ((l.getD i .nil).elems.length:Int))),l.getD i .nil]:=fun x hx=>by simp only[gy,nv,or_false]at hx;rcases hx with rfl|rfl;{exact⟨rfl,Th _,by rw[AQ,Kw];omega⟩};{exact⟨y1,y2,by omega⟩}
   obtain⟨m2,n2,h2,hn2,h3⟩:=zA (R:=R) (N:=N) _ m _ _ _ hm (B+4) pp (by simp;omega) (by omega) hN2;have cc:Fg [cg (b4 (IntKind.u32.wrap ((l.getD i .nil).elems.length:Int))),l.getD i .nil]=EO (l.getD i .nil):=by unfold Fg EO;rw[ko,ko,List.flatMap_nil,List.append_nil,AQ]
   have ec:(l.take (i+1)).flatMap EO=(l.take i).flatMap EO++EO (l.getD i .nil):=by rw[Wk hi,jt];simp
   rw[cc]at h2 hn2;refine⟨_,⟨m2,?_,rfl⟩,fun k rec=>?_⟩
   ·rw[ec,<-fy,iz];have en:n2=((([d,bf (IntKind.u8.wrap (l.length:Int))]++(l.take i).flatMap EO++EO (l.getD i .nil)).length:Nat):Int)%18446744073709551616:=by rw[hn2];generalize [d,bf (IntKind.u8.wrap (l.length:Int))]++(l.take i).flatMap EO=z;generalize EO (l.getD i .nil)=y;rw[bt];omega
    rw[<-en];exact h2
   ·unfold NH;simp only[AF,AJ,AL,AP,AV,AG,AQ,e1,AE,cf,and_self,bc,Yf,h3,CV (show i<4611686018427387904 by omega),AB])
  (fun st hst=>by
   obtain⟨m,hm,rfl⟩:=hst;rw[dx]at hm;refine⟨_,⟨m,hm,rfl⟩,fun k rec=>?_⟩;unfold NH;simp only[AF,AJ,AL,AP,AV,AG,fj,AE,AB])
  (N:=N) (by omega) (st:=[.slice l,.int l.length,.int (0:Nat),AH (.arr 32 (.int .u8)),m1]) ⟨m1,by
   have e:([d,bf (IntKind.u8.wrap (l.length:Int))]++(l.take 0).flatMap EO)=[d,bf (IntKind.u8.wrap (l.length:Int))]:=rfl;rw[e];have en:n1=((([d,bf (IntKind.u8.wrap (l.length:Int))]).length:Nat):Int)%18446744073709551616:=by rw[hn1];simp
   rw[<-en];exact hm1,rfl⟩
 have ln:(((FZ d l).length:Nat):Int)%18446744073709551616=((FZ d l).length:Int):=by omega
 rw[ln]at hm2;rw[Zj];unfold VG;simp only[h0,AF,AQ,h1,AW,AB];refine(h2 _).trans ?_;simp only[AJ,q3o m2 _ _ _ hm2 (show 1000<N by omega),AF];rfl
end
section
variable {R:Type} {N:Nat}
abbrev z32:C:=AH (.arr 32 (.int .u8))
theorem q1o (l:List C) (i:Nat):bj (.agg l) i=l.getD i .nil:=rfl
theorem dG (l:List C) (i:Nat) (x:C):cm (.agg l) i x= .agg (l.set i x):=rfl
theorem Uq (i m r:Nat) (hi:i=4*m+r) (hr:r<4) (hm:m<8) (c h:List C) (hc:c.length=32) (hh:h.length=8) (x:Nat) (hx:x<4294967296) (hg:h.getD m .nil= .int (x:Int)) (K rec:KD R):
  Ll N K rec [.int 8,.int (i:Int),z32,.agg c,.agg h] []=rec [.int 8,.int ((i:Int)-1),z32,.agg (c.set i (.int ((x%256:Nat):Int))),.agg (h.set m (.int ((x / 256:Nat):Int)))] []:=by
 have z2:(i:Int)<32:=by omega
 have e8:av 8=8:=rfl;have q:fb (i:Int) 4=(m:Int):=by rw[gq (by omega)];omega
 have q2:IntKind.i64.wrap (m:Int)=(m:Int):=wrap_i64 (by omega) (by omega);have c1:(m:Int)<((8:Nat):Int):=by omega
 have w1:IntKind.i64.wrap ((i:Int)-1)=(i:Int)-1:=wrap_i64 (by omega) (by omega);have m1:IntKind.u8.wrap (bn (x:Int) 256)=((x%256:Nat):Int):=by rw[ez (by omega),wrap_u8];omega
 have m2:IntKind.u64.wrap (fb (x:Int) 256)=((x / 256:Nat):Int):=by rw[gq (by omega),wrap_u64 (by omega) (by omega)];omega
 unfold Ll;simp only[AF,AJ,AL,AP,AV,AG,Ac,cf,z2,e8,q,q2,c1,w1,q1o,dG,bh,bc,hg,m1,m2,AE,and_self,dp,AB];rfl
theorem q7A (A B:List C) (n:Nat) (hA:A.length=n) (a b c d a' b' c' d':C):((((A++[a,b,c,d]++B).set (n+3) d').set (n+2) c').set (n+1) b').set n a'=A++[a',b',c',d']++B:=by
 subst hA;apply fc;intro i;simp only[fy];by_cases h:i<A.length;{simp[gf,fp h,show ¬A.length=i by omega,show ¬A.length+1=i by omega,show ¬A.length+2=i by omega,show ¬A.length+3=i by omega]}
 ·obtain⟨j,rfl⟩:∃j,i=A.length+j:=⟨i-A.length,by omega⟩
  match j with
  |0=>simp[gf]|1=>simp[gf]|2=>simp[gf]|3=>simp[gf]|j+4=>simp[gf,gj]
theorem Tg (x:Nat) (hx:x<4294967296):b4 (x:Int)=[.int ((x / 256 / 256 / 256%256:Nat):Int),.int ((x / 256 / 256%256:Nat):Int),.int ((x / 256%256:Nat):Int),.int ((x%256:Nat):Int)]:=by unfold b4;simp only[wrap_u8];rw[jl _ (by decide),jl _ (by decide),jl _ (by decide)];simp only[show(2:Int)^24=16777216 by decide,show(2:Int)^16=65536 by decide,show(2:Int)^8=256 by decide];rw[show((x:Int) / 16777216)%256=((x / 256 / 256 / 256%256:Nat):Int) by omega,show((x:Int) / 65536)%256=((x / 256 / 256%256:Nat):Int) by omega,show((x:Int) / 256)%256=((x / 256%256:Nat):Int) by omega,show(x:Int)%256=((x%256:Nat):Int) by omega]
theorem oC (hW:List W32) (hh8:hW.length=8) (K:KD R):∀(m M:Nat) (h:List C),m<=8->h.length=8->(∀j,j<m->h.getD j .nil=wI (hW.getD j 0))->4*m+1<M->
  BO M (Ll N K) [.int 8,.int (4*(m:Int)-1),z32,.agg (bw (4*m) (.int 0)++(hW.drop m).flatMap fun x=>b4 x.toNat),.agg h] []=K [z32,LD hW] []
 |0,M,h,_,hl,_,hM=>by
  obtain⟨M,rfl⟩:∃a,M=a+1:=⟨M-1,by omega⟩;rw[Dl];unfold Ll;have e:¬(0:Int)<=4*((0:Nat):Int)-1:=by omega
  simp only[AF,AJ,AL,AP,AV,AG,e,AE,AB];rfl
 |m+1,M,h,hm,hl,hg,hM=>by
  obtain⟨M,rfl⟩:∃a,M=a+1+1+1+1:=⟨M-4,by omega⟩;have hx:=DG (hW.getD m 0);have g:=hg m (by omega);obtain⟨x,hxx⟩:∃x,(hW.getD m 0).toNat=x:=⟨_,rfl⟩;have hr:bw (4*(m+1)) (bf 0)=bw (4*m) (.int 0)++[.int 0,.int 0,.int 0,.int 0]:=by rw[show 4*(m+1)=4*m+4 by omega,<-List.replicate_append_replicate];rfl
  have hd:(hW.drop m).flatMap (fun x=>b4 x.toNat)=b4 (x:Int)++(hW.drop (m+1)).flatMap fun x=>b4 x.toNat:=by rw[List.drop_eq_getElem_cons (by omega),ko];rw[bq,bp (by omega)]at hxx;simp only[jh]at hxx;rw[hxx]
  rw[hxx]at hx;have hgx:h.getD m .nil= .int (x:Int):=by rw[g,<-hxx];rfl
  have lc:(bw (4*m) (bf 0)++[bf 0,.int 0,.int 0,.int 0]++(hW.drop (m+1)).flatMap fun x=>b4 x.toNat).length=32:=by simp only[bt,List.length_replicate,YC,List.length_drop,hh8,cn,cu];omega
  have z7i:∀(l:List C) (v:C),l.length=8->(l.set m v).getD m .nil=v:=fun l v hl=>by rw[bq,List.getElem?_set_self (by omega)];rfl
  rw[hr];have i3:(4*((m+1:Nat):Int)-1)=((4*m+3:Nat):Int):=by omega
  have i2:(((4*m+3:Nat):Int)-1)=((4*m+2:Nat):Int):=by omega
  have i1:(((4*m+2:Nat):Int)-1)=((4*m+1:Nat):Int):=by omega
  have i0:(((4*m+1:Nat):Int)-1)=((4*m:Nat):Int):=by omega
  rw[i3,Dl,Uq (4*m+3) m 3 rfl (by omega) (by omega) _ _ lc hl x hx hgx,i2,Dl,Uq (4*m+2) m 2 rfl (by omega) (by omega) _ _ (by rw[dp];exact lc) (by rw[dp];exact hl) (x / 256) (by omega) (z7i _ _ hl),i1,
   Dl,Uq (4*m+1) m 1 rfl (by omega) (by omega) _ _ (by rw[dp,dp];exact lc) (by rw[dp,dp];exact hl) (x / 256 / 256) (by omega) (z7i _ _ (by rw[dp];exact hl)),i0,
   Dl,Uq (4*m) m 0 rfl (by omega) (by omega) _ _ (by rw[dp,dp,dp];exact lc) (by rw[dp,dp,dp];exact hl) (x / 256 / 256 / 256) (by omega) (z7i _ _ (by rw[dp,dp];exact hl)),
   q7A _ _ (4*m) (by simp),fy,<-Tg x hx,<-hd]
  have e:(((4*m:Nat):Int)-1)=4*(m:Int)-1:=by omega
  rw[e];refine oC hW hh8 K m M _ (by omega) (by simp only[dp];exact hl) (fun j hj=>?_) (by omega);rw[<-hg j (by omega)];simp only[bq,List.getElem?_set_ne (show m≠j by omega)]
theorem oD (t:C) (ht:Fz t) (hN:1000<N) (K:KD R):∀(q M:Nat) (b:List C) (h:List W32),b.length=64*q->h.length=8->(∀c∈b,DZ c)->q<M->
  BO M (NU N K) [t,.slice b,.int 8,z32,.agg (h.map wI)] []=K [.int 8,z32,.agg ((b.foldl feed (h,[])).1.map wI)] []
 |0,M,b,h,hb,hh,_,hM=>by obtain⟨M,rfl⟩:∃a,M=a+1:=⟨M-1,by omega⟩;have hb0:b=[]:=fk (by omega);subst hb0;rw[Dl];unfold NU;simp only[AF,AJ,AL,AP,AV,AQ,AG,cu,fj,AE,xb,AB];rfl
 |q+1,M,b,h,hb,hh,hbb,hM=>by
  obtain⟨M,rfl⟩:∃a,M=a+1:=⟨M-1,by omega⟩;have z':0<(b.length:Int):=by omega
  have c1:64<=(b.length:Int):=by omega
  have c2:iy 0<=0/\iy 0<=64/\64<=(b.length:Int):=⟨by decide,by decide,c1⟩;have c3:iy 0<=64/\64<=(b.length:Int)/\(b.length:Int)<=(b.length:Int):=⟨by decide,c1,Int.le_refl _⟩;have e8:av 8=8:=rfl;have th:ek 8 (jb 0 (h.map wI))=h.map wI:=by rw[jr];exact eu (by rw[fq];omega)
  have k1:cut b 0 64=b.take 64:=by simp[cut]
  have k2:cut b 64 (b.length:Int)=b.drop 64:=by simp[cut]
  have bl:∀k:KD R,NW N t (.slice (h.map wI)) (.slice (b.take 64)) k=k [.int 8,.agg ((JS h (b.take 64)).map wI)] []:=fun k=>
   u1 t ht h (b.take 64) hh (by simp;omega) (fun c hc=>hbb c (lx hc)) hN k
  have ff:b.foldl feed (h,[])=(b.drop 64).foldl feed (JS h (b.take 64),[]):=by
   conv=>lhs;rw[<-kh 64 b]
   rw[iz,YU (b.take 64) h [] (by simp;omega) (by simp)];rfl
  rw[Dl,ff,<-oD t ht hN K q M (b.drop 64) (JS h (b.take 64)) (by simp;omega) (Xo hh _) (fun c hc=>hbb c (kx hc)) (by omega)];unfold NU;simp only[AF,AJ,AL,AP,AV,AQ,AG,Ac,z',c2,c3,e8,k1,k2,th,bl,AE,and_self,bc,AB];rfl
def ivL (i:Nat):List C:=((ivW.take i).map wI)++bw (8-i) (AH (.int .u64))
theorem q18:∀i,i<8->(ivL i).set i (wI (ivW.getD i 0))=ivL (i+1)
 |0,_=>rfl|1,_=>rfl|2,_=>rfl|3,_=>rfl|4,_=>rfl|5,_=>rfl|6,_=>rfl|7,_=>rfl|i+8,h=>by omega
theorem q2r (t:C) (ht:Fz t) (b:List C) (hN:1000<N) (K:KD R):
  BO N (Lm N K) [t,.slice b,.int 8,.int 0,z32,.agg (bw 8 (AH (.int .u64)))] []=K [t,.slice b,.int 8,z32,.agg (ivW.map wI)] []:=by
 have key:=Fw (F:=Lm N K) (fun i=>[t,.slice b,.int 8,.int (i:Nat),z32,.agg (ivL i)]) (fun _=>[]) 8 (K [t,.slice b,.int 8,z32,.agg (ivW.map wI)] []) ?_ ?_ (N:=N) (by omega);{exact key}
 ·intro i hi rec;have e1:(i:Int)<8:=by omega
  have e8:av 8=8:=rfl;have e2:(i:Int)<((8:Nat):Int):=by omega
  have rt:∀k:KD R,KW N (t.get 0) (.int i) k=k [wI (ivW.getD i 0)] []:=fun k=>by rw[gJ _ i (by rw[ht.l0];omega) (by omega) (by omega),ht.w0 i hi];rfl
  unfold Lm;simp only[AF,AJ,AL,AP,AV,Ab,AG,AQ,Ac,e1,e2,e8,rt,dG,bh,AE,cf,and_self,bc,bo,dp,q18 i hi,CV (show i<4611686018427387904 by omega),AB];rfl
 ·intro rec;have e:¬((8:Nat):Int)<8:=by decide
  unfold Lm;simp only[AF,AJ,AL,AP,AV,Ab,AG,AQ,Ac,e,AE,bo,AB];rfl
end
section
variable {R:Type} {N:Nat}
theorem q2u (t p1:C) (p:List C) (n:Nat) (hp:p.length=n) (hn:n<=4398046511104) (hN:1000<N) (K:KD R):
  BO N (Ln N K) [p1,t,.slice (p++[.int 128]),z32] []=K [p1,t,.slice (p++EB n),z32] []:=by
 obtain⟨m,hm⟩:∃m,63-(((n:Int)+8)%64).toNat=m:=⟨_,rfl⟩;have hm2:m<64:=by omega
 have key:=Fw (F:=Ln N K) (fun i=>[p1,t,.slice (p++.int 128::bw i (.int 0)),z32]) (fun _=>[]) m (K [p1,t,.slice (p++EB n),z32] []) ?_ ?_ (N:=N) (by omega);{exact key}
 ·intro i hi rec;have hl:(p++bf 128::bw i (bf 0)).length=n+1+i:=by simp[hp];omega
  have z:¬((n+1+i:Nat):Int).tmod 64=56:=by rw[ez (by omega)];omega
  have g1:(n+1+i+1)*1<=140737488355328/\n+1+i+1<=9223372036854775807:=by omega
  have e:(p++bf 128::bw i (bf 0))++[bf 0]=p++bf 128::bw (i+1) (bf 0):=by rw[List.replicate_succ',fy];rfl
  have hl2:(p++bf 128::bw (i+1) (bf 0)).length=n+1+i+1:=by simp[hp];omega
  unfold Ln;simp only[AF,AJ,AL,AP,AQ,hl,z,g1,e,hl2,AE,bo,and_self,AB]
 ·intro rec;have hl:(p++bf 128::bw m (bf 0)).length=n+1+m:=by simp[hp];omega
  have z:((n+1+m:Nat):Int).tmod 64=56:=by rw[ez (by omega)];omega
  have e:EB n=bf 128::bw m (bf 0):=by unfold EB;rw[hm]
  rw[e];unfold Ln;simp only[AF,AJ,AL,AP,AQ,hl,z,AE,bo]
theorem q2t (t:C) (b e:List C) (x:Nat) (hx:x<18446744073709551616) (i:Nat) (hi:i<8) (K rec:KD R):
  KT N K rec [t,.int 0,.int 8,.int 8,.slice b,.int (x:Int),.int (i:Int),z32,.agg e] []=rec [t,.int 0,.int 8,.int 8,.slice b,.int ((x / 256:Nat):Int),.int ((i:Int)-1),z32,.agg (e.set i (.int ((x%256:Nat):Int)))] []:=by
 have c1:(i:Int)<((8:Nat):Int):=by omega
 have e8:av 8=8:=rfl;have w1:IntKind.i64.wrap ((i:Int)-1)=(i:Int)-1:=wrap_i64 (by omega) (by omega);have m1:IntKind.u8.wrap (bn (x:Int) 256)=((x%256:Nat):Int):=by rw[ez (by omega),wrap_u8];omega
 have m2:IntKind.u64.wrap (fb (x:Int) 256)=((x / 256:Nat):Int):=by rw[gq (by omega),wrap_u64 (by omega) (by omega)];omega
 have t0:av 0=0:=rfl;unfold KT;simp only[AF,AJ,AL,AP,AV,Ab,Af,Ak,Ao,AQ,AG,c1,e8,t0,w1,m1,m2,dG,bh,cf,AE,bo,and_self,bc,AB];rfl
theorem pP (n:Nat) (hn:n<=4398046511104):FA n=[.int ((n*8 / 256 / 256 / 256 / 256 / 256 / 256 / 256%256:Nat):Int),.int ((n*8 / 256 / 256 / 256 / 256 / 256 / 256%256:Nat):Int),.int ((n*8 / 256 / 256 / 256 / 256 / 256%256:Nat):Int),.int ((n*8 / 256 / 256 / 256 / 256%256:Nat):Int),.int ((n*8 / 256 / 256 / 256%256:Nat):Int),.int ((n*8 / 256 / 256%256:Nat):Int),.int ((n*8 / 256%256:Nat):Int),.int ((n*8%256:Nat):Int)]:=by
 unfold FA;have e1:IntKind.u32.wrap (jy ((n:Int)*8%18446744073709551616) (2^32))=((n*8 / 4294967296:Nat):Int):=by rw[jl _ (by decide),wrap_u32,show(2:Int)^32=4294967296 by decide];omega
 have e2:IntKind.u32.wrap ((n:Int)*8%18446744073709551616)=((n*8%4294967296:Nat):Int):=by rw[wrap_u32];omega
 rw[e1,e2,Tg _ (by omega),Tg _ (by omega)];obtain⟨y,hy⟩:∃y,n*8=y:=⟨_,rfl⟩;rw[hy];have f1:y / 4294967296=y / 256 / 256 / 256 / 256:=by omega
 have f2:y%4294967296%256=y%256:=by omega
 have f3:y%4294967296 / 256%256=y / 256%256:=by omega
 have f4:y%4294967296 / 256 / 256%256=y / 256 / 256%256:=by omega
 have f5:y%4294967296 / 256 / 256 / 256%256=y / 256 / 256 / 256%256:=by omega
 rw[f1,f2,f3,f4,f5];rfl
theorem q2s (t:C) (b:List C) (n:Nat) (hn:n<=4398046511104) (hN:1000<N) (K:KD R):
  BO N (KT N K) [t,.int 0,.int 8,.int 8,.slice b,.int ((n*8:Nat):Int),.int 7,z32,.agg (bw 8 (AH (.int .u8)))] []=K [t,.int 0,.int 8,.int 8,.slice b,z32,.agg (FA n)] []:=by
 obtain⟨M,hM⟩:∃M,N=M+1+1+1+1+1+1+1+1+1:=⟨N-9,by omega⟩;obtain⟨F,hF⟩:∃F,KT N K=F:=⟨_,rfl⟩;have one:∀(e:List C) (x:Nat) (_:x<18446744073709551616) (i:Nat) (_:i<8) (rec:KD R),F rec [t,.int 0,.int 8,.int 8,.slice b,.int (x:Int),.int (i:Int),z32,.agg e] []=rec [t,.int 0,.int 8,.int 8,.slice b,.int ((x / 256:Nat):Int),.int ((i:Int)-1),z32,.agg (e.set i (.int ((x%256:Nat):Int)))] []:=fun e x hx i hi rec=>by rw[<-hF];exact q2t t b e x hx i hi K rec
 have stop:∀(e:List C) (x:Int) (rec:KD R),F rec [t,.int 0,.int 8,.int 8,.slice b,.int x,.int (-1),z32,.agg e] []=K [t,.int 0,.int 8,.int 8,.slice b,z32,.agg e] []:=fun e x rec=>by
  rw[<-hF];have e0:¬(0:Int)<=-1:=by decide
  have e8:av 8=8:=rfl;have t0:av 0=0:=rfl;unfold KT;simp only[AF,AJ,AL,AP,AV,Ab,Af,Ak,Ao,AQ,AG,e0,e8,t0,AE,bo,AB];rfl
 rw[hF,hM,pP n hn];have s7:(7:Int)=((7:Nat):Int):=rfl;have s6:((7:Nat):Int)-1=((6:Nat):Int):=rfl;have s5:((6:Nat):Int)-1=((5:Nat):Int):=rfl;have s4:((5:Nat):Int)-1=((4:Nat):Int):=rfl;have s3:((4:Nat):Int)-1=((3:Nat):Int):=rfl;have s2:((3:Nat):Int)-1=((2:Nat):Int):=rfl;have s1:((2:Nat):Int)-1=((1:Nat):Int):=rfl;have s0:((1:Nat):Int)-1=((0:Nat):Int):=rfl;have sm:((0:Nat):Int)-1= -1:=rfl;obtain⟨y,hy⟩:∃y,n*8=y:=⟨_,rfl⟩;rw[hy,s7,Dl,one _ y (by omega) 7 (by omega),s6,Dl,one _ (y / 256) (by omega) 6 (by omega),s5,Dl,one _ (y / 256 / 256) (by omega) 5 (by omega),s4,Dl,one _ (y / 256 / 256 / 256) (by omega) 4 (by omega),s3,Dl,one _ (y / 256 / 256 / 256 / 256) (by omega) 3 (by omega),s2,Dl,one _ (y / 256 / 256 / 256 / 256 / 256) (by omega) 2 (by omega),s1,Dl,one _ (y / 256 / 256 / 256 / 256 / 256 / 256) (by omega) 1 (by omega),s0,Dl,one _ (y / 256 / 256 / 256 / 256 / 256 / 256 / 256) (by omega) 0 (by omega),sm,Dl,stop];rfl
theorem zT (t:C) (ht:Fz t) (p:List C) (hb:∀c∈p,DZ c) (hp:p.length<=4398046511104) (hN:p.length+1000<N) (k:KD R):NV N t (.slice p) k=k [QO p] []:=by
 obtain⟨n,hn⟩:∃n,p.length=n:=⟨_,rfl⟩;have lf:(EB n).length=1+(63-(((n:Int)+8)%64).toNat):=by simp[EB];omega
 have ll:(FA n).length=8:=by rw[pP n (by omega)];rfl
 obtain⟨q,hq⟩:∃q,(p++EB n++FA n).length=64*q:=⟨(p++EB n++FA n).length / 64,by simp only[bt,lf,ll,hn];omega⟩;have hq2:q<N:=by simp only[bt,lf,ll,hn]at hq;omega
 have hbb:∀c∈p++EB n++FA n,DZ c:=fun c hc=>by rcases ed.1 hc with hc|hc;{rcases ed.1 hc with hc|hc;{exact hb c hc};{exact Ou _ c hc}};{exact pQ _ c hc}
 have hH:((p++EB n++FA n).foldl feed (ivW,[])).1.length=8:=q05 rfl _ _;have z9i:QO p=LD ((p++EB n++FA n).foldl feed (ivW,[])).1:=by unfold QO;rw[hn,iz,iz]
 have w8:IntKind.u64.wrap (IntKind.u64.wrap (n:Int)*8)=((n*8:Nat):Int):=by simp only[Km];omega
 have g1:(n+1)*1<=140737488355328/\n+1<=9223372036854775807:=by omega
 have g2:((p++EB n).length+8)*1<=140737488355328/\(p++EB n).length+8<=9223372036854775807:=by simp only[bt,lf,hn];omega
 have te:ek 8 (jb 0 (FA n))=FA n:=by rw[jr];exact eu (by omega)
 have e8:av 8=8:=rfl;have t0:av 0=0:=rfl;rw[bP];unfold Vv;simp only[AW,AQ,hn,bo,AE,g1,and_self,bt,cn,cu,bh,AB];refine(q2u t (.slice p) p n hn (by omega) (by omega) _).trans ?_;simp only[AF,AJ,AL,AP,AQ,bo,cond_true,e8,hn,w8];refine(q2s t (p++EB n) n (by omega) (by omega) _).trans ?_;simp only[AF,AJ,AL,AP,AV,Ab,Af,AQ,Ac,AG,e8,t0,te,ll,AB];rw[if_pos g2];refine(q2r t ht _ (by omega) _).trans ?_;simp only[AF,AJ,AL,AP,AV,Ab,AQ,Ac,AG,e8,if_true,AB];refine(oD t ht (by omega) _ q N (p++EB n++FA n) ivW hq rfl hbb hq2).trans ?_;simp only[AF,AJ,AL,Ac,AG,e8,if_true,AB];rw[z9i]
 have key:=oC (N:=N) _ hH (fun d5 m5=>k [dk d5 1] []) 8 N (((p++EB n++FA n).foldl feed (ivW,[])).1.map wI) (by omega) (by rw[fq];exact hH) (fun j hj=>by
  rw[bq,de,bq,bp (by omega)];rfl) (by omega)
 have e0:(bw (4*8) (bf 0)++(((p++EB n++FA n).foldl feed (ivW,[])).1.drop 8).flatMap fun x=>b4 x.toNat)=bw 32 (.int 0):=by rw[ub (by omega)];rfl
 rw[e0]at key;exact key
end
def bL {R:Type} (N:Nat) (k1:KD R):Option R:=k1 [cm (cm (dv [C.str [],C.str []]) 0 (C.str [54,97,48,57,101,54,54,55,98,98,54,55,97,101,56,53,51,99,54,101,102,51,55,50,97,53,52,102,102,53,51,97,53,49,48,101,53,50,55,102,57,98,48,53,54,56,56,99,49,102,56,51,100,57,97,98,53,98,101,48,99,100,49,57])) 1 (C.str [52,50,56,97,50,102,57,56,55,49,51,55,52,52,57,49,98,53,99,48,102,98,99,102,101,57,98,53,100,98,97,53,51,57,53,54,99,50,53,98,53,57,102,49,49,49,102,49,57,50,51,102,56,50,97,52,97,98,49,99,53,101,100,53,100,56,48,55,97,97,57,56,49,50,56,51,53,98,48,49,50,52,51,49,56,53,98,101,53,53,48,99,55,100,99,51,55,50,98,101,53,100,55,52,56,48,100,101,98,49,102,101,57,98,100,99,48,54,97,55,99,49,57,98,102,49,55,52,101,52,57,98,54,57,99,49,101,102,98,101,52,55,56,54,48,102,99,49,57,100,99,54,50,52,48,99,97,49,99,99,50,100,101,57,50,99,54,102,52,97,55,52,56,52,97,97,53,99,98,48,97,57,100,99,55,54,102,57,56,56,100,97,57,56,51,101,53,49,53,50,97,56,51,49,99,54,54,100,98,48,48,51,50,55,99,56,98,102,53,57,55,102,99,55,99,54,101,48,48,98,102,51,100,53,97,55,57,49,52,55,48,54,99,97,54,51,53,49,49,52,50,57,50,57,54,55,50,55,98,55,48,97,56,53,50,101,49,98,50,49,51,56,52,100,50,99,54,100,102,99,53,51,51,56,48,100,49,51,54,53,48,97,55,51,53,52,55,54,54,97,48,97,98,98,56,49,99,50,99,57,50,101,57,50,55,50,50,99,56,53,97,50,98,102,101,56,97,49,97,56,49,97,54,54,52,98,99,50,52,98,56,98,55,48,99,55,54,99,53,49,97,51,100,49,57,50,101,56,49,57,100,54,57,57,48,54,50,52,102,52,48,101,51,53,56,53,49,48,54,97,97,48,55,48,49,57,97,52,99,49,49,54,49,101,51,55,54,99,48,56,50,55,52,56,55,55,52,99,51,52,98,48,98,99,98,53,51,57,49,99,48,99,98,51,52,101,100,56,97,97,52,97,53,98,57,99,99,97,52,102,54,56,50,101,54,102,102,51,55,52,56,102,56,50,101,101,55,56,97,53,54,51,54,102,56,52,99,56,55,56,49,52,56,99,99,55,48,50,48,56,57,48,98,101,102,102,102,97,97,52,53,48,54,99,101,98,98,101,102,57,97,51,102,55,99,54,55,49,55,56,102,50])] []
def SU:=lid "" (@bL R N)
theorem tX {R N k}:@SU R N k=bL N k:=by unfold SU;rw[BQ]
def tW:OvG R:=CA [] (fun a=>SU N) (DS Bf)
theorem q5y:okX 21 (@tW R N):=Cg BS N [] [(21,[([9],⟨[],[(0,.as (.ptr (.l 0) [] Bf))],[],[(.l 0,.box (.d Bf))],[],[]⟩)])] (fun _ _=>tX)
section
variable {R:Type} {N:Nat}
theorem zW (d:C) (l:List C) (B:Nat) (hb:Ks B l) (hB:B<=1000000) (hl:l.length<=100000) (hN:l.length+1000<N) (k:KD R):Pt N d (.slice l) k=k [.slice (FZ d l)] []:=by
 have z9j:∀i,i<=l.length->((l.take i).flatMap EO).length<=i*(B+4):=by
  intro i hi
  induction i with
  |zero=>simp|succ i ih=>
   rw[Wk (by omega),jt,bt];have h1:=ih (by omega);have h2:=(hb _ (Ez (show i<l.length by omega))).2.2;have h3:([l.getD i dh].flatMap EO).length=4+(l.getD i dh).elems.length:=by simp[EO,Kw]
   rw[h3,Nat.succ_mul];omega
 have lp:∀K:KD R,BO N (Lq N K) [.slice l,.slice [d,bf (au cq (l.length:Int))],.int 0] []=K [.slice (FZ d l)] []:=fun K=>by
  have key:=Fw (F:=Lq N K) (fun i=>[.slice l,.slice ([d,bf (au cq (l.length:Int))]++(l.take i).flatMap EO),.int (i:Nat)]) (fun _=>[]) l.length (K [.slice (FZ d l)] []) ?_ ?_ (N:=N) (by omega);{exact key}
  ·intro i hi rec;have e1:(i:Int)<(l.length:Int):=by omega
   obtain⟨y1,y2,y3⟩:=hb _ (Ez hi);have h1:=z9j i (by omega);have m1:i*(B+4)<=100000*1000004:=Nat.mul_le_mul (by omega) (by omega);obtain⟨o,ho⟩:∃o,[d,bf (au cq (l.length:Int))]++(l.take i).flatMap EO=o:=⟨_,rfl⟩;have hol:o.length<=2+100000*1000004:=by rw[<-ho];simp only[bt,cn,cu];omega
   obtain⟨y,hy⟩:∃y,(l.getD i .nil).elems=y:=⟨_,rfl⟩;rw[hy]at y3;have g1:(o.length+4)*1<=140737488355328/\o.length+4<=9223372036854775807:=by omega
   have g2:(o.length+4+y.length)*1<=140737488355328/\o.length+4+y.length<=9223372036854775807:=by omega
   have w1:IntKind.u8.wrap (IntKind.i64.wrap (fb (y.length:Int) 16777216))=((y.length / 256 / 256 / 256%256:Nat):Int):=by rw[gq (by omega),wrap_i64 (by omega) (by omega),wrap_u8];omega
   have w2:IntKind.u8.wrap (IntKind.i64.wrap (fb (y.length:Int) 65536))=((y.length / 256 / 256%256:Nat):Int):=by rw[gq (by omega),wrap_i64 (by omega) (by omega),wrap_u8];omega
   have w3:IntKind.u8.wrap (IntKind.i64.wrap (fb (y.length:Int) 256))=((y.length / 256%256:Nat):Int):=by rw[gq (by omega),wrap_i64 (by omega) (by omega),wrap_u8];omega
   have w4:IntKind.u8.wrap (y.length:Int)=((y.length%256:Nat):Int):=by rw[wrap_u8];omega
   have ec:o++[bf ((y.length / 256 / 256 / 256%256:Nat):Int),bf ((y.length / 256 / 256%256:Nat):Int),bf ((y.length / 256%256:Nat):Int),bf ((y.length%256:Nat):Int)]++y=[d,bf (au cq (l.length:Int))]++(l.take (i+1)).flatMap EO:=by
    rw[<-Tg _ (by omega),Wk hi,jt,<-fy,ho,fy];have:[l.getD i dh].flatMap EO=b4 (IntKind.u32.wrap ((l.getD i .nil).elems.length:Int))++(l.getD i .nil).elems:=by simp[EO]
    rw[this,hy];rw[show IntKind.u32.wrap (y.length:Int)=(y.length:Int) by rw[wrap_u32];omega]
   rw[ho,<-ec];unfold Lq;simp only[AF,AJ,AL,AG,AQ,e1,hy,w1,w2,w3,w4,g1,g2,AE,cf,and_self,bc,bo,bt,cn,cu,bh,Nat.reduceAdd,CV (show i<4611686018427387904 by omega),AB]
  ·intro rec;unfold Lq;simp only[AF,AJ,AL,AG,AQ,fj,AE,bo,dx,AB];rfl
 rw[bR];unfold Vx;simp only[AW,AQ,AB];refine(lp _).trans ?_;simp only[AF,AQ,bo,cond_true]
theorem zP (t:C) (ht:Fz t) (d:C) (hd:DZ d) (l:List C) (B:Nat) (hb:Ks B l) (hB:B<=1000000) (hl:l.length<=100000) (hm:(FZ d l).length<=4398046511104) (hN:(FZ d l).length+l.length+1000<N) (k:KD R):Pr N t d (.slice l) k=k [QO (FZ d l)] []:=by
 have hbb:∀c∈FZ d l,DZ c:=by intro c hc;unfold FZ at hc;rcases ed.1 hc with hc|hc;{simp only[gy,nv,or_false]at hc;rcases hc with rfl|rfl;{exact hd};{exact XY _}};{obtain⟨x,hx,hc⟩:=List.mem_flatMap.1 hc;unfold EO at hc;rcases ed.1 hc with hc|hc;{exact Th _ c hc};{exact(hb x hx).2.1 c hc}}
 rw[bM];unfold Vt;simp only[AW,zW d l B hb hB hl (show l.length+1000<N by omega),AF,AQ,zT t ht _ hbb hm (show(FZ d l).length+1000<N by omega),AB]
theorem xC (s:List UInt8) (n:Nat) (g:Nat->Int) (h:(List.range n).map (fun i=>KG s i 8)=(List.range n).map g):∀i,i<n->KG s i 8=g i:=fun i hi=>by have:=congrArg (fun l=>l.getD i 0) h;simpa[hi]using this
theorem q29 (k:KD R):∃t,Fz t/\∀k:KD R,SU N k=k [t] []:=by
 refine⟨?w,?a,fun k=>?b⟩
 case b=>rw[tX];unfold bL;simp only[AW,AB];rfl
 ·exact⟨by kernel_rfl,by kernel_rfl,xC _ 8 (fun i=>((([1779033703,3144134277,1013904242,2773480762,1359893119,2600822924,528734635,1541459225]:List W32).getD i 0).toNat:Int)) (by kernel_rfl),xC _ 64 (fun i=>((ksW.getD i 0).toNat:Int)) (by kernel_rfl)⟩
end
section
variable {R:Type} {N:Nat}
def FL (n:Nat) (p:C):Prop:=∃l:List C,p= .agg l/\l.length=n/\∀c∈l,DZ c
theorem sY (n B:Nat) (hB:n<=B) (p:C) (hp:FL n p):Ks B [cg (cut (az p) 0 n)]/\cut (az p) 0 n=az p:=by
 obtain⟨l,rfl,hl,hb⟩:=hp;have e:cut l 0 n=l:=by unfold cut;simp;exact eu (by omega)
 show Ks B [cg (cut l 0 n)]/\cut l 0 n=l;rw[e];refine⟨fun x hx=>?_,rfl⟩;rw[fv.1 hx];exact⟨rfl,by simpa[AQ]using hb,by rw[AQ];omega⟩
theorem Zy (d:C) (l:List C):(FZ d [cg l]).length=l.length+6:=by unfold FZ EO;simp[Kw,AQ];omega
theorem hU {n:Nat} {p:C} (h:FL n p):p.elems.length=n/\p= .agg p.elems/\∀c∈p.elems,DZ c:=by obtain⟨l,rfl,hl,hb⟩:=h;exact⟨hl,rfl,hb⟩
end
def Vu (a0 a1:C) (k1:KD R):Option R:=Pr N a0 (bf 6) (cg [cg (cut (az a1) 0 32)]) (fun d1 m1=>(k1 [dk d1 0] []))
def Ps:=lid "" (@Vu R N)
theorem bO {R N a0 a1 k}:@Ps R N a0 a1 k=Vu N a0 a1 k:=by unfold Ps;rw[BQ]
def q5B:OvG R:=CA [Bf,.arr 32 (.int .u8)] (Ef (Ps N)) (DS (bu 32 (bm cq)))
theorem q5C:okX 91 (@q5B R N):=Cg (Ap (q5A N) <| BS) N [(91,[(0,[(2,5),(3,5)]),(1,[(8,7)])])] [(91,[([9],⟨[],[(4,.as (.ptr (.l 4) [] (.arr 32 (.int .u8))))],[],[(.l 4,.box (.d (.arr 32 (.int .u8))))],[],[]⟩)])] (fun _ _=>bO)
end Go.Proofs.YteealakhniofoaaGreatDoor
