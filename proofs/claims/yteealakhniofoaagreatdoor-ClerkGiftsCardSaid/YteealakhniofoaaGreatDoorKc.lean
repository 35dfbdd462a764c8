/-
 What the functions on the way compute, part 3.
 Conditions: none.
-/
import Derived.Test.YteealakhniofoaaGreatDoorKb
set_option linter.all false
noncomputable section
set_option maxRecDepth 100000
set_option maxHeartbeats 4000000
open BitVec renaming ofInt->dz,ofInt_natCast->ox,toNat_shiftLeft->sx,toNat_ushiftRight->mn
open Go.BinOp renaming and->fg
open Go.E.C renaming agg->dv,bool->df,elems->az,get->bj,int->bf,nil->dh,set->cm,toBool->dg,toInt->ar,toStr->xp
open Go.E.Key renaming g->di,l->bz
open Go.E.O renaming box->dj,dead->fh
open Go.E.Ty renaming arr->bu,int->bm
open Go.E.V renaming agg->jj,ptr->oa,sr->ka
open Go.IntKind renaming i64->bb,u32->cz,u64->ay,u8->cq,wrap->au
open Int renaming lt_irrefl->fj,natCast_nonneg->cf,tdiv->fb,tmod->bn,tmod_eq_emod_of_nonneg->ez,toNat->av,toNat_natCast->bc
open List renaming drop->jb,getD->br,getD_eq_getElem?_getD->bq,getElem?_eq_getElem->bp,getElem?_set->gf,length->ax,length_append->bt,length_cons->cn,length_nil->cu,mem_of_mem_take->lx,take->ek,take_length->dx
open Nat renaming pow_add->vl,shiftLeft_eq->wq,shiftRight_eq_div_pow->mz,two_pow_pos->xh,zero_add->bh
open UInt8 renaming ofNat->sv,toNat->uy
namespace Go.Proofs.YteealakhniofoaaGreatDoor
open Go Go.E
variable {R:Type} (N:Nat)
def q4k:List Sh:=[.as (.ptr (.g (.l 1)) [] Bx),.d (.arr 32 (.int .u8)),.d (.int .u64)]
def q4n:List (Key × OSh):=[(.l 1,.box (.agg Bx [.as (.mp (.g (.l 2)))])),(.l 2,.map (.arr 32 (.int .u8)) AK)]
def aE (a0 a1 a2 b0:C) (m0:Es) (k1:KD R):Option R:=if HK AK (dE AK m0)=true then(SB N a0 dh dh (unE (dE AK m0)) (fun d1 m1=>(jn (fun d2 m2=>(k1 [df (dg (dk d2 0))] [])) (fun k2=>(bif dg (dk d1 1)then(k2 [df (decide (ar (dk d1 0)<=ar a1))] [])else(k2 [df false] []))))))else none
def Ry:=lid "" (@aE R N)
theorem rC {R N a0 a1 a2 b0 m0 k}:@Ry R N a0 a1 a2 b0 m0 k=aE N a0 a1 a2 b0 m0 k:=by unfold Ry;rw[BQ]
def q4l:OvG R:=DA q4k q4n (fun ds ms=>Ry N (dk ds 0) (dk ds 1) (dk ds 2) (dk ds 3) (dm ms 0)) fun ds ms K d1 m1=>K (V.d Ty.bool (df (dg (dk d1 0)))) []
theorem q4m:okX 59 (@q4l R N):=DF (Ap (q4y N) <| BS) N [(59,[(0,[(4,5)])])] [(59,[([0,1,1],⟨[0],[(6,.d .bool)],[],[],[.g (.l 1),.g (.l 2)],[]⟩),
  ([9],⟨[],[(6,.d .bool)],[],[],[.g (.l 1),.g (.l 2)],[]⟩)])] (fun _ _ _=>rC)
def q4o:List Sh:=[.as (.ptr (.g (.l 1)) [] Bx),.d Cl,.d (.int .u64)]
def q4r:List (Key × OSh):=[(.l 1,.box (.agg Bx [.as (.mp (.g (.l 2)))])),(.l 2,.map (.arr 32 (.int .u8)) AK)]
def aF (a0 a1 b0:C) (m0:Es) (k1:KD R):Option R:=if HK AK (dE AK m0)=true then(Ry N (bj a0 3) (bj a0 4) dh dh (unE (dE AK m0)) (fun d1 m1=>(bif dg (dk d1 0)then(k1 [bf 1] [])else(bif decide (ar (bj a0 4)<ar a1)then(k1 [bf 2] [])else(k1 [bf 0] [])))))else none
def Rz:=lid "" (@aF R N)
theorem rD {R N a0 a1 b0 m0 k}:@Rz R N a0 a1 b0 m0 k=aF N a0 a1 b0 m0 k:=by unfold Rz;rw[BQ]
def q4p:OvG R:=DA q4o q4r (fun ds ms=>Rz N (dk ds 0) (dk ds 1) (dk ds 2) (dm ms 0)) fun ds ms K d1 m1=>K (V.d (bm bb) (dk d1 0)) []
theorem q4q:okX 36 (@q4p R N):=DF (Ap (q4m N) <| BS) N [(36,[(0,[(4,5)])])] [(36,[([9],⟨[],[(6,.d (.int .i64))],[],[],[.g (.l 1),.g (.l 2)],[]⟩)])] (fun _ _ _=>rD)
section
variable {R:Type} {N:Nat}
def ofP (m:Es) (c:C) (yc:Int):Int:=
 if FY m (c.get 3)=true/\((getM m (c.get 3)).get 1).toInt<=(c.get 4).toInt then 1 else if(c.get 4).toInt<yc then 2 else 0
theorem q9g (h:C) (a1 b0:C) (m:Es) (k:KD R):SB N h a1 b0 m k=k [if FY m h=true then(getM m h).get 1 else .int 0,.bool (FY m h)] []:=by rw[rF];unfold aH;simp only[go_sem];cases FY m h <;> rfl
theorem q1R (h x:C) (a1 b0:C) (m:Es) (k:KD R):Ry N h x a1 b0 m k=k [.bool (FY m h&&decide (((getM m h).get 1).toInt<=x.toInt))] []:=by rw[rC];unfold aE;simp only[go_sem,q9g,AZ];cases FY m h <;> simp
theorem of_eq (c yc:C) (b0:C) (m:Es) (k:KD R):Rz N c yc b0 m k=k [.int (ofP m c yc.toInt)] []:=by rw[rD];unfold aF ofP;simp only[go_sem,q1R,AZ];cases h:FY m (c.get 3);{by_cases h2:(c.get 4).toInt<yc.toInt <;> simp[h2]};{by_cases h1:((getM m (c.get 3)).get 1).toInt<=(c.get 4).toInt;{simp[h1]};{by_cases h2:(c.get 4).toInt<yc.toInt <;> simp[h1,h2]}}
end
def X6:List Sh:=[.as (.ptr (.g (.l 1)) [] Ba),.d Cl]
def X8:List (Key × OSh):=[(.l 1,.box (.agg Ba [.as (.ptr (.g (.l 2)) [] BF),.as (.ptr (.g (.l 5)) [] Bx),.d (.int .u64),.d (.int .u64),.vec (.g (.l 7)) 240 AR,.vec (.g (.l 8)) 2368 tTx,.vec (.g (.l 9)) 40 AU])),(.l 2,.box (.agg BF [.vec (.g (.l 3)) 8 (.int .u64),.vec (.g (.l 4)) 8 (.int .u64),.d (.int .u64)])),(.l 3,.box (.arr (.int .u64))),(.l 4,.box (.arr (.int .u64))),(.l 5,.box (.agg Bx [.as (.mp (.g (.l 6)))])),(.l 6,.map (.arr 32 (.int .u8)) AK),(.l 7,.box (.arr AR)),(.l 8,.box (.arr tTx)),(.l 9,.box (.arr AU))]
def Xs (a0 b0 b1 b2 b3 b4 b5 b6 b7 b8 b9 b10 b11 b12 b13:C) (m0:Es) (k1:KD R):Option R:=if HK AK (dE AK m0)=true then(Rz N a0 b1 dh (unE (dE AK m0)) (fun d1 m1=>(k1 [dk d1 0] [])))else none
def OS:=lid "" (@Xs R N)
theorem jA {R N a0 b0 b1 b2 b3 b4 b5 b6 b7 b8 b9 b10 b11 b12 b13 m0 k}:@OS R N a0 b0 b1 b2 b3 b4 b5 b6 b7 b8 b9 b10 b11 b12 b13 m0 k=Xs N a0 b0 b1 b2 b3 b4 b5 b6 b7 b8 b9 b10 b11 b12 b13 m0 k:=by unfold OS;rw[BQ]
def X7:OvG R:=DA X6 X8 (fun ds ms=>OS N (dk ds 0) (dk ds 1) (dk ds 2) (dk ds 3) (dk ds 4) (dk ds 5) (dk ds 6) (dk ds 7) (dk ds 8) (dk ds 9) (dk ds 10) (dk ds 11) (dk ds 12) (dk ds 13) (dk ds 14) (dm ms 0)) fun ds ms K d1 m1=>K (V.d (bm bb) (dk d1 0)) []
theorem iZ:okX 13 (@X7 R N):=DF (Ap (q4q N) <| BS) N [(13,[(0,[(3,5)])])] [(13,[([9],⟨[],[(4,.d (.int .i64))],[],[],[.g (.l 1),.g (.l 2),.g (.l 3),.g (.l 4),.g (.l 5),.g (.l 6),.g (.l 7),.g (.l 8),.g (.l 9)],[(.int .u64),AR,tTx,AU]⟩)])] (fun _ _ _=>jA)
def Q4:List Sh:=[.d De,.as (.ptr (.g (.l 1)) [] Ba),.d Bp,.d (.int .i64),.d tOp]
def Q7:List (Key × OSh):=[(.l 1,.box (.agg Ba [.as (.ptr (.g (.l 2)) [] BF),.as (.ptr (.g (.l 5)) [] Bx),.d (.int .u64),.d (.int .u64),.vec (.g (.l 7)) 240 AR,.vec (.g (.l 8)) 2368 tTx,.vec (.g (.l 9)) 40 AU])),(.l 2,.box (.agg BF [.vec (.g (.l 3)) 8 (.int .u64),.vec (.g (.l 4)) 8 (.int .u64),.d (.int .u64)])),(.l 3,.box (.arr (.int .u64))),(.l 4,.box (.arr (.int .u64))),(.l 5,.box (.agg Bx [.as (.mp (.g (.l 6)))])),(.l 6,.map (.arr 32 (.int .u8)) AK),(.l 7,.box (.arr AR)),(.l 8,.box (.arr tTx)),(.l 9,.box (.arr AU))]
def Xj (a0 a1 a2 a3 b0 b1 b2 b3 b4 b5 b6 b7 b8 b9 b10 b11 b12 b13:C) (m0:Es) (k1:KD R):Option R:=jn (fun d1 m1=>(k1 [bf 0] [])) (fun k2=>(bif decide (ar (bj a3 0)=2)then(bif decide (ar (bj (bj a3 2) 4)<=ar b1)then(k1 [bf 29] [])else(bif decide (ar (bj a0 3)<au ay (ar (bj (bj a3 2) 4)-ar b1))then(k1 [bf 30] [])else(k2 [] [])))else(jn (fun d1 m1=>(jn (fun d2 m2=>(k2 [] [])) (fun k3=>(bif dg (dk d1 3)then(SF N (dk d1 1) (bj (dk d1 2) 3) (fun d2 m2=>(bif decide (ar (dk d2 0)<0)then(k1 [bf 6] [])else(if 0<=ar (dk d2 0)/\ar (dk d2 0)<(↑(ax (az (bj (dk d1 1) 4))):Int)then(bif decide (ar (bj (br (az (bj (dk d1 1) 4)) (av (ar (dk d2 0))) dh) 1)=ar (dk d1 0))==decide (ar (bj (dk d1 2) 0)=3)then(k1 [bf 0] [])else(jn (fun d3 m3=>(gA b8 (gA b9 (gM AK m0 (gA b10 (gA b11 (gA b12 (OS N (dk d3 1) b0 b1 (nI b2) (nI b3) (nI b4) (nI b5) (nI b6) b7 b8 b9 b10 b11 b12 dh (unE (dE AK m0)) (fun d4 m4=>(bif !decide (ar (dk d4 0)=ar (dk d3 0))then(k1 [bf 30] [])else(k3 [] []))))))))))) (fun k4=>(bif decide (ar (bj (dk d1 2) 0)=4)then(k4 [bf 2,br (az (bj (dk d1 1) 4)) (av (ar (dk d2 0))) dh] [])else(k4 [bf 1,br (az (bj (dk d1 1) 4)) (av (ar (dk d2 0))) dh] [])))))else none))))else(k3 [] []))))) (fun k3=>(bif decide (ar (bj a3 0)=3)then(k3 [a2,a1,a3,HQ (df (decide (ar (bj a3 0)=3))) true] [])else(k3 [a2,a1,a3,df (decide (ar (bj a3 0)=4))] []))))))
def Ky:=lid "" (@Xj R N)
theorem iO {R N a0 a1 a2 a3 b0 b1 b2 b3 b4 b5 b6 b7 b8 b9 b10 b11 b12 b13 m0 k}:@Ky R N a0 a1 a2 a3 b0 b1 b2 b3 b4 b5 b6 b7 b8 b9 b10 b11 b12 b13 m0 k=Xj N a0 a1 a2 a3 b0 b1 b2 b3 b4 b5 b6 b7 b8 b9 b10 b11 b12 b13 m0 k:=by unfold Ky;rw[BQ]
def Q5:OvG R:=DA Q4 Q7 (fun ds ms=>Ky N (dk ds 0) (dk ds 1) (dk ds 2) (dk ds 3) (dk ds 4) (dk ds 5) (dk ds 6) (dk ds 7) (dk ds 8) (dk ds 9) (dk ds 10) (dk ds 11) (dk ds 12) (dk ds 13) (dk ds 14) (dk ds 15) (dk ds 16) (dk ds 17) (dm ms 0)) fun ds ms K d1 m1=>K (V.d (bm bb) (dk d1 0)) []
theorem Q6:okX 12 (@Q5 R N):=DF (Ap (iZ N) <| Ap (q4U N) <| BS) N [(12,[(0,[(5,5),(7,5),(9,5)])])] [(12,[([1,4,1,0,1],⟨[1],[],[],[],[.g (.l 1),.g (.l 2),.g (.l 3),.g (.l 4),.g (.l 5),.g (.l 6),.g (.l 7),.g (.l 8),.g (.l 9)],[(.int .u64),AR,tTx,AU]⟩),
  ([1,0,3,1,4,1,0,1],⟨[1,3,7,9],[(35,.d .bool)],[],[],[.g (.l 1),.g (.l 2),.g (.l 3),.g (.l 4),.g (.l 5),.g (.l 6),.g (.l 7),.g (.l 8),.g (.l 9)],[(.int .u64),AR,tTx,AU]⟩),
  ([1,3,1,4,1,0,1],⟨[1],[],[],[],[.g (.l 1),.g (.l 2),.g (.l 3),.g (.l 4),.g (.l 5),.g (.l 6),.g (.l 7),.g (.l 8),.g (.l 9)],[(.int .u64),AR,tTx,AU]⟩),
  ([1,0,1,1,1,1,1,2,1,3,1,4,1,0,1],⟨[1,13],[(15,.d (.int .i64))],[],[],[.g (.l 1),.g (.l 2),.g (.l 3),.g (.l 4),.g (.l 5),.g (.l 6),.g (.l 7),.g (.l 8),.g (.l 9)],[(.int .u64),AR,tTx,AU]⟩),
  ([9],⟨[],[(10,.d (.int .i64))],[],[],[.g (.l 1),.g (.l 2),.g (.l 3),.g (.l 4),.g (.l 5),.g (.l 6),.g (.l 7),.g (.l 8),.g (.l 9)],[(.int .u64),AR,tTx,AU]⟩)])] (fun _ _ _=>iO)
section
variable {R:Type} {N:Nat}
theorem fA (p b0 yc b2 b3 b4 b5 b6 b7 b8 b9 b10 b11 b12 b13:C) (m:Es) (k:KD R):OS N p b0 yc b2 b3 b4 b5 b6 b7 b8 b9 b10 b11 b12 b13 m k=k [.int (ofP m p yc.toInt)] []:=by rw[jA];unfold Xs;simp only[of_eq,AF,Ag,Ah,if_true,AB]
def MP (c side:C) (kind v:Int):Int:=if((c.get 1).toInt=side.toInt)=(kind=3)then 0 else if v=(if kind=4 then 2 else 1)then 0 else 30
theorem ak (r st side op b0 yc b2 b3 b4 b5 b6 b7 b8 b9 b10 b11 b12 b13:C) (m:Es) {i:Nat} {c:C} (hk:(op.get 0).toInt=3\/(op.get 0).toInt=4) (hl:(BZ st).length<=8) (hc:(BZ st)[i]? =some c) (hf:Fj st (op.get 3).toInt=(i:Int)) (hN:2199023255552<N) (k:KD R):
  Ky N r st side op b0 yc b2 b3 b4 b5 b6 b7 b8 b9 b10 b11 b12 b13 m k=k [.int (MP c side (op.get 0).toInt (ofP m c yc.toInt))] []:=by
 have hi:i<(BZ st).length:=(List.getElem?_eq_some_iff.1 hc).1;have h1:(i:Int)<(((st.get 4).elems.length:Nat):Int):=by show(i:Int)<((BZ st).length:Int);omega
 have hd:(st.get 4).elems.getD i .nil=c:=Fo hc;have hn:¬(i:Int)<0:=by omega
 rw[iO];unfold Xj MP;rcases hk with hk|hk;{simp only[AW,AG,AZ,BM,bc,Ac,AQ,eq_self,AE,Ag,BU,Ah,Bb,Bc,and_self,bh,Nat.beq_refl,BD,AF,AJ,AL,AP,AV,Ab,Af,Ak,Ao,BC,Aq,Ar,Au,Av,Aw,Ax,Ay,Az,BA,BB,BG,BH,BI,BJ,BK,BL,hk,find_eq st _ (show(BZ st).length<1099511627776 by omega) hN,hf,hn,h1,hd,cf,fA,show ¬(3:Int)=2 by decide,show ¬(3:Int)=4 by decide,AB];by_cases g:(c.get 1).toInt=side.toInt;{simp[g]};{by_cases g2:ofP m c yc.toInt=1 <;> simp[g,g2]}};{simp only[AW,AG,AZ,BM,bc,Ac,AQ,eq_self,AE,Ag,BU,Ah,Bb,Bc,and_self,bh,Nat.beq_refl,BD,AF,AJ,AL,AP,AV,Ab,Af,Ak,Ao,BC,Aq,Ar,Au,Av,Aw,Ax,Ay,Az,BA,BB,BG,BH,BI,BJ,BK,BL,hk,find_eq st _ (show(BZ st).length<1099511627776 by omega) hN,hf,hn,h1,hd,cf,fA,show ¬(4:Int)=2 by decide,show ¬(4:Int)=3 by decide,AB];by_cases g:(c.get 1).toInt=side.toInt;{by_cases g2:ofP m c yc.toInt=2 <;> simp[g,g2]};{simp[g]}}
theorem rK (m:Es) (c:C) (h:Int):ofP m c h=0\/ofP m c h=1\/ofP m c h=2:=by unfold ofP;split;{exact .inr (.inl rfl)};{split;{exact .inr (.inr rfl)};{exact .inl rfl}}
end
def U1:List Sh:=[.as (.ptr (.g (.l 1)) [] Ba),.d tTx]
def U4:List (Key × OSh):=[(.l 1,.box (.agg Ba [.as (.ptr (.g (.l 2)) [] BF),.as (.ptr (.g (.l 5)) [] Bx),.d (.int .u64),.d (.int .u64),.vec (.g (.l 7)) 240 AR,.vec (.g (.l 8)) 2368 tTx,.vec (.g (.l 9)) 40 AU])),(.l 2,.box (.agg BF [.vec (.g (.l 3)) 8 (.int .u64),.vec (.g (.l 4)) 8 (.int .u64),.d (.int .u64)])),(.l 3,.box (.arr (.int .u64))),(.l 4,.box (.arr (.int .u64))),(.l 5,.box (.agg Bx [.as (.mp (.g (.l 6)))])),(.l 6,.map (.arr 32 (.int .u8)) AK),(.l 7,.box (.arr AR)),(.l 8,.box (.arr tTx)),(.l 9,.box (.arr AU))]
def Xv (a0 b0 b1 b2 b3 b4 b5 b6 b7 b8 b9 b10 b11 b12 b13:C) (m0:Es) (k1:KD R):Option R:=if ax (az b8)=ax (az b8)then(gA b9 (TJ N (bj a0 1) (nI b5) (nI b6) b7 b8 b9 (fun d1 m1=>(bif decide (ar (dk d1 0)<ar (bj a0 3))then(gA b8 (gA b9 (gM AK m0 (gA b10 (gA b11 (gA b12 (k1 [bf 23,b0,b1,nI b2,nI b3,nI b4,nI b5,nI b6,b7,bf (↑(ax (az b8)):Int),b8,bf (↑(ax (az b9)):Int),b9,bf (↑(ax (az b10)):Int),b10,bf (↑(ax (az b11)):Int),b11,bf (↑(ax (az b12)):Int),b12] [unE (dE AK m0)])))))))else(gA b8 (gA b9 (TK N (bj a0 1) (bj a0 2) (nI b5) (nI b6) b7 b8 b9 (fun d2 m2=>(bif !decide (ar (dk d2 0)=0)then(gA (dk d2 5) (gA (dk d2 7) (gM AK m0 (gA b10 (gA b11 (gA b12 (k1 [dk d2 0,b0,b1,nI b2,nI b3,nI b4,nI (dk d2 1),nI (dk d2 2),dk d2 3,nI (dk d2 4),dk d2 5,nI (dk d2 6),dk d2 7,bf (↑(ax (az b10)):Int),b10,bf (↑(ax (az b11)):Int),b11,bf (↑(ax (az b12)):Int),b12] [unE (dE AK m0)])))))))else(gA (dk d2 5) (gA (dk d2 7) (Nh N (nI (dk d2 1)) (nI (dk d2 2)) (dk d2 3) (dk d2 5) (dk d2 7) (fun d3 m3=>(gA (dk d2 5) (gA (dk d2 7) (QT N (bj a0 1) (bf (au bb (ar (dk d3 0)-1))) (bj a0 3) (nI (dk d2 1)) (nI (dk d2 2)) (dk d2 3) (dk d2 5) (dk d2 7) (fun d4 m4=>(gA (dk d4 5) (gA (dk d4 7) (gM AK m0 (gA b10 (gA b11 (gA b12 (k1 [dk d4 0,b0,b1,nI b2,nI b3,nI b4,nI (dk d4 1),nI (dk d4 2),dk d4 3,nI (dk d2 4),dk d4 5,nI (dk d2 6),dk d4 7,bf (↑(ax (az b10)):Int),b10,bf (↑(ax (az b11)):Int),b11,bf (↑(ax (az b12)):Int),b12] [unE (dE AK m0)]))))))))))))))))))))))))else none
def Qt:=lid "" (@Xv R N)
theorem jB {R N a0 b0 b1 b2 b3 b4 b5 b6 b7 b8 b9 b10 b11 b12 b13 m0 k}:@Qt R N a0 b0 b1 b2 b3 b4 b5 b6 b7 b8 b9 b10 b11 b12 b13 m0 k=Xv N a0 b0 b1 b2 b3 b4 b5 b6 b7 b8 b9 b10 b11 b12 b13 m0 k:=by unfold Qt;rw[BQ]
def U2:OvG R:=DA U1 U4 (fun ds ms=>Qt N (dk ds 0) (dk ds 1) (dk ds 2) (dk ds 3) (dk ds 4) (dk ds 5) (dk ds 6) (dk ds 7) (dk ds 8) (dk ds 9) (dk ds 10) (dk ds 11) (dk ds 12) (dk ds 13) (dk ds 14) (dm ms 0)) fun ds ms K d1 m1=>K (V.d (bm bb) (dk d1 0)) [(di (bz 1),
  dj
   (jj Ba
    [oa (di (bz 2)) [] BF,oa (di (bz 5)) [] Bx,V.d (bm ay) (dk d1 1),
     V.d (bm ay) (dk d1 2),
     ka (bz 1000000000234) [] 0 (av (ar (dk d1 3))) none 240 AR,
     ka (bz 1000000000266) [] 0 (av (ar (dk d1 4))) none 2368 tTx,
     ka (bz 1000000000298) [] 0 (av (ar (dk d1 5))) none 40 AU])),
 (di (bz 2),
  dj
   (jj BF
    [ka (bz 1000000000106) [] 0 (av (ar (dk d1 6))) none 8 (bm ay),
     ka (bz 1000000000138) [] 0 (av (ar (dk d1 7))) none 8 (bm ay),
     V.d (bm ay) (dk d1 8)])),
 (di (bz 3),fh (bu (av (ar (dk d1 9))) (bm ay))),
 (bz 1000000000106,dj (V.d (bu (ax (az (dk d1 10))) (bm ay)) (dk d1 10))),
 (di (bz 4),fh (bu (av (ar (dk d1 11))) (bm ay))),
 (bz 1000000000138,dj (V.d (bu (ax (az (dk d1 12))) (bm ay)) (dk d1 12))),
 (di (bz 5),dj (jj Bx [V.mp (di (bz 6))])),
 (di (bz 6),O.map (bu 32 (bm cq)) AK (dE AK (dm m1 0))),
 (di (bz 7),fh (bu (av (ar (dk d1 13))) AR)),
 (bz 1000000000234,dj (V.d (bu (ax (az (dk d1 14))) AR) (dk d1 14))),
 (di (bz 8),fh (bu (av (ar (dk d1 15))) tTx)),
 (bz 1000000000266,dj (V.d (bu (ax (az (dk d1 16))) tTx) (dk d1 16))),
 (di (bz 9),fh (bu (av (ar (dk d1 17))) AU)),
 (bz 1000000000298,dj (V.d (bu (ax (az (dk d1 18))) AU) (dk d1 18)))]
theorem U3:okX 69 (@U2 R N):=DF (Ap (eD N) <| Ap (q8y N) <| Ap (q8L N) <| Ap (xM N) <| BS) N [(69,[(0,[(3,5)])])] [(69,[([9],⟨[],[(4,.d (.int .i64))],[.g (.l 1),.g (.l 2),.g (.l 3),.g (.l 4),.g (.l 5),.g (.l 6),.g (.l 7),.g (.l 8),.g (.l 9)],[],[],[(.int .u64),AR,tTx,AU]⟩)])] (fun _ _ _=>jB)
def W7:List Sh:=[.as (.ptr (.g (.l 1)) [] Ba),.d tTx]
def U0:List (Key × OSh):=[(.l 1,.box (.agg Ba [.as (.ptr (.g (.l 2)) [] BF),.as (.ptr (.g (.l 5)) [] Bx),.d (.int .u64),.d (.int .u64),.vec (.g (.l 7)) 240 AR,.vec (.g (.l 8)) 2368 tTx,.vec (.g (.l 9)) 40 AU])),(.l 2,.box (.agg BF [.vec (.g (.l 3)) 8 (.int .u64),.vec (.g (.l 4)) 8 (.int .u64),.d (.int .u64)])),(.l 3,.box (.arr (.int .u64))),(.l 4,.box (.arr (.int .u64))),(.l 5,.box (.agg Bx [.as (.mp (.g (.l 6)))])),(.l 6,.map (.arr 32 (.int .u8)) AK),(.l 7,.box (.arr AR)),(.l 8,.box (.arr tTx)),(.l 9,.box (.arr AU))]
def Jv (a0 b0 b1 b2 b3 b4 b5 b6 b7 b8 b9 b10 b11 b12 b13:C) (m0:Es) (k1:KD R):Option R:=bif decide (16<=(↑(av (ar b2)):Int))then(gA b8 (gA b9 (gM AK m0 (gA b10 (gA b11 (gA b12 (k1 [bf 4,b0,b1,nI b2,nI b3,nI b4,nI b5,nI b6,b7,bf (↑(ax (az b8)):Int),b8,bf (↑(ax (az b9)):Int),b9,bf (↑(ax (az b10)):Int),b10,bf (↑(ax (az b11)):Int),b11,bf (↑(ax (az b12)):Int),b12] [unE (dE AK m0)])))))))else(jn (fun d1 m1=>(bif dg (dk d1 1)then(gA (dk d1 11) (gA (dk d1 13) (gM AK (dm m1 0) (gA (dk d1 15) (gA (dk d1 17) (gA (dk d1 19) (k1 [bf 1,dk d1 2,dk d1 3,nI (dk d1 4),nI (dk d1 5),nI (dk d1 6),nI (dk d1 7),nI (dk d1 8),dk d1 9,nI (dk d1 10),dk d1 11,nI (dk d1 12),dk d1 13,nI (dk d1 14),dk d1 15,nI (dk d1 16),dk d1 17,nI (dk d1 18),dk d1 19] [unE (dE AK (dm m1 0))])))))))else(OJ N (bf (au cz (↑(av (ar (dk d1 4))):Int))) (cm (cm (AH (bu 2 (bm bb))) 0 (bj (dk d1 0) 1)) 1 (bj (dk d1 0) 4)) (bj (dk d1 0) 8) (bj (dk d1 0) 9) (fun d2 m2=>(bif !decide (ar (dk d2 0)=0)then(gA (dk d1 11) (gA (dk d1 13) (gM AK (dm m1 0) (gA (dk d1 15) (gA (dk d1 17) (gA (dk d1 19) (k1 [dk d2 0,dk d1 2,dk d1 3,nI (dk d1 4),nI (dk d1 5),nI (dk d1 6),nI (dk d1 7),nI (dk d1 8),dk d1 9,nI (dk d1 10),dk d1 11,nI (dk d1 12),dk d1 13,nI (dk d1 14),dk d1 15,nI (dk d1 16),dk d1 17,nI (dk d1 18),dk d1 19] [unE (dE AK (dm m1 0))])))))))else(jn (fun d3 m3=>(if(av (ar (dk d3 2))+1)*240<=140737488355328/\av (ar (dk d3 2))+1<=9223372036854775807 then(gA (dk d3 8) (gA (dk d3 9) (gM AK (dm m3 0) (if av (ar (dk d3 2))+1=ax (ek (av (ar (dk d3 2))) (az (dk d3 10))++[dk d3 13])then(gA (dk d3 11) (gA (dk d3 12) (k1 [bf 0,dk d3 0,dk d3 1,bf (↑(av (ar (dk d3 2))+1):Int),nI (dk d3 3),nI (dk d3 4),nI (dk d3 5),nI (dk d3 6),dk d3 7,nI (dk d3 14),dk d3 8,nI (dk d3 15),dk d3 9,nI (dk d3 16),dv (ek (av (ar (dk d3 2))) (az (dk d3 10))++[dk d3 13]),nI (dk d3 17),dk d3 11,nI (dk d3 18),dk d3 12] [unE (dE AK (dm m3 0))])))else none))))else none)) (fun k2=>(bif decide (0<ar (bj (dk d1 0) 5))then(OI N (dk d2 1) (bf 0) (bj (dk d1 0) 5) (fun d3 m3=>(bif !decide (ar (dk d3 0)=0)then(gA (dk d1 11) (gA (dk d1 13) (gM AK (dm m1 0) (gA (dk d1 15) (gA (dk d1 17) (gA (dk d1 19) (k1 [dk d3 0,dk d1 2,dk d1 3,nI (dk d1 4),nI (dk d1 5),nI (dk d1 6),nI (dk d1 7),nI (dk d1 8),dk d1 9,nI (dk d1 10),dk d1 11,nI (dk d1 12),dk d1 13,nI (dk d1 14),dk d1 15,nI (dk d1 16),dk d1 17,nI (dk d1 18),dk d1 19] [unE (dE AK (dm m1 0))])))))))else(gA (dk d1 11) (gA (dk d1 13) (QS N (bj (dk d1 0) 1) (bj (dk d1 0) 5) (nI (dk d1 7)) (nI (dk d1 8)) (dk d1 9) (dk d1 11) (dk d1 13) (fun d4 m4=>(bif !decide (ar (dk d4 0)=0)then(gA (dk d4 5) (gA (dk d4 7) (gM AK (dm m1 0) (gA (dk d1 15) (gA (dk d1 17) (gA (dk d1 19) (k1 [dk d4 0,dk d1 2,dk d1 3,nI (dk d1 4),nI (dk d1 5),nI (dk d1 6),nI (dk d4 1),nI (dk d4 2),dk d4 3,nI (dk d1 10),dk d4 5,nI (dk d1 12),dk d4 7,nI (dk d1 14),dk d1 15,nI (dk d1 16),dk d1 17,nI (dk d1 18),dk d1 19] [unE (dE AK (dm m1 0))])))))))else(gA (dk d4 5) (gA (dk d4 7) (gM AK (dm m1 0) (gA (dk d1 15) (gA (dk d1 17) (gA (dk d1 19) (k2 [dk d1 2,dk d1 3,nI (dk d1 4),nI (dk d1 5),nI (dk d1 6),nI (dk d4 1),nI (dk d4 2),dk d4 3,dk d4 5,dk d4 7,dk d1 15,dk d1 17,dk d1 19,dk d3 1,nI (dk d1 10),nI (dk d1 12),nI (dk d1 14),nI (dk d1 16),nI (dk d1 18),nI (dk d1 10),nI (dk d1 12),nI (dk d1 14),nI (dk d1 16),nI (dk d1 18)] [unE (dE AK (dm m1 0))])))))))))))))))else(gA (dk d1 11) (gA (dk d1 13) (gM AK (dm m1 0) (gA (dk d1 15) (gA (dk d1 17) (gA (dk d1 19) (k2 [dk d1 2,dk d1 3,nI (dk d1 4),nI (dk d1 5),nI (dk d1 6),nI (dk d1 7),nI (dk d1 8),dk d1 9,dk d1 11,dk d1 13,dk d1 15,dk d1 17,dk d1 19,dk d2 1,nI (dk d1 10),nI (dk d1 12),nI (dk d1 14),nI (dk d1 16),nI (dk d1 18),nI (dk d1 10),nI (dk d1 12),nI (dk d1 14),nI (dk d1 16),nI (dk d1 18)] [unE (dE AK (dm m1 0))]))))))))))))))) (fun k2=>(bif decide (ar (bj a0 4)<0)then(gA b8 (gA b9 (gM AK m0 (gA b10 (gA b11 (gA b12 (k2 [a0,df true,b0,b1,nI b2,nI b3,nI b4,nI b5,nI b6,b7,bf (↑(ax (az b8)):Int),b8,bf (↑(ax (az b9)):Int),b9,bf (↑(ax (az b10)):Int),b10,bf (↑(ax (az b11)):Int),b11,bf (↑(ax (az b12)):Int),b12] [unE (dE AK m0)])))))))else(gA b8 (gA b9 (Nh N (nI b5) (nI b6) b7 b8 b9 (fun d1 m1=>(gA b8 (gA b9 (gM AK m0 (gA b10 (gA b11 (gA b12 (k2 [a0,df (decide (au bb (ar (dk d1 0)-1)<=ar (bj a0 4))),b0,b1,nI b2,nI b3,nI b4,nI b5,nI b6,b7,bf (↑(ax (az b8)):Int),b8,bf (↑(ax (az b9)):Int),b9,bf (↑(ax (az b10)):Int),b10,bf (↑(ax (az b11)):Int),b11,bf (↑(ax (az b12)):Int),b12] [unE (dE AK m0)]))))))))))))))
def Qs:=lid "" (@Jv R N)
theorem LB {R N a0 b0 b1 b2 b3 b4 b5 b6 b7 b8 b9 b10 b11 b12 b13 m0 k}:@Qs R N a0 b0 b1 b2 b3 b4 b5 b6 b7 b8 b9 b10 b11 b12 b13 m0 k=Jv N a0 b0 b1 b2 b3 b4 b5 b6 b7 b8 b9 b10 b11 b12 b13 m0 k:=by unfold Qs;rw[BQ]
def W8:OvG R:=DA W7 U0 (fun ds ms=>Qs N (dk ds 0) (dk ds 1) (dk ds 2) (dk ds 3) (dk ds 4) (dk ds 5) (dk ds 6) (dk ds 7) (dk ds 8) (dk ds 9) (dk ds 10) (dk ds 11) (dk ds 12) (dk ds 13) (dk ds 14) (dm ms 0)) fun ds ms K d1 m1=>K (V.d (bm bb) (dk d1 0)) [(di (bz 1),
  dj
   (jj Ba
    [oa (di (bz 2)) [] BF,oa (di (bz 5)) [] Bx,V.d (bm ay) (dk d1 1),
     V.d (bm ay) (dk d1 2),
     ka (bz 1000000000234) [] 0 (av (ar (dk d1 3))) none 240 AR,
     ka (bz 1000000000266) [] 0 (av (ar (dk d1 4))) none 2368 tTx,
     ka (bz 1000000000298) [] 0 (av (ar (dk d1 5))) none 40 AU])),
 (di (bz 2),
  dj
   (jj BF
    [ka (bz 1000000000106) [] 0 (av (ar (dk d1 6))) none 8 (bm ay),
     ka (bz 1000000000138) [] 0 (av (ar (dk d1 7))) none 8 (bm ay),
     V.d (bm ay) (dk d1 8)])),
 (di (bz 3),fh (bu (av (ar (dk d1 9))) (bm ay))),
 (bz 1000000000106,dj (V.d (bu (ax (az (dk d1 10))) (bm ay)) (dk d1 10))),
 (di (bz 4),fh (bu (av (ar (dk d1 11))) (bm ay))),
 (bz 1000000000138,dj (V.d (bu (ax (az (dk d1 12))) (bm ay)) (dk d1 12))),
 (di (bz 5),dj (jj Bx [V.mp (di (bz 6))])),
 (di (bz 6),O.map (bu 32 (bm cq)) AK (dE AK (dm m1 0))),
 (di (bz 7),fh (bu (av (ar (dk d1 13))) AR)),
 (bz 1000000000234,dj (V.d (bu (ax (az (dk d1 14))) AR) (dk d1 14))),
 (di (bz 8),fh (bu (av (ar (dk d1 15))) tTx)),
 (bz 1000000000266,dj (V.d (bu (ax (az (dk d1 16))) tTx) (dk d1 16))),
 (di (bz 9),fh (bu (av (ar (dk d1 17))) AU)),
 (bz 1000000000298,dj (V.d (bu (ax (az (dk d1 18))) AU) (dk d1 18)))]
theorem W9:okX 88 (@W8 R N):=DF (Ap (eD N) <| Ap (xJ N) <| Ap (u9 N) <| Ap (u4 N) <| BS) N [(88,[(0,[(3,5)]),(5,[(43,7)]),(15,[(5,6)])])] [(88,[([0,0,1,1],⟨[0,3],[(26,.d .bool)],[.g (.l 1),.g (.l 2),.g (.l 3),.g (.l 4),.g (.l 5),.g (.l 6),.g (.l 7),.g (.l 8),.g (.l 9)],[],[],[(.int .u64),AR,tTx,AU]⟩),
  ([1,0,1,1,1,1,1],⟨[0,5],[],[.g (.l 1),.g (.l 2),.g (.l 3),.g (.l 4),.g (.l 5),.g (.l 6),.g (.l 7),.g (.l 8),.g (.l 9)],[],[],[(.int .u64),AR,tTx,AU]⟩),
  ([9],⟨[],[(4,.d (.int .i64))],[.g (.l 1),.g (.l 2),.g (.l 3),.g (.l 4),.g (.l 5),.g (.l 6),.g (.l 7),.g (.l 8),.g (.l 9)],[],[],[(.int .u64),AR,tTx,AU]⟩)])] (fun _ _ _=>LB)
def X9:List Sh:=[.as (.ptr (.g (.l 1)) [] Ba),.d tTx]
def W2:List (Key × OSh):=[(.l 1,.box (.agg Ba [.as (.ptr (.g (.l 2)) [] BF),.as (.ptr (.g (.l 5)) [] Bx),.d (.int .u64),.d (.int .u64),.vec (.g (.l 7)) 240 AR,.vec (.g (.l 8)) 2368 tTx,.vec (.g (.l 9)) 40 AU])),(.l 2,.box (.agg BF [.vec (.g (.l 3)) 8 (.int .u64),.vec (.g (.l 4)) 8 (.int .u64),.d (.int .u64)])),(.l 3,.box (.arr (.int .u64))),(.l 4,.box (.arr (.int .u64))),(.l 5,.box (.agg Bx [.as (.mp (.g (.l 6)))])),(.l 6,.map (.arr 32 (.int .u8)) AK),(.l 7,.box (.arr AR)),(.l 8,.box (.arr tTx)),(.l 9,.box (.arr AU))]
def Tv (a0 b0 b1 b2 b3 b4 b5 b6 b7 b8 b9 b10 b11 b12 b13:C) (m0:Es) (k1:KD R):Option R:=bif decide (ar (bj a0 0)=0)then(gA b8 (gA b9 (QT N (bj a0 1) (bj a0 4) (bj a0 5) (nI b5) (nI b6) b7 b8 b9 (fun d1 m1=>(gA (dk d1 5) (gA (dk d1 7) (gM AK m0 (gA b10 (gA b11 (gA b12 (k1 [dk d1 0,b0,b1,nI b2,nI b3,nI b4,nI (dk d1 1),nI (dk d1 2),dk d1 3,nI (dk d1 4),dk d1 5,nI (dk d1 6),dk d1 7,bf (↑(ax (az b10)):Int),b10,bf (↑(ax (az b11)):Int),b11,bf (↑(ax (az b12)):Int),b12] [unE (dE AK m0)])))))))))))else(bif decide (ar (bj a0 0)=1)then(gM AK m0 (NQ N (bj a0 7) b1 dh dh (unE (dE AK m0)) (fun d1 m1=>(gA b8 (gA b9 (gM AK (dm m1 0) (gA b10 (gA b11 (gA b12 (k1 [dk d1 0,b0,b1,nI b2,nI b3,nI b4,nI b5,nI b6,b7,bf (↑(ax (az b8)):Int),b8,bf (↑(ax (az b9)):Int),b9,bf (↑(ax (az b10)):Int),b10,bf (↑(ax (az b11)):Int),b11,bf (↑(ax (az b12)):Int),b12] [unE (dE AK (dm m1 0))]))))))))))else(bif decide (ar (bj a0 0)=2)then(gA b8 (gA b9 (gM AK m0 (gA b10 (gA b11 (gA b12 (Qs N a0 b0 b1 (nI b2) (nI b3) (nI b4) (nI b5) (nI b6) b7 b8 b9 b10 b11 b12 dh (unE (dE AK m0)) (fun d1 m1=>(gA (dk d1 10) (gA (dk d1 12) (gM AK (dm m1 0) (gA (dk d1 14) (gA (dk d1 16) (gA (dk d1 18) (k1 [dk d1 0,dk d1 1,dk d1 2,nI (dk d1 3),nI (dk d1 4),nI (dk d1 5),nI (dk d1 6),nI (dk d1 7),dk d1 8,nI (dk d1 9),dk d1 10,nI (dk d1 11),dk d1 12,nI (dk d1 13),dk d1 14,nI (dk d1 15),dk d1 16,nI (dk d1 17),dk d1 18] [unE (dE AK (dm m1 0))])))))))))))))))else(jn (fun d1 m1=>(bif dg (dk d1 1)then(bif decide (au ay (↑(av (ar (dk d1 4))):Int)<=au ay (ar (bj (dk d1 0) 6)))then(gA (dk d1 11) (gA (dk d1 13) (gM AK (dm m1 0) (gA (dk d1 15) (gA (dk d1 17) (gA (dk d1 19) (k1 [bf 6,dk d1 2,dk d1 3,nI (dk d1 4),nI (dk d1 5),nI (dk d1 6),nI (dk d1 7),nI (dk d1 8),dk d1 9,nI (dk d1 10),dk d1 11,nI (dk d1 12),dk d1 13,nI (dk d1 14),dk d1 15,nI (dk d1 16),dk d1 17,nI (dk d1 18),dk d1 19] [unE (dE AK (dm m1 0))])))))))else none)else(gA (dk d1 11) (gA (dk d1 13) (gM AK (dm m1 0) (gA (dk d1 15) (gA (dk d1 17) (gA (dk d1 19) (k1 [bf 33,dk d1 2,dk d1 3,nI (dk d1 4),nI (dk d1 5),nI (dk d1 6),nI (dk d1 7),nI (dk d1 8),dk d1 9,nI (dk d1 10),dk d1 11,nI (dk d1 12),dk d1 13,nI (dk d1 14),dk d1 15,nI (dk d1 16),dk d1 17,nI (dk d1 18),dk d1 19] [unE (dE AK (dm m1 0))]))))))))) (fun k2=>(bif decide (ar (bj a0 0)=3)then(gA b8 (gA b9 (gM AK m0 (gA b10 (gA b11 (gA b12 (k2 [a0,HQ (df (decide (ar (bj a0 0)=3))) true,b0,b1,nI b2,nI b3,nI b4,nI b5,nI b6,b7,bf (↑(ax (az b8)):Int),b8,bf (↑(ax (az b9)):Int),b9,bf (↑(ax (az b10)):Int),b10,bf (↑(ax (az b11)):Int),b11,bf (↑(ax (az b12)):Int),b12] [unE (dE AK m0)])))))))else(jn (fun d1 m1=>(gA (dk d1 11) (gA (dk d1 13) (gM AK (dm m1 0) (gA (dk d1 15) (gA (dk d1 17) (gA (dk d1 19) (k2 [dk d1 0,df (dg (dk d1 1)),dk d1 2,dk d1 3,nI (dk d1 4),nI (dk d1 5),nI (dk d1 6),nI (dk d1 7),nI (dk d1 8),dk d1 9,nI (dk d1 10),dk d1 11,nI (dk d1 12),dk d1 13,nI (dk d1 14),dk d1 15,nI (dk d1 16),dk d1 17,nI (dk d1 18),dk d1 19] [unE (dE AK (dm m1 0))])))))))) (fun k3=>(bif decide (ar (bj a0 0)=4)then(gA b8 (gA b9 (gM AK m0 (gA b10 (gA b11 (gA b12 (k3 [a0,HQ (df (decide (ar (bj a0 0)=4))) true,b0,b1,nI b2,nI b3,nI b4,nI b5,nI b6,b7,bf (↑(ax (az b8)):Int),b8,bf (↑(ax (az b9)):Int),b9,bf (↑(ax (az b10)):Int),b10,bf (↑(ax (az b11)):Int),b11,bf (↑(ax (az b12)):Int),b12] [unE (dE AK m0)])))))))else(jn (fun d1 m1=>(gA (dk d1 11) (gA (dk d1 13) (gM AK (dm m1 0) (gA (dk d1 15) (gA (dk d1 17) (gA (dk d1 19) (k3 [dk d1 0,df (dg (dk d1 1)),dk d1 2,dk d1 3,nI (dk d1 4),nI (dk d1 5),nI (dk d1 6),nI (dk d1 7),nI (dk d1 8),dk d1 9,nI (dk d1 10),dk d1 11,nI (dk d1 12),dk d1 13,nI (dk d1 14),dk d1 15,nI (dk d1 16),dk d1 17,nI (dk d1 18),dk d1 19] [unE (dE AK (dm m1 0))])))))))) (fun k4=>(bif decide (ar (bj a0 0)=5)then(gA b8 (gA b9 (gM AK m0 (gA b10 (gA b11 (gA b12 (k4 [a0,HQ (df (decide (ar (bj a0 0)=5))) true,b0,b1,nI b2,nI b3,nI b4,nI b5,nI b6,b7,bf (↑(ax (az b8)):Int),b8,bf (↑(ax (az b9)):Int),b9,bf (↑(ax (az b10)):Int),b10,bf (↑(ax (az b11)):Int),b11,bf (↑(ax (az b12)):Int),b12] [unE (dE AK m0)])))))))else(jn (fun d1 m1=>(gA (dk d1 11) (gA (dk d1 13) (gM AK (dm m1 0) (gA (dk d1 15) (gA (dk d1 17) (gA (dk d1 19) (k4 [dk d1 0,df (dg (dk d1 1)),dk d1 2,dk d1 3,nI (dk d1 4),nI (dk d1 5),nI (dk d1 6),nI (dk d1 7),nI (dk d1 8),dk d1 9,nI (dk d1 10),dk d1 11,nI (dk d1 12),dk d1 13,nI (dk d1 14),dk d1 15,nI (dk d1 16),dk d1 17,nI (dk d1 18),dk d1 19] [unE (dE AK (dm m1 0))])))))))) (fun k5=>(bif decide (ar (bj a0 0)=6)then(gA b8 (gA b9 (gM AK m0 (gA b10 (gA b11 (gA b12 (k5 [a0,HQ (df (decide (ar (bj a0 0)=6))) true,b0,b1,nI b2,nI b3,nI b4,nI b5,nI b6,b7,bf (↑(ax (az b8)):Int),b8,bf (↑(ax (az b9)):Int),b9,bf (↑(ax (az b10)):Int),b10,bf (↑(ax (az b11)):Int),b11,bf (↑(ax (az b12)):Int),b12] [unE (dE AK m0)])))))))else(gA b8 (gA b9 (gM AK m0 (gA b10 (gA b11 (gA b12 (k5 [a0,df (decide (ar (bj a0 0)=7)),b0,b1,nI b2,nI b3,nI b4,nI b5,nI b6,b7,bf (↑(ax (az b8)):Int),b8,bf (↑(ax (az b9)):Int),b9,bf (↑(ax (az b10)):Int),b10,bf (↑(ax (az b11)):Int),b11,bf (↑(ax (az b12)):Int),b12] [unE (dE AK m0)])))))))))))))))))))))
def Qq:=lid "" (@Tv R N)
theorem Xt {R N a0 b0 b1 b2 b3 b4 b5 b6 b7 b8 b9 b10 b11 b12 b13 m0 k}:@Qq R N a0 b0 b1 b2 b3 b4 b5 b6 b7 b8 b9 b10 b11 b12 b13 m0 k=Tv N a0 b0 b1 b2 b3 b4 b5 b6 b7 b8 b9 b10 b11 b12 b13 m0 k:=by unfold Qq;rw[BQ]
def W0:OvG R:=DA X9 W2 (fun ds ms=>Qq N (dk ds 0) (dk ds 1) (dk ds 2) (dk ds 3) (dk ds 4) (dk ds 5) (dk ds 6) (dk ds 7) (dk ds 8) (dk ds 9) (dk ds 10) (dk ds 11) (dk ds 12) (dk ds 13) (dk ds 14) (dm ms 0)) fun ds ms K d1 m1=>K (V.d (bm bb) (dk d1 0)) [(di (bz 1),
  dj
   (jj Ba
    [oa (di (bz 2)) [] BF,oa (di (bz 5)) [] Bx,V.d (bm ay) (dk d1 1),
     V.d (bm ay) (dk d1 2),
     ka (bz 1000000000234) [] 0 (av (ar (dk d1 3))) none 240 AR,
     ka (bz 1000000000266) [] 0 (av (ar (dk d1 4))) none 2368 tTx,
     ka (bz 1000000000298) [] 0 (av (ar (dk d1 5))) none 40 AU])),
 (di (bz 2),
  dj
   (jj BF
    [ka (bz 1000000000106) [] 0 (av (ar (dk d1 6))) none 8 (bm ay),
     ka (bz 1000000000138) [] 0 (av (ar (dk d1 7))) none 8 (bm ay),
     V.d (bm ay) (dk d1 8)])),
 (di (bz 3),fh (bu (av (ar (dk d1 9))) (bm ay))),
 (bz 1000000000106,dj (V.d (bu (ax (az (dk d1 10))) (bm ay)) (dk d1 10))),
 (di (bz 4),fh (bu (av (ar (dk d1 11))) (bm ay))),
 (bz 1000000000138,dj (V.d (bu (ax (az (dk d1 12))) (bm ay)) (dk d1 12))),
 (di (bz 5),dj (jj Bx [V.mp (di (bz 6))])),
 (di (bz 6),O.map (bu 32 (bm cq)) AK (dE AK (dm m1 0))),
 (di (bz 7),fh (bu (av (ar (dk d1 13))) AR)),
 (bz 1000000000234,dj (V.d (bu (ax (az (dk d1 14))) AR) (dk d1 14))),
 (di (bz 8),fh (bu (av (ar (dk d1 15))) tTx)),
 (bz 1000000000266,dj (V.d (bu (ax (az (dk d1 16))) tTx) (dk d1 16))),
 (di (bz 9),fh (bu (av (ar (dk d1 17))) AU)),
 (bz 1000000000298,dj (V.d (bu (ax (az (dk d1 18))) AU) (dk d1 18)))]
theorem W1:okX 70 (@W0 R N):=DF (Ap (xM N) <| Ap (q4u N) <| Ap (W9 N) <| Ap (rG (f:=89) N) <| BS) N [(70,[(0,[(3,5)])])] [(70,[([1,0,3,1,3,1,3,1,4,1,0,1],⟨[0,3],[(38,.d .bool)],[.g (.l 1),.g (.l 2),.g (.l 3),.g (.l 4),.g (.l 5),.g (.l 6),.g (.l 7),.g (.l 8),.g (.l 9)],[],[],[(.int .u64),AR,tTx,AU]⟩),
  ([1,3,1,0,3,1,3,1,3,1,4,1,0,1],⟨[0,3],[(38,.d .bool)],[.g (.l 1),.g (.l 2),.g (.l 3),.g (.l 4),.g (.l 5),.g (.l 6),.g (.l 7),.g (.l 8),.g (.l 9)],[],[],[(.int .u64),AR,tTx,AU]⟩),
  ([1,3,1,3,1,0,3,1,3,1,3,1,4,1,0,1],⟨[0,3],[(38,.d .bool)],[.g (.l 1),.g (.l 2),.g (.l 3),.g (.l 4),.g (.l 5),.g (.l 6),.g (.l 7),.g (.l 8),.g (.l 9)],[],[],[(.int .u64),AR,tTx,AU]⟩),
  ([1,3,1,3,1,3,1,0,3,1,3,1,3,1,4,1,0,1],⟨[0,3],[(38,.d .bool)],[.g (.l 1),.g (.l 2),.g (.l 3),.g (.l 4),.g (.l 5),.g (.l 6),.g (.l 7),.g (.l 8),.g (.l 9)],[],[],[(.int .u64),AR,tTx,AU]⟩),
  ([9],⟨[],[(4,.d (.int .i64))],[.g (.l 1),.g (.l 2),.g (.l 3),.g (.l 4),.g (.l 5),.g (.l 6),.g (.l 7),.g (.l 8),.g (.l 9)],[],[],[(.int .u64),AR,tTx,AU]⟩)])] (fun _ _ _=>Xt)
def W3:List Sh:=[.as (.ptr (.g (.l 1)) [] Ba),.d tTx]
def W6:List (Key × OSh):=[(.l 1,.box (.agg Ba [.as (.ptr (.g (.l 2)) [] BF),.as (.ptr (.g (.l 5)) [] Bx),.d (.int .u64),.d (.int .u64),.vec (.g (.l 7)) 240 AR,.vec (.g (.l 8)) 2368 tTx,.vec (.g (.l 9)) 40 AU])),(.l 2,.box (.agg BF [.vec (.g (.l 3)) 8 (.int .u64),.vec (.g (.l 4)) 8 (.int .u64),.d (.int .u64)])),(.l 3,.box (.arr (.int .u64))),(.l 4,.box (.arr (.int .u64))),(.l 5,.box (.agg Bx [.as (.mp (.g (.l 6)))])),(.l 6,.map (.arr 32 (.int .u8)) AK),(.l 7,.box (.arr AR)),(.l 8,.box (.arr tTx)),(.l 9,.box (.arr AU))]
def Tw (a0 b0 b1 b2 b3 b4 b5 b6 b7 b8 b9 b10 b11 b12 b13:C) (m0:Es) (k1:KD R):Option R:=if ax (az b8)=ax (az b8)then(gA b9 (gM AK m0 (gA b10 (gA b11 (gA b12 (Qt N a0 b0 b1 (nI b2) (nI b3) (nI b4) (nI b5) (nI b6) b7 b8 b9 b10 b11 b12 dh (unE (dE AK m0)) (fun d1 m1=>(jn (fun d2 m2=>(if(av (ar (dk d2 6))+1)*40<=140737488355328/\av (ar (dk d2 6))+1<=9223372036854775807 then(jn (fun d3 m3=>(gA (dk d3 9) (gA (dk d3 10) (gM AK (dm m3 0) (gA (dk d3 11) (gA (dk d3 12) (gA (dk d3 13) (k1 [dk d3 0,dk d3 1,dk d3 2,nI (dk d3 3),nI (dk d3 4),nI (dk d3 5),nI (dk d3 6),nI (dk d3 7),dk d3 8,nI (dk d3 14),dk d3 9,nI (dk d3 15),dk d3 10,nI (dk d3 16),dk d3 11,nI (dk d3 17),dk d3 12,nI (dk d3 18),dk d3 13] [unE (dE AK (dm m3 0))])))))))) (fun k2=>(bif decide (0<au bb ((↑(av (ar (dk d2 6))+1):Int)-1024))then(if 0<=au bb ((↑(av (ar (dk d2 6))+1):Int)-1024)/\au bb ((↑(av (ar (dk d2 6))+1):Int)-1024)<=(↑(av (ar (dk d2 6))+1):Int)/\(↑(av (ar (dk d2 6))+1):Int)<=(↑(av (ar (dk d2 6))+1):Int)then(gA (dk d2 10) (gA (dk d2 11) (gM AK (dm m2 0) (gA (dk d2 12) (gA (dk d2 13) (if ax (ek (av ((↑(av (ar (dk d2 6))+1):Int)-au bb ((↑(av (ar (dk d2 6))+1):Int)-1024))) (jb (0+av (au bb ((↑(av (ar (dk d2 6))+1):Int)-1024))) (ek (av (ar (dk d2 6))) (az (dk d2 14))++[cm (cm (cm (cm (cm (dv [bf 0,bf 0,bf 0,bf 0,bf 0]) 0 (dk d2 3)) 1 (bj (dk d2 0) 0)) 2 (bj (dk d2 0) 1)) 3 (bj (dk d2 0) 6)) 4 (dk d2 1)])))=ax (ek (av ((↑(av (ar (dk d2 6))+1):Int)-au bb ((↑(av (ar (dk d2 6))+1):Int)-1024))) (jb (0+av (au bb ((↑(av (ar (dk d2 6))+1):Int)-1024))) (ek (av (ar (dk d2 6))) (az (dk d2 14))++[cm (cm (cm (cm (cm (dv [bf 0,bf 0,bf 0,bf 0,bf 0]) 0 (dk d2 3)) 1 (bj (dk d2 0) 0)) 2 (bj (dk d2 0) 1)) 3 (bj (dk d2 0) 6)) 4 (dk d2 1)])))then(k2 [dk d2 1,dk d2 2,dk d2 3,nI (dk d2 4),nI (dk d2 5),bf (↑(ax (ek (av ((↑(av (ar (dk d2 6))+1):Int)-au bb ((↑(av (ar (dk d2 6))+1):Int)-1024))) (jb (0+av (au bb ((↑(av (ar (dk d2 6))+1):Int)-1024))) (ek (av (ar (dk d2 6))) (az (dk d2 14))++[cm (cm (cm (cm (cm (dv [bf 0,bf 0,bf 0,bf 0,bf 0]) 0 (dk d2 3)) 1 (bj (dk d2 0) 0)) 2 (bj (dk d2 0) 1)) 3 (bj (dk d2 0) 6)) 4 (dk d2 1)])))):Int),nI (dk d2 7),nI (dk d2 8),dk d2 9,dk d2 10,dk d2 11,dk d2 12,dk d2 13,dv (ek (av ((↑(av (ar (dk d2 6))+1):Int)-au bb ((↑(av (ar (dk d2 6))+1):Int)-1024))) (jb (0+av (au bb ((↑(av (ar (dk d2 6))+1):Int)-1024))) (ek (av (ar (dk d2 6))) (az (dk d2 14))++[cm (cm (cm (cm (cm (dv [bf 0,bf 0,bf 0,bf 0,bf 0]) 0 (dk d2 3)) 1 (bj (dk d2 0) 0)) 2 (bj (dk d2 0) 1)) 3 (bj (dk d2 0) 6)) 4 (dk d2 1)]))),nI (dk d2 15),nI (dk d2 16),nI (dk d2 17),nI (dk d2 18),nI (dk d2 19),nI (dk d2 15),nI (dk d2 16),nI (dk d2 17),nI (dk d2 18),nI (dk d2 19),nI (dk d2 15),nI (dk d2 16),nI (dk d2 17),nI (dk d2 18),nI (dk d2 19)] [unE (dE AK (dm m2 0))])else none))))))else none)else(gA (dk d2 10) (gA (dk d2 11) (gM AK (dm m2 0) (gA (dk d2 12) (gA (dk d2 13) (if av (ar (dk d2 6))+1=ax (ek (av (ar (dk d2 6))) (az (dk d2 14))++[cm (cm (cm (cm (cm (dv [bf 0,bf 0,bf 0,bf 0,bf 0]) 0 (dk d2 3)) 1 (bj (dk d2 0) 0)) 2 (bj (dk d2 0) 1)) 3 (bj (dk d2 0) 6)) 4 (dk d2 1)])then(k2 [dk d2 1,dk d2 2,dk d2 3,nI (dk d2 4),nI (dk d2 5),bf (↑(av (ar (dk d2 6))+1):Int),nI (dk d2 7),nI (dk d2 8),dk d2 9,dk d2 10,dk d2 11,dk d2 12,dk d2 13,dv (ek (av (ar (dk d2 6))) (az (dk d2 14))++[cm (cm (cm (cm (cm (dv [bf 0,bf 0,bf 0,bf 0,bf 0]) 0 (dk d2 3)) 1 (bj (dk d2 0) 0)) 2 (bj (dk d2 0) 1)) 3 (bj (dk d2 0) 6)) 4 (dk d2 1)]),nI (dk d2 15),nI (dk d2 16),nI (dk d2 17),nI (dk d2 18),nI (dk d2 19),nI (dk d2 15),nI (dk d2 16),nI (dk d2 17),nI (dk d2 18),nI (dk d2 19),nI (dk d2 15),nI (dk d2 16),nI (dk d2 17),nI (dk d2 18),nI (dk d2 19)] [unE (dE AK (dm m2 0))])else none)))))))))else none)) (fun k2=>(bif decide (ar (dk d1 0)=0)then(gA (dk d1 10) (gA (dk d1 12) (gM AK (dm m1 0) (gA (dk d1 14) (gA (dk d1 16) (gA (dk d1 18) (Qq N a0 (dk d1 1) (dk d1 2) (nI (dk d1 3)) (nI (dk d1 4)) (nI (dk d1 5)) (nI (dk d1 6)) (nI (dk d1 7)) (dk d1 8) (dk d1 10) (dk d1 12) (dk d1 14) (dk d1 16) (dk d1 18) dh (unE (dE AK (dm m1 0))) (fun d2 m2=>(gA (dk d2 10) (gA (dk d2 12) (gM AK (dm m2 0) (gA (dk d2 14) (gA (dk d2 16) (gA (dk d2 18) (k2 [a0,dk d2 0,dk d2 1,dk d2 2,nI (dk d2 3),nI (dk d2 4),nI (dk d2 5),nI (dk d2 6),nI (dk d2 7),dk d2 8,dk d2 10,dk d2 12,dk d2 14,dk d2 16,dk d2 18,nI (dk d1 9),nI (dk d1 11),nI (dk d1 13),nI (dk d1 15),nI (dk d1 17),nI (dk d1 9),nI (dk d1 11),nI (dk d1 13),nI (dk d1 15),nI (dk d1 17)] [unE (dE AK (dm m2 0))])))))))))))))))else(gA (dk d1 10) (gA (dk d1 12) (gM AK (dm m1 0) (gA (dk d1 14) (gA (dk d1 16) (gA (dk d1 18) (k2 [a0,dk d1 0,dk d1 1,dk d1 2,nI (dk d1 3),nI (dk d1 4),nI (dk d1 5),nI (dk d1 6),nI (dk d1 7),dk d1 8,dk d1 10,dk d1 12,dk d1 14,dk d1 16,dk d1 18,nI (dk d1 9),nI (dk d1 11),nI (dk d1 13),nI (dk d1 15),nI (dk d1 17),nI (dk d1 9),nI (dk d1 11),nI (dk d1 13),nI (dk d1 15),nI (dk d1 17)] [unE (dE AK (dm m1 0))])))))))))))))))))else none
def Qr:=lid "" (@Tw R N)
theorem Xu {R N a0 b0 b1 b2 b3 b4 b5 b6 b7 b8 b9 b10 b11 b12 b13 m0 k}:@Qr R N a0 b0 b1 b2 b3 b4 b5 b6 b7 b8 b9 b10 b11 b12 b13 m0 k=Tw N a0 b0 b1 b2 b3 b4 b5 b6 b7 b8 b9 b10 b11 b12 b13 m0 k:=by unfold Qr;rw[BQ]
def W4:OvG R:=DA W3 W6 (fun ds ms=>Qr N (dk ds 0) (dk ds 1) (dk ds 2) (dk ds 3) (dk ds 4) (dk ds 5) (dk ds 6) (dk ds 7) (dk ds 8) (dk ds 9) (dk ds 10) (dk ds 11) (dk ds 12) (dk ds 13) (dk ds 14) (dm ms 0)) fun ds ms K d1 m1=>K (V.d (bm bb) (dk d1 0)) [(di (bz 1),
  dj
   (jj Ba
    [oa (di (bz 2)) [] BF,oa (di (bz 5)) [] Bx,V.d (bm ay) (dk d1 1),
     V.d (bm ay) (dk d1 2),
     ka (bz 1000000000234) [] 0 (av (ar (dk d1 3))) none 240 AR,
     ka (bz 1000000000266) [] 0 (av (ar (dk d1 4))) none 2368 tTx,
     ka (bz 1000000000298) [] 0 (av (ar (dk d1 5))) none 40 AU])),
 (di (bz 2),
  dj
   (jj BF
    [ka (bz 1000000000106) [] 0 (av (ar (dk d1 6))) none 8 (bm ay),
     ka (bz 1000000000138) [] 0 (av (ar (dk d1 7))) none 8 (bm ay),
     V.d (bm ay) (dk d1 8)])),
 (di (bz 3),fh (bu (av (ar (dk d1 9))) (bm ay))),
 (bz 1000000000106,dj (V.d (bu (ax (az (dk d1 10))) (bm ay)) (dk d1 10))),
 (di (bz 4),fh (bu (av (ar (dk d1 11))) (bm ay))),
 (bz 1000000000138,dj (V.d (bu (ax (az (dk d1 12))) (bm ay)) (dk d1 12))),
 (di (bz 5),dj (jj Bx [V.mp (di (bz 6))])),
 (di (bz 6),O.map (bu 32 (bm cq)) AK (dE AK (dm m1 0))),
 (di (bz 7),fh (bu (av (ar (dk d1 13))) AR)),
 (bz 1000000000234,dj (V.d (bu (ax (az (dk d1 14))) AR) (dk d1 14))),
 (di (bz 8),fh (bu (av (ar (dk d1 15))) tTx)),
 (bz 1000000000266,dj (V.d (bu (ax (az (dk d1 16))) tTx) (dk d1 16))),
 (di (bz 9),fh (bu (av (ar (dk d1 17))) AU)),
 (bz 1000000000298,dj (V.d (bu (ax (az (dk d1 18))) AU) (dk d1 18)))]
theorem W5:okX 47 (@W4 R N):=DF (Ap (U3 N) <| Ap (W1 N) <| Ap (Q3 N) <| BS) N [(47,[(0,[(3,5)]),(7,[(51,100)])])] [(47,[([1,0,1,1],⟨[0,3],[(5,.d (.int .i64))],[.g (.l 1),.g (.l 2),.g (.l 3),.g (.l 4),.g (.l 5),.g (.l 6),.g (.l 7),.g (.l 8),.g (.l 9)],[],[],[(.int .u64),AR,tTx,AU]⟩),
  ([1,1,0,1,1,1,1],⟨[0,5],[],[.g (.l 1),.g (.l 2),.g (.l 3),.g (.l 4),.g (.l 5),.g (.l 6),.g (.l 7),.g (.l 8),.g (.l 9)],[],[],[(.int .u64),AR,tTx,AU]⟩),
  ([9],⟨[],[(4,.d (.int .i64))],[.g (.l 1),.g (.l 2),.g (.l 3),.g (.l 4),.g (.l 5),.g (.l 6),.g (.l 7),.g (.l 8),.g (.l 9)],[],[],[(.int .u64),AR,tTx,AU]⟩)])] (fun _ _ _=>Xu)
section
variable {R:Type} {N:Nat}
structure CS where
 least:C
 yc:C
 kept:C
 has:C
 ye:C
 yd:List C
 yb:List C
 evs:List C
 book:Es
def CS.out (s:CS) (n:Nat) (e:Int) (j:Nat->C):List C:=[.int e,s.least,s.yc,.int s.yd.length,.int s.yb.length,.int s.evs.length,.int n,.int n,s.kept,j 0,s.has,j 1,s.ye,j 2,.agg s.yd,j 3,.agg s.yb,j 4,.agg s.evs]
def jL (a b c d e:C):Nat->C
 |0=>a|1=>b|2=>c|3=>d|_=>e
def CS.JG (s:CS) (kept has ye:C):CS:={s with kept:=kept,has:=has,ye:=ye}
theorem Ac (l:List C):az (.agg l)=l:=rfl
theorem Hz {n:Nat} (h:n<4611686018427387904):IntKind.i64.wrap ((n:Int)-1)=(n:Int)-1:=wrap_i64 (by omega) (by omega)
section
variable (s:CS) (n:Nat) (t:C)
def Gb:Int × CS:=
 if(PD n (t.get 1) s.has).toInt<(t.get 3).toInt then(23,s)else
  if(Ep n (t.get 1) (t.get 2) s.ye).1≠0 then((Ep n (t.get 1) (t.get 2) s.ye).1,s.JG s.kept s.has (Ep n (t.get 1) (t.get 2) s.ye).2)else
   ((IM n (t.get 1) (t.get 3) s.kept s.has (.int ((n:Int)-1))).1,s.JG (IM n (t.get 1) (t.get 3) s.kept s.has (.int ((n:Int)-1))).2.1 (IM n (t.get 1) (t.get 3) s.kept s.has (.int ((n:Int)-1))).2.2 (Ep n (t.get 1) (t.get 2) s.ye).2)
theorem q40 (hn:n<4611686018427387904):∃j,∀k:KD R,Qt N t s.least s.yc (.int s.yd.length) (.int s.yb.length) (.int s.evs.length) (.int n) (.int n) s.kept s.has s.ye (.agg s.yd) (.agg s.yb) (.agg s.evs) .nil s.book k=
  k ((Gb s n t).2.out n (Gb s n t).1 j) [(Gb s n t).2.book]:=by
 refine⟨jL (.int s.has.elems.length) (.int s.ye.elems.length) (.int s.yd.length) (.int s.yb.length) (.int s.evs.length),fun k=>?_⟩;rw[jB];unfold Xv Gb;simp only[AG,bc,Ac,eq_self,if_true,has_eq,q4Q,Je,q34,Ag,Ah,Hz hn,AF,AJ,AL,AP,AV,Ab,Af,Ak,AB];by_cases h1:(PD n (t.get 1) s.has).toInt<(t.get 3).toInt;{simp only[h1,AE,AB];rfl};by_cases h2:(Ep n (t.get 1) (t.get 2) s.ye).1=0;{simp only[h1,h2,AE,ne_eq,not_true];rfl};{simp only[h1,h2,AE,ne_eq,not_false_iff,AB];rfl}
end
structure TxG (t:C):Prop where
 ym:C.wf (.slice 1 (.int .u8)) (t.get 9)
 z9f:Nt (t.get 10)
 no:0<=(t.get 6).toInt/\(t.get 6).toInt<4294967296
 kind:(t.get 0).toInt=1\/(t.get 0).toInt=2
structure GQ (s:CS):Prop where
 b:∀b∈s.yd,TU b
 n:s.yd.length<=16
structure Fr (s s':CS):Prop where
 least:s'.least=s.least
 yc:s'.yc=s.yc
 yb:s'.yb=s.yb
 evs:s'.evs=s.evs
 has:s'.has.elems.length=s.has.elems.length
 ye:s'.ye.elems.length=s.ye.elems.length
theorem Fr.refl (s:CS):Fr s s:=⟨rfl,rfl,rfl,rfl,rfl,rfl⟩
theorem Fr.trans {a b c:CS} (h:Fr a b) (g:Fr b c):Fr a c:=⟨g.least.trans h.least,g.yc.trans h.yc,g.yb.trans h.yb,g.evs.trans h.evs,g.has.trans h.has,g.ye.trans h.ye⟩
theorem tA {s:CS} (h:GQ s) (n:Nat) (t:C):GQ (Gb s n t).2/\Fr s (Gb s n t).2/\(Gb s n t).2.yd=s.yd/\(Gb s n t).2.book=s.book:=by unfold Gb;split;{exact⟨h,.refl s,rfl,rfl⟩};split;{exact⟨⟨h.b,h.n⟩,⟨rfl,rfl,rfl,rfl,rfl,sH _ _ _ _⟩,rfl,rfl⟩};{exact⟨⟨h.b,h.n⟩,⟨rfl,rfl,rfl,rfl,q35 _ _ _ _ _ _,sH _ _ _ _⟩,rfl,rfl⟩}
structure Act (s s':CS) (e:Int):Prop where
 FF:GQ s'
 fr:Fr s s'
 non:s'.ye=s.ye
theorem q3Z (id:Int) (hid:W64 id) (who rts:C) (ym:List C) (ht:(rts.get 1).toInt<=8) (hr:C.wf (.slice 1 (.int .u8)) (.slice ym)) (yk:C):∃(e:Int) (b':C),(∀k:KD R,OI N (mkB (.int id) who rts ym zz zz (.int 0) (.int 0) (stZ id)) (.int 0) yk k=k [.int e,b'] [])/\
  (e=0->TU b'/\True)/\True:=by
 exact⟨_,_,fun k=>q30 (q7W id) (.int 0) yk k,fun _=>⟨trivial,trivial⟩,trivial⟩
def Pos (c:C):Prop:=∀i,0<=(c.get i).toInt
theorem QX (x:Int):0<=IntKind.u64.wrap x:=by
 have m1:IntKind.u64.min=0:=by decide
 have:=wrap_within ay x;omega
theorem q1q (l:List C) (i j:Nat) (v:C):(l.set i v).getD j .nil=if i=j/\i<l.length then v else l.getD j .nil:=by simp only[bq,gf];by_cases h:i=j;{subst h;by_cases h2:i<l.length;{simp[h2]};{simp[h2]}};{simp[h]}
theorem Pos.set {c v:C} (h:Pos c) (hv:0<=v.toInt) (i:Nat):Pos (c.set i v):=fun j=>by
 have hj:=h j;cases c with
 |agg l=>
  show 0<=((l.set i v).getD j .nil).toInt;rw[q1q];split;{exact hv};{exact hj}
 |_=>exact hj
theorem q76 (a b:Int):0<=(Dp a b).1:=by unfold Dp;split;{exact Int.le_refl 0};{exact QX _}
theorem Pos.Cn {b2 b3:C} (h:Pos b3) (n:Nat) (a x:C):Pos (DH n a x b2 b3).2.2:=by unfold DH;split;{split;{exact h.set (v:=.int _) (q76 _ _) _};{exact h}};{exact h}
theorem Pos.q1w {b2 b3:C} (h:Pos b3) (n:Nat) (a x:C):Pos (Ja n a x b2 b3).2.2:=by unfold Ja;split;{split;{exact h.set (v:=.int _) (QX _) _};{exact h}};{exact h}
def zV (s:CS) (_:Nat) (_:C) (s':CS) (_:Int):Prop:=s'.book=s.book/\(Pos s.has->Pos s'.has)
section
variable {s:CS} (hs:GQ s) {n:Nat} (hn:n<4611686018427387904) {t:C} (ht:TxG t)
include hs hn ht
theorem q4M:∃(e:Int) (s':CS) (j:Nat->C),Act s s' e/\(e≠0->s'=s)/\zV s n t s' e/\∀k:KD R,Qs N t s.least s.yc (.int s.yd.length) (.int s.yb.length) (.int s.evs.length) (.int n) (.int n) s.kept s.has s.ye (.agg s.yd) (.agg s.yb) (.agg s.evs) .nil s.book k=
  k (s'.out n e j) [s'.book]:=by
 have same:Act s s 1:=⟨hs,.refl s,rfl⟩
 let J:=jL (.int s.has.elems.length) (.int s.ye.elems.length) (.int s.yd.length) (.int s.yb.length) (.int s.evs.length)
 by_cases h1:(16:Int)<=(s.yd.length:Int);{refine⟨4,s,J,⟨hs,.refl s,rfl⟩,fun _=>rfl,⟨rfl,id⟩,fun k=>?_⟩;rw[LB];unfold Jv;simp only[AG,bc,Ac,eq_self,AE,Ag,Ah,h1,AB];rfl};by_cases h2:(t.get 4).toInt<0\/(n:Int)-1<=(t.get 4).toInt
 ·refine⟨1,s,J,⟨hs,.refl s,rfl⟩,fun _=>rfl,⟨rfl,id⟩,fun k=>?_⟩;rw[LB];unfold Jv;by_cases h3:(t.get 4).toInt<0;{simp only[AW,AG,bc,Ac,eq_self,AE,Ag,Ah,h1,h3,AZ,AF,AJ,AL,AP,AV,Ab,Af,Ak,Ao,BC,Aq,Ar,Au,Av,Aw,Ax,Ay,Az,BA,BB,BD,AB];rfl}
  ·have h4:(n:Int)-1<=(t.get 4).toInt:=by omega
   simp only[AW,AG,bc,Ac,eq_self,AE,Ag,Ah,Je,Hz hn,h1,h3,h4,AZ,AF,AJ,AL,AP,AV,Ab,Af,Ak,Ao,BC,Aq,Ar,Au,Av,Aw,Ax,Ay,Az,BA,BB,BD,AB];rfl
 have h3:¬(t.get 4).toInt<0:=fun h=>h2 (.inl h);have h4:¬(n:Int)-1<=(t.get 4).toInt:=fun h=>h2 (.inr h);obtain⟨rl,hrl⟩:∃rl,t.get 9= .slice rl:=⟨_,ht.ym.1⟩;have hr:=hrl ▸ ht.ym;have hid:W64 (IntKind.u32.wrap (s.yd.length:Int)):=by
  have m1:IntKind.u32.min=0:=by decide
  have m2:IntKind.u32.max=4294967295:=by decide
  have:=wrap_within cz (s.yd.length:Int);exact⟨by omega,by omega⟩
 obtain⟨e1,b1,yp,z7y,hnok⟩:=q4d (R:=R) (N:=N) (IntKind.u32.wrap (s.yd.length:Int)) hid (cm (cm (AH (bu 2 (bm bb))) 0 (bj t 1)) 1 (bj t 4)) (t.get 8) rl hr;have hlen:(s.yd.length+1)*240<=140737488355328/\s.yd.length+1<=9223372036854775807:=by have:=hs.n;omega
 have grow:∀(s':CS) (b:C),GQ s'->TU b->s'.yd.length<=15->GQ {s' with yd:=s'.yd++[b]}:=fun s' b g hb h=>⟨fun x hx=>by
  rcases List.mem_append.1 hx with h|h;{exact g.b x h}
  ·rw[List.mem_singleton.1 h];exact hb,by show(s'.yd++[b]).length<=16;simp;omega⟩
 by_cases h5:e1=0
 case neg=>
  refine⟨e1,s,J,⟨hs,.refl s,rfl⟩,fun _=>rfl,⟨rfl,id⟩,fun k=>?_⟩;rw[LB];unfold Jv;simp only[AW,AG,bc,Ac,eq_self,AE,Ag,Ah,Je,Hz hn,h1,h3,h4,hrl,yp,h5,AZ,AF,AJ,AL,AP,AV,Ab,Af,Ak,Ao,BC,Aq,Ar,Au,Av,Aw,Ax,Ay,Az,BA,BB,BD,AB];rfl
 subst h5;obtain⟨z7X,hb1,z8N⟩:=z7y rfl;by_cases h6:0<(t.get 5).toInt
 case neg=>
  refine⟨0,{s with yd:=s.yd++[b1]},J,⟨grow s b1 hs hb1 (by omega),⟨rfl,rfl,rfl,rfl,rfl,rfl⟩,rfl⟩,fun h=>absurd rfl h,⟨rfl,id⟩,fun k=>?_⟩;rw[LB];unfold Jv;simp only[AW,AG,bc,Ac,eq_self,AE,Ag,Ah,Je,Hz hn,h1,h3,h4,h6,hrl,yp,hlen,and_self,dx,bt,cn,cu,bh,AZ,AF,AJ,AL,AP,AV,Ab,Af,Ak,Ao,BC,Aq,Ar,Au,Av,Aw,Ax,Ay,Az,BA,BB,BD,AB];simp[CS.out,J,jL]
 obtain⟨e2,b2,z68,z8u,hmok⟩:=q3Z (R:=R) (N:=N) (IntKind.u32.wrap (s.yd.length:Int)) hid (cm (cm (AH (bu 2 (bm bb))) 0 (bj t 1)) 1 (bj t 4)) (t.get 8) rl z8N hr (t.get 5);rw[<-z7X]at z68;by_cases h7:e2=0
 case neg=>
  refine⟨e2,s,J,⟨hs,.refl s,rfl⟩,fun _=>rfl,⟨rfl,id⟩,fun k=>?_⟩;rw[LB];unfold Jv;simp only[AW,AG,bc,Ac,eq_self,AE,Ag,Ah,Je,Hz hn,h1,h3,h4,h6,h7,hrl,yp,z68,AZ,AF,AJ,AL,AP,AV,Ab,Af,Ak,Ao,BC,Aq,Ar,Au,Av,Aw,Ax,Ay,Az,BA,BB,BD,AB];rfl
 subst h7;obtain⟨hb2,_⟩:=z8u rfl;by_cases h8:(DH n (t.get 1) (t.get 5) s.kept s.has).1=0
 case neg=>
  refine⟨(DH n (t.get 1) (t.get 5) s.kept s.has).1,s,J,⟨hs,.refl s,rfl⟩,fun _=>rfl,⟨rfl,id⟩,fun k=>?_⟩;rw[LB];unfold Jv;simp only[AW,AG,bc,Ac,eq_self,AE,Ag,Ah,Je,ZE,ZD n (t.get 1) (t.get 5) s.kept s.has h8,Hz hn,h1,h3,h4,h6,h8,hrl,yp,z68,AZ,AF,AJ,AL,AP,AV,Ab,Af,Ak,Ao,BC,Aq,Ar,Au,Av,Aw,Ax,Ay,Az,BA,BB,BD,AB];rfl
 refine⟨0,{(s.JG (DH n (t.get 1) (t.get 5) s.kept s.has).2.1 (DH n (t.get 1) (t.get 5) s.kept s.has).2.2 s.ye)with yd:=s.yd++[b2]},J,⟨grow (s.JG _ _ _) b2 ⟨hs.b,hs.n⟩ hb2 (by show s.yd.length<=15;omega),⟨rfl,rfl,rfl,rfl,nT _ _ _ _ _,rfl⟩,rfl⟩,fun h=>absurd rfl h,⟨rfl,fun h=>h.Cn n (t.get 1) (t.get 5)⟩,fun k=>?_⟩;rw[LB];unfold Jv;simp only[AW,AG,bc,Ac,eq_self,AE,Ag,Ah,Je,ZE,Hz hn,h1,h3,h4,h6,h8,hrl,yp,z68,hlen,and_self,dx,bt,cn,cu,bh,AZ,AF,AJ,AL,AP,AV,Ab,Af,Ak,Ao,BC,Aq,Ar,Au,Av,Aw,Ax,Ay,Az,BA,BB,BG,BH,BI,BJ,BD,AB];simp[CS.out,CS.JG,J,jL]
end
end
section
variable {R:Type} {N:Nat}
abbrev W32:=BitVec 32
def wI (x:W32):C:=.int (x.toNat:Int)
theorem HW (x:W32):(wI x).toInt=(x.toNat:Int):=rfl
theorem wrap_u32 (x:Int):IntKind.u32.wrap x=x%4294967296:=by simp[au,IntKind.bits,IntKind.signed]
theorem DG (x:W32):x.toNat<4294967296:=x.isLt
theorem Pd (x:W32):dz 32 (x.toNat:Int)=x:=by rw[ox,BitVec.ofNat_toNat,BitVec.setWidth_eq]
theorem fG (x:W32):IntKind.u32.wrap (x.toNat:Int)=(x.toNat:Int):=by rw[wrap_u32];have:=DG x;omega
theorem Wy (x y:W32):BR BinOp.or cz (x.toNat:Int) (y.toNat:Int)=((x|||y).toNat:Int):=by show IntKind.u32.wrap (((dz 32 (x.toNat:Int))|||(dz 32 (y.toNat:Int))).toNat:Int)=_;rw[Pd,Pd];exact fG _
theorem yP (x y:W32):BR fg cz (x.toNat:Int) (y.toNat:Int)=((x&&&y).toNat:Int):=by show IntKind.u32.wrap (((dz 32 (x.toNat:Int))&&&(dz 32 (y.toNat:Int))).toNat:Int)=_;rw[Pd,Pd];exact fG _
theorem Wz (x y:W32):BR BinOp.xor cz (x.toNat:Int) (y.toNat:Int)=((x^^^y).toNat:Int):=by show IntKind.u32.wrap (((dz 32 (x.toNat:Int))^^^(dz 32 (y.toNat:Int))).toNat:Int)=_;rw[Pd,Pd];exact fG _
theorem Wx (x y:W32):IntKind.u32.wrap ((x.toNat:Int)+(y.toNat:Int))=((x+y).toNat:Int):=by rw[wrap_u32,BitVec.toNat_add];omega
theorem yQ (x:W32) (k:Nat):IntKind.u32.wrap ((x.toNat:Int)*2^k)=((x <<< k).toNat:Int):=by
 rw[wrap_u32,sx,wq];have:((x.toNat*2^k:Nat):Int)=(x.toNat:Int)*2^k:=by simp
 omega
theorem yR (x:W32) (k:Nat):Int.fdiv (x.toNat:Int) (2^k)=((x >>> k).toNat:Int):=by rw[mn,mz,Int.fdiv_eq_ediv_of_nonneg _ (Int.pow_nonneg (by omega))];simp
def Fx (x:W32) (k:Nat):W32:=x <<< (32-k)|||x >>> k
theorem cY (x:W32) (a:Int) (s:Nat) (hs:BR fg ay (au ay a) 31=((32-s:Nat):Int)) (h0:0<s) (h1:s<=32) (k:KD R):
  Lb N (wI x) (.int a) k=k [wI (Fx x s)] []:=by
 have e1:IntKind.u64.wrap (32-((32-s:Nat):Int))=(s:Int):=by rw[wrap_u64 (by omega) (by omega)];omega
 have e2:min (32-s) 32=32-s:=by omega
 have e3:min s 32=s:=by omega
 rw[Zh];unfold VE;simp only[AG,HW,hs,e1,bc,e2,e3,yQ,yR,Wy,cf,if_true,AB];rfl
def TH (x:W32) (a b c:Nat) (f:Bool):W32:=Fx x a^^^Fx x b^^^(if f then x >>> c else Fx x c)
theorem Wl (x:W32) (a b c:Nat) (f:Bool) (ha:0<a/\a<=31) (hb:0<b/\b<=31) (hc:0<c/\c<=31) (k:KD R):
  Hs N (wI x) (.int a) (.int b) (.int c) (.bool f) k=k [wI (TH x a b c f)] []:=by
 have key:∀s:Nat,0<s/\s<=31->BR fg ay (au ay (au bb (0-(s:Int)))) 31=((32-s:Nat):Int):=by
  intro s hs;have:∀s:Fin 32,0<s.val->BR fg ay (au ay (au bb (0-(s.val:Int)))) 31=((32-s.val:Nat):Int):=by decide
  exact this ⟨s,by omega⟩ hs.1
 have ra:=fun k:KD R=>cY (N:=N) x (au bb (0-(a:Int))) a (key a ha) ha.1 (by omega) k;have rb:=fun k:KD R=>cY (N:=N) x (au bb (0-(b:Int))) b (key b hb) hb.1 (by omega) k;have rc:=fun k:KD R=>cY (N:=N) x (au bb (0-(c:Int))) c (key c hc) hc.1 (by omega) k;have e3:min c 32=c:=by omega
 rw[VP];unfold Rs;cases f;{simp only[AW,AF,AJ,AL,AP,AG,AZ,ra,rb,rc,cond_false,HW,Wz,AB];rfl};{simp only[AW,AF,AJ,AL,AP,AG,AZ,ra,rb,rc,AE,HW,cf,bc,e3,yR,Wz,AB];rfl}
def JI (b:List C):W32:=b.foldl (fun n c=>n <<< 8|||dz 32 c.toInt) 0
end
def Lr {R:Type} (N:Nat) (k2:KD R):KD R->KD R:=fun k3 d1 m1=>(bif decide (ar (dk d1 4)<ar (dk d1 1))then(k3 [dk d1 0,dk d1 1,df (dg (dk d1 2)),bf (au ay (ar (dk d1 3)*2)),bf (au bb (ar (dk d1 4)+1))] [])else(k2 [dk d1 0,df (dg (dk d1 2)),dk d1 3] []))
def SV (a0 a1 a2:C) (k1:KD R):Option R:=jn (fun d1 m1=>(bif dg (dk d1 1)then(if ar (dk d1 2)≠0 then(if ar (dk d1 2)≠0 then(if ar (dk d1 2)≠0 then(k1 [bf (au ay (au ay (fb (ar (dk d1 0)) (ar (dk d1 2)))+au ay (bn (ar (dk d1 0)) (ar (dk d1 2))*au ay (fb 4294967296 (ar (dk d1 2))))))] [])else none)else none)else none)else(if ar (dk d1 2)≠0 then(k1 [bf (au ay (fb (ar (dk d1 0)) (ar (dk d1 2))))] [])else none))) (fun k2=>(BO N (Lr N k2) [a0,a1,df (dg a2),bf 1,bf 0] []))
def Db:=lid "" (@SV R N)
theorem Vz {R N a0 a1 a2 k}:@Db R N a0 a1 a2 k=SV N a0 a1 a2 k:=by unfold Db;rw[BQ]
def q5K:OvG R:=CA [.int .u64,.int .i64,.bool] (Jq (Db N)) (DS (bm ay))
theorem q5L:okX 157 (@q5K R N):=Cg BS N [] [(157,[([1,0,1,1],(Cr [0,2] [(7,.d (.int .u64))])),
  ([4,1,0,1,1],(Cr [0,1,2] [(7,.d (.int .u64)),(8,.d (.int .i64))])),
  ([9],(Ct [(6,.d (.int .u64))]))])] (fun _ _=>Vz)
section
variable {R:Type} {N:Nat}
theorem q6Y (x:W32) (n:Nat) (h1:n<=32):(Fx x n).toNat=x.toNat / 2^n+x.toNat%2^n*2^(32-n):=by
 have hx:=DG x;have hb:x.toNat / 2^n<2^(32-n):=by rw[Nat.div_lt_iff_lt_mul (xh n),<-vl,show 32-n+n=32 by omega];exact hx
 have hm:x.toNat*2^(32-n)%4294967296=x.toNat%2^n*2^(32-n):=by rw[show(4294967296:Nat)=2^n*2^(32-n) by rw[<-vl,show n+(32-n)=32 by omega]];exact Nat.mul_mod_mul_right _ _ _
 unfold Fx;rw[BitVec.toNat_or,sx,mn,wq,mz];rw[show(2:Nat)^32=4294967296 by decide,hm,Nat.mul_comm (x.toNat%2^n)];rw[<-Nat.two_pow_add_eq_or_of_lt hb];omega
theorem IX (x:W32) (n:Nat) (h0:0<n) (h1:n<=31) (f:Bool) (hN:100<N) (k:KD R):Db N (wI x) (.int n) (.bool f) k=k [wI (if f then Fx x n else x >>> n)] []:=by
 have lp:∀K:KD R,BO N (Lr N K) [wI x,.int n,.bool f,.int 1,.int 0] []=K [wI x,.bool f,.int ((2^n:Nat):Int)] []:=fun K=>by
  refine Fw (F:=Lr N K) (fun i=>[wI x,.int n,.bool f,.int ((2^i:Nat):Int),.int i]) (fun _=>[]) n _ ?_ ?_ (N:=N) (by omega)
  ·intro i hi rec;have e1:(i:Int)<(n:Int):=by omega
   have e2:2^i<=2^31:=Nat.pow_le_pow_right (by omega) (by omega);have e3:IntKind.u64.wrap (((2^i:Nat):Int)*2)=((2^(i+1):Nat):Int):=by rw[Nat.pow_succ];obtain⟨q,hq⟩:∃q:Nat,2^i=q:=⟨_,rfl⟩;rw[hq]at e2 ⊢;rw[wrap_u64 (by omega) (by omega)];omega
   unfold Lr;simp only[AF,AJ,AL,AP,AV,AG,AZ,e1,e3,AE,CV (show i<4611686018427387904 by omega),AB]
  ·intro rec;unfold Lr;simp only[AF,AJ,AL,AP,AV,AG,AZ,fj,AE,AB]
 have hx:=DG x;obtain⟨p,hp⟩:∃p:Nat,2^n=p:=⟨_,rfl⟩;obtain⟨r,hr⟩:∃r:Nat,2^(32-n)=r:=⟨_,rfl⟩;have hp1:0<p:=by rw[<-hp];exact xh n
 have hpr:4294967296=p*r:=by rw[<-hp,<-hr,<-vl,show n+(32-n)=32 by omega]
 have td:∀a:Nat,fb (a:Int) (p:Int)=((a / p:Nat):Int):=fun a=>by rw[Int.tdiv_eq_ediv_of_nonneg (by omega)];omega
 have tm:bn (x.toNat:Int) (p:Int)=((x.toNat%p:Nat):Int):=by rw[ez (by omega)];omega
 have t2:fb 4294967296 (p:Int)=(r:Int):=by have:=td 4294967296;rw[show(4294967296 / p:Nat)=r by rw[hpr];exact Nat.mul_div_cancel_left r hp1]at this;exact this
 have hr31:r<=4294967296:=by rw[hpr];exact Nat.le_mul_of_pos_left r hp1
 have zv:x.toNat%p<p:=Nat.mod_lt _ hp1;have z8O:x.toNat%p*r<=4294967296:=by rw[hpr];exact Nat.mul_le_mul_right r (by omega)
 have hdiv:x.toNat / p<=x.toNat:=Nat.div_le_self _ _;have hne:((p:Nat):Int)≠0:=by omega
 have rot:=q6Y x n (by omega);rw[hp,hr]at rot;rw[Vz];unfold SV;simp only[AW,AZ,AB];rw[lp];cases f
 ·simp only[AF,AJ,AL,AZ,AG,HW,hp,td,cond_false,AB];refine(if_pos hne).trans ?_;have e:IntKind.u64.wrap ((x.toNat / p:Nat):Int)=((x.toNat / p:Nat):Int):=wrap_u64 (cf _) (by generalize x.toNat / p=d at hdiv ⊢;omega);have e2:(x >>> n).toNat=x.toNat / p:=by rw[mn,mz,hp]
  rw[e];show k [.int ((x.toNat / p:Nat):Int)] []=k [.int ((x >>> n).toNat:Int)] [];rw[e2]
 ·simp only[AF,AJ,AL,AZ,AG,HW,hp,td,tm,t2,cond_true,AB];refine(if_pos hne).trans ?_;refine(if_pos hne).trans ?_;refine(if_pos hne).trans ?_;have e:IntKind.u64.wrap ((x.toNat / p:Nat):Int)=((x.toNat / p:Nat):Int):=wrap_u64 (cf _) (by generalize x.toNat / p=d at hdiv ⊢;omega);have e3:IntKind.u64.wrap (r:Int)=(r:Int):=wrap_u64 (by omega) (by omega);have e4:IntKind.u64.wrap (((x.toNat%p:Nat):Int)*(r:Int))=((x.toNat%p*r:Nat):Int):=by rw[wrap_u64 (Int.mul_nonneg (by omega) (by omega)) (by rw[<-Int.natCast_mul];omega)];simp
  have e5:IntKind.u64.wrap (((x.toNat / p:Nat):Int)+((x.toNat%p*r:Nat):Int))=((Fx x n).toNat:Int):=by rw[rot];generalize x.toNat / p=d at hdiv rot ⊢;generalize x.toNat%p*r=q at z8O rot ⊢;rw[wrap_u64 (by omega) (by omega)];simp
  rw[e,e3,e4,e5];rfl
end
section
variable {R:Type} {N:Nat}
def ksW:List W32:=[1116352408,1899447441,3049323471,3921009573,961987163,1508970993,2453635748,2870763221,3624381080,310598401,607225278,1426881987,1925078388,2162078206,2614888103,3248222580,3835390401,4022224774,264347078,604807628,770255983,1249150122,1555081692,1996064986,2554220882,2821834349,2952996808,3210313671,3336571891,3584528711,113926993,338241895,666307205,773529912,1294757372,1396182291,1695183700,1986661051,2177026350,2456956037,2730485921,2820302411,3259730800,3345764771,3516065817,3600352804,4094571909,275423344,430227734,506948616,659060556,883997877,958139571,1322822218,1537002063,1747873779,1955562222,2024104815,2227730452,2361852424,2428436474,2756734187,3204031479,3329325298]
theorem q7Y (k:KD R):PX N k=k [.agg (ksW.map wI)] []:=by rw[Zr];unfold VO;rfl
theorem Hh {l:List W32} {i:Nat} (h:i<l.length):bj (.agg (l.map wI)) i=wI (l.getD i 0):=by show(l.map wI).getD i .nil=_;rw[bq,List.getElem?_map,bq,bp h];rfl
theorem wP (l:List W32) (i:Nat) (x:W32):cm (.agg (l.map wI)) i (wI x)= .agg ((l.set i x).map wI):=by show dv ((l.map wI).set i (wI x))=_;rw[List.map_set]
def DZ (c:C):Prop:=c= .int c.toInt/\0<=c.toInt/\c.toInt<256
theorem o6 {c:C} (h:DZ c):IntKind.u32.wrap c.toInt=((dz 32 c.toInt).toNat:Int):=by obtain⟨_,h1,h2⟩:=h;obtain⟨n,hn⟩:=Int.eq_ofNat_of_zero_le h1;rw[hn,wrap_u32];show _=((dz 32 (n:Int)).toNat:Int);rw[ox,BitVec.toNat_ofNat];simp
theorem q9h (l:List C) (hl:4<=l.length) (hb:∀c∈l,DZ c) (hN:10<N) (k:KD R):NL N (.slice l) k=k [wI (JI (l.take 4))] []:=by
 have hc:cut l 0 4=l.take 4:=by simp[cut]
 have hc4:(l.take 4).length=4:=by simp;omega
 have hb4:∀c∈l.take 4,DZ c:=fun c hc=>hb c (lx hc);rw[Zs];unfold VQ;simp only[AQ,hc,hc4,AW,AB];refine(if_pos ⟨by decide,by decide,by omega⟩).trans ?_;generalize l.take 4=b at*;have key:=Fw (F:=NK N fun d1 m1=>k [dk d1 0] []) (fun i=>[.slice b,.int (4:Nat),wI (JI (b.take i)),.int i]) (fun _=>[]) 4 (k [wI (JI b)] []) ?_ ?_ (N:=N) (by omega);{exact key}
 ·intro i hi rec;have h1:(i:Int)<((4:Nat):Int):=by omega
  have h2:i<b.length:=by omega
  have hw:=o6 (hb4 _ (Ez h2));have e8:min (av 8) 32=8:=rfl;have et:b.take (i+1)=b.take i++[b.getD i .nil]:=by rw[List.take_add_one,bp h2,bq,bp h2];rfl
  have ef:JI (b.take (i+1))=JI (b.take i) <<< 8|||dz 32 (b.getD i .nil).toInt:=by rw[et];unfold JI;rw[List.foldl_append];rfl
  unfold NK;simp only[AF,AJ,AL,AP,AG,AQ,hc4,h1,e8,HW,hw,yQ,Wy,AE,cf,and_self,bc,CV (show i<4611686018427387904 by omega),ef,AB];rfl
 ·intro rec;have ht:b.take 4=b:=List.take_of_length_le (by omega);unfold NK;simp only[AF,AJ,AL,AP,AG,fj,AE,ht,AB]
def sg0 (x:W32):W32:=TH x 7 18 3 true
def sg1 (x:W32):W32:=TH x 17 19 10 true
def bs0 (x:W32):W32:=TH x 2 13 22 false
def bs1 (x:W32):W32:=TH x 6 11 25 false
def HR (i:Nat) (yo:List W32):List W32:=
 if 16<=i then yo.set (i%16) (yo.getD (i%16) 0+(sg0 (yo.getD ((i+1)%16) 0)+yo.getD ((i+9)%16) 0+sg1 (yo.getD ((i+14)%16) 0)))else yo
def MO (i:Nat) (yo s:List W32):W32:=
 s.getD 7 0+bs1 (s.getD 4 0)+(s.getD 6 0^^^(s.getD 4 0&&&(s.getD 5 0^^^s.getD 6 0)))+ksW.getD i 0+yo.getD (i%16) 0
def stepG (i:Nat) (p:List W32 × List W32):List W32 × List W32:=
 let yo:=HR i p.1
 let s:=p.2
 let add:=MO i yo s
 (yo,[add+bs0 (s.getD 0 0)+((s.getD 0 0&&&s.getD 1 0)|||(s.getD 2 0&&&(s.getD 0 0|||s.getD 1 0))),s.getD 0 0,s.getD 1 0,s.getD 2 0,s.getD 3 0+add,s.getD 4 0,s.getD 5 0,s.getD 6 0])
def DB (yo h:List W32):Nat->List W32 × List W32
 |0=>(yo,h)|i+1=>stepG i (DB yo h i)
theorem q4c (i:Nat) (l:List W32):(HR i l).length=l.length:=by unfold HR;split <;> simp
theorem QQ {yo h:List W32} (hn:yo.length=16) (hh:h.length=8):∀i,(DB yo h i).1.length=16/\(DB yo h i).2.length=8
 |0=>⟨hn,hh⟩|i+1=>⟨by show(HR i _).length=16;rw[q4c];exact(QQ hn hh i).1,rfl⟩
theorem q2m:ksW.length=64:=rfl
end
section
variable {R:Type} {N:Nat}
theorem xU (a b:Nat):bn (a:Int) (b:Int)=((a%b:Nat):Int):=by rw[ez (by omega)];omega
theorem dJ (l:List W32) (i:Nat) (x:W32):cm (.agg (l.map wI)) i (.int (x.toNat:Int))= .agg ((l.set i x).map wI):=wP l i x
theorem q6Z (yo s:List W32) (w:C) (i:Nat) (hi:i<64) (hn:yo.length=16) (hs:s.length=8) (hN:100<N) (k rec:KD R):
  Jf N k rec [.agg (ksW.map wI),.int i,w,.agg (yo.map wI),.agg (s.map wI)] []=
   rec [.agg (ksW.map wI),.int ((i+1:Nat):Int),w,.agg ((stepG i (yo,s)).1.map wI),.agg ((stepG i (yo,s)).2.map wI)] []:=by
 have e1:(i:Int)<64:=by omega
 have e5:((i+1:Nat):Int)=(i:Int)+1:=by omega
 have q1:IntKind.i64.wrap ((i:Int)+1)=((i+1:Nat):Int):=by rw[wrap_i64 (by omega) (by omega)];omega
 have q9:IntKind.i64.wrap ((i:Int)+9)=((i+9:Nat):Int):=by rw[wrap_i64 (by omega) (by omega)];omega
 have q14:IntKind.i64.wrap ((i:Int)+14)=((i+14:Nat):Int):=by rw[wrap_i64 (by omega) (by omega)];omega
 have c16:∀a:Nat,bn (a:Int) 16=((a%16:Nat):Int):=fun a=>xU a 16;have r16:∀a:Nat,((a%16:Nat):Int)<16:=fun a=>by omega
 have gk:bj (.agg (ksW.map wI)) i=wI (ksW.getD i 0):=Hh (by rw[q2m];exact hi);have gn:∀(l:List W32),l.length=16->∀a:Nat,bj (.agg (l.map wI)) (a%16)=wI (l.getD (a%16) 0):=fun l hl a=>Hh (by omega);have gs:∀a:Nat,a<8->bj (.agg (s.map wI)) a=wI (s.getD a 0):=fun a ha=>Hh (by omega);have g0:=gs 0 (by omega);have g1:=gs 1 (by omega);have g2:=gs 2 (by omega);have g3:=gs 3 (by omega);have g4:=gs 4 (by omega);have g5:=gs 5 (by omega);have g6:=gs 6 (by omega);have g7:=gs 7 (by omega);have t0:av 0=0:=rfl;have t1:av 1=1:=rfl;have t2:av 2=2:=rfl;have t3:av 3=3:=rfl;have t4:av 4=4:=rfl;have t5:av 5=5:=rfl;have t6:av 6=6:=rfl;have t7:av 7=7:=rfl;have a1:∀k:KD R,Hs N (wI (s.getD 4 0)) (.int 6) (.int 11) (.int 25) (.bool false) k=k [wI (bs1 (s.getD 4 0))] []:=fun k=>Wl (N:=N) (s.getD 4 0) 6 11 25 false (by omega) (by omega) (by omega) k;have a2:∀k:KD R,Hs N (wI (s.getD 0 0)) (.int 2) (.int 13) (.int 22) (.bool false) k=k [wI (bs0 (s.getD 0 0))] []:=fun k=>Wl (N:=N) (s.getD 0 0) 2 13 22 false (by omega) (by omega) (by omega) k;have a3:∀k:KD R,Hs N (wI (yo.getD ((i+1)%16) 0)) (.int 7) (.int 18) (.int 3) (.bool true) k=k [wI (sg0 (yo.getD ((i+1)%16) 0))] []:=fun k=>Wl (N:=N) (yo.getD ((i+1)%16) 0) 7 18 3 true (by omega) (by omega) (by omega) k;have a4:∀k:KD R,Hs N (wI (yo.getD ((i+14)%16) 0)) (.int 17) (.int 19) (.int 10) (.bool true) k=k [wI (sg1 (yo.getD ((i+14)%16) 0))] []:=fun k=>Wl (N:=N) (yo.getD ((i+14)%16) 0) 17 19 10 true (by omega) (by omega) (by omega) k;unfold Jf;by_cases e2:16<=(i:Int)
 ·have e2n:16<=i:=by omega
  have hn2:(yo.set (i%16) (yo.getD (i%16) 0+(sg0 (yo.getD ((i+1)%16) 0)+yo.getD ((i+9)%16) 0+sg1 (yo.getD ((i+14)%16) 0)))).length=16:=by rw[List.length_set];exact hn
  have hG:HR i yo=yo.set (i%16) (yo.getD (i%16) 0+(sg0 (yo.getD ((i+1)%16) 0)+yo.getD ((i+9)%16) 0+sg1 (yo.getD ((i+14)%16) 0))):=by unfold HR;rw[if_pos e2n]
  simp only[AW,AF,AJ,AL,AP,AV,Ab,Af,AG,e1,e2,q1,q9,q14,c16,r16,AE,cf,and_self,bc,t0,t1,t2,t3,t4,t5,t6,t7,gk,gn yo hn,g0,g1,g2,g3,g4,g5,g6,g7,a1,a2,a3,a4,HW,Wx,dJ,AB];simp only[gn _ hn2,HW,Wx,yP,Wy,Wz,stepG,MO,hG];rfl
 ·have e2n:¬16<=i:=by omega
  have hG:HR i yo=yo:=by unfold HR;rw[if_neg e2n]
  simp only[AW,AF,AJ,AL,AP,AV,Ab,Af,AG,e1,e2,q1,c16,r16,AE,cf,and_self,bc,t0,t1,t2,t3,t4,t5,t6,t7,gk,gn yo hn,g0,g1,g2,g3,g4,g5,g6,g7,a1,a2,HW,Wx,yP,Wy,Wz,AB];simp only[stepG,MO,hG];rfl
end
section
variable {R:Type} {N:Nat}
def nG (w:List C):Nat->List W32
 |0=>List.replicate 16 0|i+1=>(nG w i).set i (JI ((w.drop (4*i)).take 4))
theorem NP (w:List C):∀i,(nG w i).length=16
 |0=>rfl|i+1=>by simp[nG,NP w i]
def aG (h s:List W32):Nat->List W32
 |0=>h|i+1=>(aG h s i).set i (h.getD i 0+s.getD i 0)
theorem MN (h s:List W32):∀i,(aG h s i).length=h.length
 |0=>rfl|i+1=>by simp[aG,MN h s i]
theorem Mm {l:List W32} {i j:Nat} {x:W32} (hi:i<l.length):(l.set i x).getD j 0=if i=j then x else l.getD j 0:=by rw[bq,bq,gf];by_cases h:i=j;{subst h;simp[hi]};{simp[h]}
theorem fO (h s:List W32) (hh:h.length=8):∀i j,i<=j->i<=8->(aG h s i).getD j 0=h.getD j 0
 |0,_,_,_=>rfl|i+1,j,hj,hi=>by show((aG h s i).set i _).getD j 0=_;rw[Mm (by rw[MN];omega),if_neg (by omega),fO h s hh i j (by omega) (by omega)]
def JS (h:List W32) (w:List C):List W32:=aG h (DB (nG w 16) h 64).2 8
theorem Xo {h:List W32} (hh:h.length=8) (w:List C):(JS h w).length=8:=by unfold JS;rw[MN];exact hh
theorem q1C (h:List W32) (hh:h.length=8) (w:List C) (hw:w.length=64) (hb:∀c∈w,DZ c) (n:C) (hN:100<N) (k:KD R):
  PV N (.agg [.agg (h.map wI),.agg w,n]) k=k [.agg [.agg ((JS h w).map wI),.agg w,n]] []:=by
 rw[Zn];unfold VK;simp only[AW,q7Y,AF,AJ,JZ,AB];have l3:∀K:KD R,BO N (Le N K) [.int 0,.agg [.agg (h.map wI),.agg w,n],AH (.arr 16 (.int .u32))] []=K [.agg [.agg (h.map wI),.agg w,n],.agg ((nG w 16).map wI)] []:=fun K=>by
  refine Fw (F:=Le N K) (fun i=>[.int i,.agg [.agg (h.map wI),.agg w,n],.agg ((nG w i).map wI)]) (fun _=>[]) 16 _ ?_ ?_ (N:=N) (by omega)
  ·intro i hi rec;have e1:(i:Int)<16:=by omega
   have e2:IntKind.i64.wrap (4*(i:Int))=((4*i:Nat):Int):=by rw[wrap_i64 (by omega) (by omega)];omega
   have e3:(64-((4*i:Nat):Int)).toNat=64-4*i:=by omega
   have c1:((4*i:Nat):Int)<=64/\Int.ofNat 64<=64:=⟨by omega,by decide⟩;have hv:∀k:KD R,NL N (.slice (ek (64-4*i) (jb (4*i) w))) k=k [wI (JI ((w.drop (4*i)).take 4))] []:=fun k=>by rw[q9h _ (by simp;omega) (fun c hc=>hb c (List.mem_of_mem_drop (lx hc))) (by omega),List.take_take];rw[show min 4 (64-4*i)=4 by omega]
   unfold Le;simp only[AF,AJ,AL,AG,Ac,Mn,e1,e2,e3,c1,hv,wP,AE,cf,and_self,bc,CV (show i<4611686018427387904 by omega),AB];rfl
  ·intro rec;have e:¬((16:Nat):Int)<16:=by decide
   unfold Le;simp only[AF,AJ,AL,AG,e,AE,AB]
 have l2:∀K:KD R,BO N (Jf N K) [.agg (ksW.map wI),.int 0,.agg [.agg (h.map wI),.agg w,n],.agg ((nG w 16).map wI),.agg (h.map wI)] []=K [.agg [.agg (h.map wI),.agg w,n],.agg ((DB (nG w 16) h 64).2.map wI)] []:=fun K=>by
  refine Fw (F:=Jf N K) (fun i=>[.agg (ksW.map wI),.int i,.agg [.agg (h.map wI),.agg w,n],.agg ((DB (nG w 16) h i).1.map wI),.agg ((DB (nG w 16) h i).2.map wI)]) (fun _=>[]) 64 _ ?_ ?_ (N:=N) (by omega);{intro i hi rec;have hl:=QQ (NP w 16) hh i;exact q6Z _ _ _ i hi hl.1 hl.2 hN K rec}
  ·intro rec;have e:¬((64:Nat):Int)<64:=by decide
   unfold Jf;simp only[AF,AJ,AL,AP,AV,AG,e,AE,AB]
 have l1:∀s:List W32,s.length=8->∀K:KD R,BO N (Ld N K) [.int 0,.agg [.agg (h.map wI),.agg w,n],.agg (s.map wI)] []=K [.agg [.agg ((aG h s 8).map wI),.agg w,n]] []:=fun s hs K=>by
  refine Fw (F:=Ld N K) (fun i=>[.int i,.agg [.agg ((aG h s i).map wI),.agg w,n],.agg (s.map wI)]) (fun _=>[]) 8 _ ?_ ?_ (N:=N) (by omega)
  ·intro i hi rec;have e1:(i:Int)<8:=by omega
   have g1:bj (.agg ((aG h s i).map wI)) i=wI (h.getD i 0):=by rw[Hh (by rw[MN];omega),fO h s hh i i (Nat.le_refl _) (by omega)]
   have g2:bj (.agg (s.map wI)) i=wI (s.getD i 0):=Hh (by omega);unfold Ld;simp only[AF,AJ,AL,AG,e1,JZ,Kg,g1,g2,HW,Wx,dJ,AE,cf,and_self,bc,CV (show i<4611686018427387904 by omega),AB];rfl
  ·intro rec;have e:¬((8:Nat):Int)<8:=by decide
   unfold Ld;simp only[AF,AJ,AL,AG,e,AE,AB]
 rw[l3];simp only[AF,AJ,JZ];rw[l2];simp only[AF,AJ];rw[l1 _ (QQ (NP w 16) hh 64).2];rfl
end
def KV {R:Type} (N:Nat) (k2:KD R):KD R->KD R:=fun k3 d1 m1=>(bif decide (ar (dk d1 3)<au bb (au bb (8*ar (dk d1 1))+8))then(if 0<=ar (dk d1 3)/\ar (dk d1 3)<(↑(ax (xp (dk d1 0))):Int)then(jn (fun d2 m2=>(k3 [dk d2 0,dk d2 1,bf (au ay (au ay (au ay (ar (dk d2 2)*16)+ar (dk d2 4))-48)),bf (au bb (ar (dk d2 3)+1))] [])) (fun k4=>(bif decide (97<=au ay (↑(uy (br (xp (dk d1 0)) (av (ar (dk d1 3))) (sv 0))):Int))then(k4 [dk d1 0,dk d1 1,dk d1 2,dk d1 3,bf (au ay (au ay (↑(uy (br (xp (dk d1 0)) (av (ar (dk d1 3))) (sv 0))):Int)-39))] [])else(k4 [dk d1 0,dk d1 1,dk d1 2,dk d1 3,bf (au ay (↑(uy (br (xp (dk d1 0)) (av (ar (dk d1 3))) (sv 0))):Int))] []))))else none)else(k2 [dk d1 2] []))
def Vy (a0 a1:C) (k1:KD R):Option R:=jn (fun d1 m1=>(k1 [dk d1 0] [])) (fun k2=>(BO N (KV N k2) [a0,a1,bf 0,bf (au bb (8*ar a1))] []))
def KW:=lid "" (@Vy R N)
theorem bS {R N a0 a1 k}:@KW R N a0 a1 k=Vy N a0 a1 k:=by unfold KW;rw[BQ]
def q5J:OvG R:=CA [.str,.int .i64] (Ef (KW N)) (DS (bm ay))
theorem tY:okX 143 (@q5J R N):=Cg BS N [] [(143,[([1,0,1,1],(Ct [(5,.d (.int .u64))])),
  ([4,1,0,1,1],(Cr [0,1] [(5,.d (.int .u64)),(6,.d (.int .i64))])),
  ([1,0,1,4,0,1,5,4,1,0,1,1],(Cr [0,1,5,6] [(7,.d (.int .u64))])),
  ([9],(Ct [(4,.d (.int .u64))]))])] (fun _ _=>bS)
end Go.Proofs.YteealakhniofoaaGreatDoor
