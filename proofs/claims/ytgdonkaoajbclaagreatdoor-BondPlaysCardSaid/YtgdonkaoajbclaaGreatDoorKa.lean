/-
 What the functions on the way compute, part 1.
 Conditions: none.
-/
import Derived.Test.YtgdonkaoajbclaaGreatDoorTf
import Derived.Laws.Externs
import Derived.Lib.Bytealg
set_option linter.all false
noncomputable section
set_option maxRecDepth 100000
set_option maxHeartbeats 4000000
open Array renaming getElem?_eq_getElem->eh
open BitVec renaming ofInt->dv,ofInt_natCast->lg,toNat_ofNat->ui,toNat_or->vn,toNat_shiftLeft->sv,toNat_ushiftRight->mi
open Bool renaming false_eq_true->fj
open Go.BinOp renaming and->dr,or->qp,xor->ep
open Go.E.C renaming agg->dj,bool->cg,elems->au,get->bc,int->az,nil->dw,set->db,slice->bj,toBool->cz,toInt->ao
open Go.E.Key renaming l->dt
open Go.E.Ty renaming arr->ct,bool->ei,int->br
open Go.IntKind renaming bits->jk,i64->aw,signed->iw,u32->cm,u64->ay,u8->bt,wrap->ar
open Go.IntWalk renaming i64_in->dh
open Int renaming eq_ofNat_of_zero_le->nm,fdiv->fx,lt_irrefl->fb,natCast_nonneg->bu,ofNat->ja,tdiv->dz,tmod->bq,tmod_eq_emod_of_nonneg->dp,toNat->av,toNat_natCast->bh,toNat_of_nonneg->gy
open List renaming all_eq_true->ej,getD->bp,getD_eq_getElem?_getD->bn,getElem?_eq_getElem->bm,getElem?_map->di,getElem_mem->jy,length->aq,length_append->bx,length_cons->cn,length_map->ez,length_nil->df,map_cons->ed,mem_append->dy,mem_filter->mj,mem_map->nz,mem_singleton->ft,replicate->bf,take_add_one->mb,take_of_length_le->du
open Nat renaming beq->bo,beq_refl->bw,le_refl->ca,mod_eq_of_lt->qh,pow_add->vl,shiftLeft_eq->xc,shiftRight_eq_div_pow->mu,two_pow_add_eq_or_of_lt->sf,two_pow_pos->xt,zero_add->cq,zero_le->dx
open Option renaming ite_none_right_eq_some->ax
namespace Go.Proofs.YtgdonkaoajbclaaGreatDoor
open Go Go.E
variable {R:Type} (N:Nat)
section
variable {gl:Nat->Option (Ty × C)}
def Ej (l:List UInt8) (m c:Int):C:=.agg [.str l,.int m,.int c]
def Ek:List C:=[Ej [104,97,108,116] 0 1,Ej [112,117,115,104] 8 1,Ej [108,111,97,100] 1 1,Ej [97,100,100] 0 1,Ej [115,117,98] 0 1,Ej [109,117,108] 0 3,
 Ej [108,101,115,115] 0 1,Ej [115,97,109,101] 0 1,Ej [110,111,116] 0 1,Ej [98,111,116,104] 0 1,Ej [97,110,121] 0 1,Ej [106,117,109,112] 2 1,Ej [105,102] 2 1,
 Ej [116,119,105,99,101] 0 1,Ej [115,119,97,112] 0 1,Ej [100,114,111,112] 0 1,Ej [112,97,105,100] 1 10,Ej [110,111,119] 0 1]
def GF (gl:Nat->Option (Ty × C)):Prop:=gl 0=some (.arr 18 q1U,.agg Ek)
def Ay (o:Int):Nat:=if o=1 then 8 else if o=2\/o=16 then 1 else if o=11\/o=12 then 2 else 0
theorem Jz (o:Int):Ay o<=8:=by unfold Ay;(repeat' split) <;> omega
theorem q6l:∀(o:Nat),o<18->(Ek.getD o .nil).get 1= .int (Ay o):=by
 intro o h;have c:o=0\/o=1\/o=2\/o=3\/o=4\/o=5\/o=6\/o=7\/o=8\/o=9\/o=10\/o=11\/o=12\/o=13\/o=14\/o=15\/o=16\/o=17:=by omega
 rcases c with rfl|rfl|rfl|rfl|rfl|rfl|rfl|rfl|rfl|rfl|rfl|rfl|rfl|rfl|rfl|rfl|rfl|rfl <;> rfl
def bN (p:List C) (i:Nat):Int:=(p.getD i .nil).toInt
def CA (p:List C) (i:Nat):Nat->Int
 |0=>0
 |k+1=>CA p i k*256+bN p (i+k)
def Ar (p:List C) (i:Nat):Int:=
 if p.length<=i then 9 else if 18<=bN p i then 33 else if p.length<i+1+Ay (bN p i)then 9 else 0
theorem Hg {p:List C} (h:C.wf (.slice 1 (.int .u8)) (.slice p)) {i:Nat} (hi:i<p.length):p.getD i .nil= .int (bN p i)/\0<=bN p i/\bN p i<=255:=by
 have:=C.z4O (i:=i) h hi;simp only[au,C.wf]at this;have m1:IntKind.u8.min=0:=by decide
 have m2:IntKind.u8.max=255:=by decide
 exact⟨this.1,by unfold bN;omega,by unfold bN;omega⟩
theorem ZK {p:List C} (h:C.wf (.slice 1 (.int .u8)) (.slice p)) {i:Nat}:∀{k:Nat},i+k<=p.length->0<=CA p i k/\CA p i k<256^k
 |0,_=>by simp[CA]
 |k+1,hk=>by
  have ih:=ZK h (k:=k) (i:=i) (by omega);have hb:=Hg h (i:=i+k) (by omega);simp only[CA];have e:(256:Int)^(k+1)=256^k*256:=by rw[Int.pow_succ]
  omega
theorem Ls {p:List C} (h:C.wf (.slice 1 (.int .u8)) (.slice p)) {i k:Nat} (hk:i+k<=p.length) (h8:k<=8):0<=CA p i k/\CA p i k<=18446744073709551615/\(k<8->CA p i k<72057594037927936):=by
 obtain⟨h1,h2⟩:=ZK h hk;have c:k=0\/k=1\/k=2\/k=3\/k=4\/k=5\/k=6\/k=7\/k=8:=by omega
 rcases c with rfl|rfl|rfl|rfl|rfl|rfl|rfl|rfl|rfl <;> simp at h2 <;> omega
theorem z0j {a b:Int} (ha:0<=a) (ha2:a<72057594037927936) (hb:0<=b) (hb2:b<=255):Aj .or .u64 (a*256) b=a*256+b:=by
 obtain⟨x,rfl⟩:=nm ha;obtain⟨y,rfl⟩:=nm hb;have hx:x<72057594037927936:=by omega
 have hy:y<256:=by omega
 have e1:((x:Int)*256)=((x*256:Nat):Int):=by omega
 have key:(x*256)|||y=x*256+y:=by
  have:=sf (i:=8) (b:=y) (by omega) x;rw[Nat.mul_comm x 256];exact this.symm
 rw[e1];show IntKind.u64.wrap (((dv 64 ((x*256:Nat):Int))|||(dv 64 ((y:Nat):Int))).toNat:Int)=_;simp only[vn,lg,ui];rw[qh (by omega),qh (by omega),key];have m1:IntKind.u64.min=0:=by decide
 have m2:IntKind.u64.max=18446744073709551615:=by decide
 exact(Lj (by omega) (by omega)).trans (by omega)
def uG (p:List C) (i:Nat):V:=.tup [.d (.int .i64) (.int (if Ar p i=0 then bN p i else 0)),.d (.int .u64) (.int (if Ar p i=0 then CA p (i+1) (Ay (bN p i))else 0)),
 .d (.int .i64) (.int (if Ar p i=0 then((i+1+Ay (bN p i):Nat):Int)else 0)),.d (.int .i64) (.int (Ar p i))]
end
section
variable {gl:Nat->Option (Ty × C)}
theorem q3Z (A:Key->Option O) (cs:List C):Bg (X0 gl) 34 [.d (.slice 1 (.int .u8)) (.slice cs)] A (.ts 1 (.int .u8) cs) []:=by
 refine aI (n:=8) (ok0 gl) Tryz.func34 rfl rfl (by simp) ?_;intro A' hA;refine EU (IY (ok0 gl) [] (by kernel_rfl) ?_);simp only[go_sem,↓Ew,↓Ev,↓Eu,↓Er,↓Ey,↓EJ,↓EI,↓EG,↓EH,simprocAttr];refine EU (EU (IY (ok0 gl) [] (by kernel_rfl) ?_));cases cs with
 |nil=>
  simp only[go_sem,↓Ew,↓Ev,↓Eu,↓Er,↓Ey,↓EJ,↓EI,↓EG,↓EH,simprocAttr];refine rJ rfl ?_ (Ns ?_)
  ·refine EU (IY (ok0 gl) [] (by kernel_rfl) ?_);simp only[go_sem,↓Ew,↓Ev,↓Eu,↓Er,↓Ey,↓EJ,↓EI,↓EG,↓EH,simprocAttr];refine MG ⟨.inr rfl,?_⟩;simp only[Jb,go_sem,↓Ew,↓Ev,↓Eu,↓Er,↓Ey,↓EJ,↓EI,↓EG,↓EH,simprocAttr,Tryz.f34]
  ·refine EU (IY (ok0 gl) [] (by kernel_rfl) ?_);simp only[go_sem,↓Ew,↓Ev,↓Eu,↓Er,↓Ey,↓EJ,↓EI,↓EG,↓EH,simprocAttr];refine MG ⟨.inr rfl,?_⟩;simp only[Jb,go_sem,↓Ew,↓Ev,↓Eu,↓Er,↓Ey,↓EJ,↓EI,↓EG,↓EH,simprocAttr,Tryz.f34]
 |cons c cs=>
  simp only[go_sem,↓Ew,↓Ev,↓Eu,↓Er,↓Ey,↓EJ,↓EI,↓EG,↓EH,simprocAttr];refine rH _ rfl (fun h=>by simp at h) (fun _=>Ns ?_);refine EU (IY (ok0 gl) [] (by kernel_rfl) ?_);simp only[go_sem,↓Ew,↓Ev,↓Eu,↓Er,↓Ey,↓EJ,↓EI,↓EG,↓EH,simprocAttr];refine MG ⟨.inr rfl,?_⟩;simp only[Jb,go_sem,↓Ew,↓Ev,↓Eu,↓Er,↓Ey,↓EJ,↓EI,↓EG,↓EH,simprocAttr,Tryz.f34]
theorem q30 (A:Key->Option O) (cs:List C):Bg (X0 gl) 89 [.d (.slice 64 DI) (.slice cs)] A (.ts 64 DI cs) []:=by
 refine aI (n:=8) (ok0 gl) Tryz.func89 rfl rfl (by simp) ?_;intro A' hA;refine EU (IY (ok0 gl) [] (by kernel_rfl) ?_);simp only[go_sem,↓Ew,↓Ev,↓Eu,↓Er,↓Ey,↓EJ,↓EI,↓EG,↓EH,simprocAttr];refine EU (EU (IY (ok0 gl) [] (by kernel_rfl) ?_));cases cs with
 |nil=>
  simp only[go_sem,↓Ew,↓Ev,↓Eu,↓Er,↓Ey,↓EJ,↓EI,↓EG,↓EH,simprocAttr];refine rJ rfl ?_ (Ns ?_)
  ·refine EU (IY (ok0 gl) [] (by kernel_rfl) ?_);simp only[go_sem,↓Ew,↓Ev,↓Eu,↓Er,↓Ey,↓EJ,↓EI,↓EG,↓EH,simprocAttr];refine MG ⟨.inr rfl,?_⟩;simp only[Jb,go_sem,↓Ew,↓Ev,↓Eu,↓Er,↓Ey,↓EJ,↓EI,↓EG,↓EH,simprocAttr,Tryz.f89]
  ·refine EU (IY (ok0 gl) [] (by kernel_rfl) ?_);simp only[go_sem,↓Ew,↓Ev,↓Eu,↓Er,↓Ey,↓EJ,↓EI,↓EG,↓EH,simprocAttr];refine MG ⟨.inr rfl,?_⟩;simp only[Jb,go_sem,↓Ew,↓Ev,↓Eu,↓Er,↓Ey,↓EJ,↓EI,↓EG,↓EH,simprocAttr,Tryz.f89]
 |cons c cs=>
  simp only[go_sem,↓Ew,↓Ev,↓Eu,↓Er,↓Ey,↓EJ,↓EI,↓EG,↓EH,simprocAttr];refine rH _ rfl (fun h=>by simp at h) (fun _=>Ns ?_);refine EU (IY (ok0 gl) [] (by kernel_rfl) ?_);simp only[go_sem,↓Ew,↓Ev,↓Eu,↓Er,↓Ey,↓EJ,↓EI,↓EG,↓EH,simprocAttr];refine MG ⟨.inr rfl,?_⟩;simp only[Jb,go_sem,↓Ew,↓Ev,↓Eu,↓Er,↓Ey,↓EJ,↓EI,↓EG,↓EH,simprocAttr,Tryz.f89]
end
section
variable {gl:Nat->Option (Ty × C)}
theorem q3r (a b:C):NR (X0 gl) 64 [.d (.int .u64) a,.d (.int .u64) b,.d (.int .u64) (.int 0)] (.tup [.d (.int .u64) (.int ((a.toInt+b.toInt)%18446744073709551616)),.d (.int .u64) (.int ((a.toInt+b.toInt) / 18446744073709551616))]):=by
 intro Γ w args hl hr;have hs:args.size=3:=hl.symm;obtain⟨e1,_,l1,m1⟩:=DT (hr 0 _ _ rfl (eh (by omega)));obtain⟨e2,_,l2,m2⟩:=DT (hr 1 _ _ rfl (eh (by omega)));obtain⟨e3,_,_,_⟩:=DT (hr 2 _ _ rfl (eh (by omega)));have ea:args=#[.int .u64 a.toInt,.int .u64 b.toInt,.int .u64 0]:=by
  apply Array.ext
  ·simpa using hs
  ·intro i h1 h2
   match i with
   |0=>simpa using e1
   |1=>simpa using e2
   |2=>simpa[ao]using e3
   |i+3=>omega
 have z:IntKind.u64.min=0:=by decide
 have z':IntKind.u64.max=18446744073709551615:=by decide
 refine⟨.tuple #[.int .u64 ((a.toInt+b.toInt)%18446744073709551616),.int .u64 ((a.toInt+b.toInt) / 18446744073709551616)],?_,#[_,_],rfl,?_⟩
 ·have zi:=run_callFunc_extern (P:=(X0 gl).P) (f:=64) (fn:=Tryz.f64) (e:=add64Entry) Tryz.func64 (by decide) rfl (by kernel_rfl) (by kernel_rfl) args w;rw[zi,ea,run_add64 _ _ _ (by omega) (by omega) (by omega) (by omega)];simp
 ·refine UF rfl fun i x u hx hu=>?_
  match i with
  |0=>simp at hx hu;subst hx;subst hu;exact⟨rfl,Cu (by omega) (by omega)⟩
  |1=>simp at hx hu;subst hx;subst hu;exact⟨rfl,Cu (by omega) (by omega)⟩
  |i+2=>simp at hx
end
def Jx:List (Nat × Ty × C)->Nat->Option (Ty × C)
 | [],_=>none
 |(i,x)::l,g=>bif bo g i then some x else Jx l g
theorem yS {gl:Nat->Option (Ty × C)}:∀{l:List (Nat × Ty × C)},l.map (fun p=>gl p.1)=l.map (fun p=>some p.2)->∀g x,Jx l g=some x->gl g=some x
 | [],_,g,x,h=>by cases h
 |(i,y)::l,h0,g,x,h=>by
  simp only[ed,List.cons.injEq]at h0;simp only[Jx]at h;cases hb:bo g i with
  |true=>
   rw[hb,cond_true]at h;cases h;rw[Nat.eq_of_beq_eq_true hb];exact h0.1
  |false=>
   rw[hb,cond_false]at h;exact yS h0.2 g x h
def cQ:List (Nat × Ty × C):=
 (0,.arr 18 q1U,.agg Ek)::
 []
def gl0:Nat->Option (Ty × C):=Jx cQ
theorem gf0:GF gl0:=rfl
theorem q6y (gl:Nat->Option (Ty × C)) (h:cQ.map (fun p=>gl p.1)=cQ.map (fun p=>some p.2)):∀g x,gl0 g=some x->gl g=some x:=yS h
def ZA:List V->Option V:=fun xs=>match xs with
 | [.d (.int .u64) a,.d (.int .u64) b,.d (.int .u64) (.int c)]=>if c=0 then some (.tup [.d (.int .u64) (.int ((a.toInt+b.toInt)%18446744073709551616)),.d (.int .u64) (.int ((a.toInt+b.toInt) / 18446744073709551616))])else none
 |_=>none
def bP:List (Nat × (List V->Option V)):=[]
 ++[(64,ZA)]
def OT:DV:=Vr bP
theorem q6a (gl:Nat->Option (Ty × C)):KY (X0 gl) bP:=by
 unfold bP
 repeat' refine KY.append ?_ ⟨?_,trivial⟩
 ·exact trivial
 ·intro xs v h;have h:ZA xs=some v:=h;show NR (X0 gl) 64 xs v;unfold ZA at h;split at h
  ·simp only[ax,Option.some.injEq]at h;obtain⟨rfl,rfl⟩:=h;exact q3r _ _
  ·cases h
theorem bQ (gl:Nat->Option (Ty × C)):IM (X0 gl) OT:=tX (q6a gl)
def noX:FuncId->Nat->List (Nat × Nat):=fun _ _=>[]
def qO (_:Nat) {R:Type}:OvG R:=VS 1 (.int .u8)
theorem Zm (N:Nat) {R:Type}:GOk (X0 gl0) 34 (qO N (R:=R)):=qR fun A cs=>q3Z A cs
def qP (_:Nat) {R:Type}:OvG R:=VS 64 DI
theorem qQ (N:Nat) {R:Type}:GOk (X0 gl0) 89 (qP N (R:=R)):=qR fun A cs=>q30 A cs
section
variable {gl:Nat->Option (Ty × C)}
def EP (p:List C):Nat->Nat->List Nat->Int × List Nat
 |0,_,bs=>(0,bs)
 |f+1,i,bs=>if i<p.length then(if Ar p i=0 then EP p f (i+1+Ay (bN p i)) (bs++[i])else(Ar p i,bs))else(0,bs)
def HH (p:List C) (i:Nat):Bool:=decide (bN p i=11)||decide (bN p i=12)
def toN (p:List C) (i:Nat):Int:=CA p (i+1) (Ay (bN p i))
def FM (p:List C) (bs:List Nat):List C:=(bs.filter (HH p)).map fun i=>.int (toN p i)
def FH (bs:List Nat) (c:C):C:=.bool (bs.any fun j=>decide (c=az (j:Int)))
def Cn (p:List C):Int:=
 if 256<p.length then 1 else if(EP p p.length 0 []).1≠0 then(EP p p.length 0 []).1 else
  if(FM p (EP p p.length 0 []).2).all (fun c=>(FH (EP p p.length 0 []).2 c).toBool)then 0 else 10
theorem q1q {p:List C} {i:Nat} {bs:List Nat} {r:Int × List Nat} (hi:i<p.length) (h:EP p (p.length-i) i bs=r):
  (Ar p i≠0->r=(Ar p i,bs))/\(Ar p i=0->i+1+Ay (bN p i)<=p.length/\EP p (p.length-(i+1+Ay (bN p i))) (i+1+Ay (bN p i)) (bs++[i])=r):=by
 have mono:∀(f g j:Nat) (bs:List Nat),p.length-j<=f->p.length-j<=g->EP p f j bs=EP p g j bs:=by
  intro f
  induction f with
  |zero=>
   intro g j bs h1 h2;cases g with
   |zero=>rfl
   |succ g=>simp only[EP];rw[if_neg (by omega)]
  |succ f ih=>
   intro g j bs h1 h2;cases g with
   |zero=>simp only[EP];rw[if_neg (by omega)]
   |succ g=>
    simp only[EP];split
    ·split
     ·exact ih _ _ _ (by omega) (by omega)
     ·rfl
    ·rfl
 obtain⟨f,hf⟩:∃f,p.length-i=f+1:=⟨p.length-i-1,by omega⟩;rw[hf]at h;simp only[EP]at h;rw[if_pos hi]at h;refine⟨fun he=>?_,fun he=>⟨?_,?_⟩⟩
 ·rw[if_neg he]at h;exact h.symm
 ·unfold Ar at he;rw[if_neg (by omega)]at he;split at he
  ·simp at he
  ·split at he
   ·simp at he
   ·omega
 ·rw[if_pos he]at h;rw[<-h];exact mono _ _ _ _ (by omega) (by omega)
theorem q1p {p:List C} {i:Nat} {bs:List Nat} (hi:p.length<=i):EP p (p.length-i) i bs=(0,bs):=by rw[show p.length-i=0 by omega];rfl
theorem q8k (p:List C) (bs:List Nat) (i:Nat):FM p (bs++[i])=if HH p i=true then FM p bs++[.int (toN p i)]else FM p bs:=by
 unfold FM;rw[List.filter_append];by_cases h:HH p i=true
 ·rw[if_pos h];simp[h]
 ·rw[if_neg h];simp[h]
theorem q8j (p:List C) (bs:List Nat):(FM p bs).length<=bs.length:=by
 unfold FM;rw[ez];exact List.length_filter_le _ _
end
abbrev Bw {R:Type} (f:C->KD R->Option R):(Nat->C)->KD R->Option R:=fun a=>f (a 0)
abbrev Bq {R:Type} (f:C->C->KD R->Option R):(Nat->C)->KD R->Option R:=fun a=>f (a 0) (a 1)
abbrev Eb {R:Type} (f:C->C->C->KD R->Option R):(Nat->C)->KD R->Option R:=fun a=>f (a 0) (a 1) (a 2)
def BD (t:Ty) {R:Type}:(Nat->C)->(V->List (Key × O)->Option R)->KD R:=fun _ K d _=>K (V.d t (dk d 0)) []
def Gz {R:Type}:(Nat->C)->(V->List (Key × O)->Option R)->KD R:=fun _ K d _=>K (V.d ei (cg (cz (dk d 0)))) []
def AX (a:List Nat) (b:List (Nat × Sh)):Hint:=⟨a,b,[],[],[],[]⟩
def Af (b:List (Nat × Sh)):Hint:=⟨[],b,[],[],[],[]⟩
abbrev okX (f:Nat) {R:Type} (g:OvG R):Prop:=GOk (X0 gl0) f g
def AW:OvS (X0 gl0):=⟨fun _=>[],fun _ _ h=>nomatch h⟩
def AH {f:FuncId} {g:(R:Type)->OvG R} (h:∀{R:Type},GOk (X0 gl0) f (g R)) (o:OvS (X0 gl0)):OvS (X0 gl0):=⟨fun R=>(f,g R)::o.g R,fun R=>List.forall_mem_cons.2 ⟨h,o.ok R⟩⟩
def Ya {α:Type} (l:List (Nat × List α)) (f:Nat):List α:=(E.look l f).getD []
def q1Z (l:List (Nat × List (Nat × List (Nat × Nat)))) (f r:Nat):List (Nat × Nat):=Ya (Ya l f) r
def aH:List Ty->Nat->(Nat->C)->List V
 | [],_,_=>[]
 |t::ts,i,a=>.d t (a i)::aH ts (i+1) a
def Kd:List Ty->List V->Option (List C)
 | [],[]=>some []
 |t::ts,.d u c::xs=>if u=t then(match Kd ts xs with
  |some cs=>some (c::cs)
  |none=>none)else none
 |_,_=>none
theorem rD:∀(ts:List Ty) (xs:List V) (cs:List C) (i:Nat) (a:Nat->C),Kd ts xs=some cs->(∀j,j<cs.length->a (i+j)=cs.getD j .nil)->xs=aH ts i a
 | [],[],_,_,_,_,_=>rfl
 |t::ts,.d u c::xs,cs,i,a,h,ha=>by
  simp only[Kd]at h;split at h
  ·split at h
   ·rename_i hu _ cs' hcs;cases h;subst hu;have h0:=ha 0 (Nat.zero_lt_succ _);have ih:=rD ts xs cs' (i+1) a hcs fun j hj=>by
     have:=ha (j+1) (Nat.succ_lt_succ hj);rw[show i+1+j=i+(j+1) by omega,this];rfl
    show _=V.d u (a i)::_;rw[<-ih,show a i=c from h0]
   ·cases h
  ·cases h
def Ae {R:Type} (ts:List Ty) (P:(Nat->C)->KD R->Option R) (F:(Nat->C)->(V->List (Key × O)->Option R)->KD R):OvG R:=fun xs _ K=>match Kd ts xs with
 |some cs=>P (dk cs) (F (dk cs) K)
 |none=>none
theorem Ai {R:Type} {ts:List Ty} {P P0:(Nat->C)->KD R->Option R} {F:(Nat->C)->(V->List (Key × O)->Option R)->KD R} {f:Nat} (o:OvS (X0 gl0)) (N:Nat) (tb:List (Nat × List (Nat × List (Nat × Nat)))) (hs:List (Nat × Hints)) (e:∀a k,P a k=P0 a k)
  (h:∀a K,exF (X0 gl0) (o.ov R) OT (q1Z tb) (Ya hs) N 400 8 f (aH ts 0 a) A0 K=jn (F a K) (P0 a):=by intros;kernel_rfl):GOk (X0 gl0) f (Ae ts P F):=by
 intro xs A Kr r hr;unfold Ae at hr;split at hr
 ·rename_i cs hcs;rw[e,<-AQ (F (dk cs) Kr) (P0 (dk cs)),<-h]at hr;rw[rD ts xs cs 0 (dk cs) hcs fun j _=>by rw[cq];rfl];obtain⟨v,L,h1,h2⟩:=Vo (ok0 gl0) (mo gl0) (o.gS _) (bQ gl0) _ _ _ _ _ _ hr;exact⟨v,L,h1.mono (yA fun _=>rfl),h2⟩
 ·cases hr
def Cc {R:Type} (sa:List Sh) (os:List (Key × OSh)) (P:List C->List Es->KD R->Option R) (F:List C->List Es->(V->List (Key × O)->Option R)->KD R):OvG R:=iH sa os fun ds ms K=>P ds ms (F ds ms K)
theorem Cj {R:Type} {sa:List Sh} {os:List (Key × OSh)} {P P0:List C->List Es->KD R->Option R} {F:List C->List Es->(V->List (Key × O)->Option R)->KD R} {f:Nat} (o:OvS (X0 gl0)) (N:Nat) (tb:List (Nat × List (Nat × List (Nat × Nat)))) (hs:List (Nat × Hints)) (e:∀ds ms k,P ds ms k=P0 ds ms k)
  (h:∀ds ms K,exF (X0 gl0) (o.ov R) OT (q1Z tb) (Ya hs) N 400 8 f (Sh.Dq sa 0 ds) (AR (BS os (Sh.HN sa) 0 ds ms)) K=jn (F ds ms K) (P0 ds ms):=by intros;kernel_rfl):GOk (X0 gl0) f (Cc sa os P F):=by
 refine z0P fun ds ms K r hr=>?_;rw[e,<-AQ (F ds ms K) (P0 ds ms),<-h]at hr;obtain⟨v,L,h1,h2⟩:=Vo (ok0 gl0) (mo gl0) (o.gS _) (bQ gl0) _ _ _ _ _ _ hr;exact⟨v,L,h1,h2⟩
def Vs {R:Type} (N:Nat) (k2:KD R):KD R->KD R:=fun k3 d1 m1=>(bif decide (ao (dk d1 5)<ao (dk d1 3))then(if 0<=ao (dk d1 5)/\ao (dk d1 5)<(↑(aq (au (dk d1 2))):Int)then(k3 [dk d1 0,dk d1 1,dk d1 2,dk d1 3,az (Aj qp ay (ar ay (ao (dk d1 4)*2^min (av 8) 64)) (ar ay (ao (bp (au (dk d1 2)) (av (ao (dk d1 5))) dw)))),az (ar aw (ao (dk d1 5)+1))] [])else none)else(k2 [dk d1 0,dk d1 1,dk d1 4] []))
def bT (a0 a1:C) (k1:KD R):Option R:=bif decide ((↑(aq (au a0)):Int)<=ao a1)then(k1 [az 0,az 0,az 0,az 9] [])else(if 0<=ao a1/\ao a1<(↑(aq (au a0)):Int)then(bif decide (18<=ar aw (ao (bp (au a0) (av (ao a1)) dw)))then(k1 [az 0,az 0,az 0,az 33] [])else(if 0<=ar aw (ao (bp (au a0) (av (ao a1)) dw))/\ar aw (ao (bp (au a0) (av (ao a1)) dw))<18 then(bif decide ((↑(aq (au a0)):Int)<ar aw (ar aw (ao a1+1)+ao (bc (bc (dj Ek) (av (ar aw (ao (bp (au a0) (av (ao a1)) dw))))) 1)))then(k1 [az 0,az 0,az 0,az 9] [])else(if 0<=ar aw (ao a1+1)/\ar aw (ao a1+1)<=ar aw (ar aw (ao a1+1)+ao (bc (bc (dj Ek) (av (ar aw (ao (bp (au a0) (av (ao a1)) dw))))) 1))/\ar aw (ar aw (ao a1+1)+ao (bc (bc (dj Ek) (av (ar aw (ao (bp (au a0) (av (ao a1)) dw))))) 1))<=(↑(aq (au a0)):Int)then(jn (fun d1 m1=>(k1 [dk d1 0,dk d1 2,dk d1 1,az 0] [])) (fun k2=>(Ac N (Vs N k2) [az (ar aw (ao (bp (au a0) (av (ao a1)) dw))),az (ar aw (ar aw (ao a1+1)+ao (bc (bc (dj Ek) (av (ar aw (ao (bp (au a0) (av (ao a1)) dw))))) 1))),bj (cut (au a0) (ar aw (ao a1+1)) (ar aw (ar aw (ao a1+1)+ao (bc (bc (dj Ek) (av (ar aw (ao (bp (au a0) (av (ao a1)) dw))))) 1)))),az (↑(aq (cut (au a0) (ar aw (ao a1+1)) (ar aw (ar aw (ao a1+1)+ao (bc (bc (dj Ek) (av (ar aw (ao (bp (au a0) (av (ao a1)) dw))))) 1))))):Int),az 0,az 0] [])))else none))else none))else none)
def RN:=lid "" (@bT R N)
theorem uE {R N a0 a1 k}:@RN R N a0 a1 k=bT N a0 a1 k:=by unfold RN;rw[AV]
def bS:OvG R:=Ae [.slice 1 (.int .u8),.int .i64] (Bq (RN N)) fun a K d1 m1=>K (V.tup
 [V.d (br aw) (dk d1 0),V.d (br ay) (dk d1 1),V.d (br aw) (dk d1 2),
  V.d (br aw) (dk d1 3)]) []
theorem uD:okX 62 (@bS R N):=Ai AW N [] [(62,[([1,0,1,1,1,1,1,1],(AX [4,6] [(5,.d (.int .u64))])),
  ([4,1,0,1,1,1,1,1,1],(AX [4,6,36,37] [(5,.d (.int .u64)),(38,.d (.int .i64))])),
  ([9],(Af [(4,.d (.int .i64)),(5,.d (.int .u64)),(6,.d (.int .i64)),(7,.d (.int .i64))]))])] (fun _ _=>uE)
def fQ {R:Type} (N:Nat) (a0:C) (k1:KD R):Option R:=bif decide (ao a0=1)then(k1 [az 8] [])else(jn (fun d1 m1=>(bif cz (dk d1 1)then(k1 [az 1] [])else(jn (fun d2 m2=>(bif cz (dk d2 0)then(k1 [az 2] [])else(k1 [az 0] []))) (fun k2=>(bif decide (ao (dk d1 0)=11)then(k2 [Dt (cg (decide (ao (dk d1 0)=11))) true] [])else(k2 [cg (decide (ao (dk d1 0)=12))] [])))))) (fun k2=>(bif decide (ao a0=2)then(k2 [a0,Dt (cg (decide (ao a0=2))) true] [])else(k2 [a0,cg (decide (ao a0=16))] []))))
def Mg:=lid "" (@fQ R N)
theorem z7 {R N a0 k}:@Mg R N a0 k=fQ N a0 k:=by unfold Mg;rw[AV]
def q9k:OvG R:=Ae [.int .i64] (Bw (Mg N)) (BD (br aw))
theorem q8:okX 74 (@q9k R N):=Ai AW N [] [(74,[([1,0,3,1,4,1,0,1],(AX [3] [(6,.d .bool)])),
  ([1,0,3,1,3,1,4,1,0,1],(Af [(9,.d .bool)])),
  ([9],(Af [(2,.d (.int .i64))]))])] (fun _ _=>z7)
def XK (k2:KD R):KD R->KD R:=fun k3 d2 m2=>(Mg N (dk d2 2) (fun d3 m3=>(bif decide (ao (dk d2 4)<ao (dk d3 0))then(if 0<=ar aw (ar aw (ao (dk d2 1)+1)+ao (dk d2 4))/\ar aw (ar aw (ao (dk d2 1)+1)+ao (dk d2 4))<(↑(aq (au (dk d2 0))):Int)then(k3 [dk d2 0,dk d2 1,dk d2 2,az (ar ay (ar ay (ao (dk d2 3)*256)+ar ay (ao (bp (au (dk d2 0)) (av (ar aw (ar aw (ao (dk d2 1)+1)+ao (dk d2 4)))) dw)))),az (ar aw (ao (dk d2 4)+1))] [])else none)else(k2 [dk d2 2,dk d2 3] []))))
def gQ (a0 a1:C) (k1:KD R):Option R:=bif decide ((↑(aq (au a0)):Int)<=ao a1)then(k1 [az 0,az 0,az 9] [])else(if 0<=ao a1/\ao a1<(↑(aq (au a0)):Int)then(bif decide (17<ar aw (ao (bp (au a0) (av (ao a1)) dw)))then(k1 [az 0,az 0,az 33] [])else(Mg N (az (ar aw (ao (bp (au a0) (av (ao a1)) dw)))) (fun d1 m1=>(bif decide ((↑(aq (au a0)):Int)<ar aw (ar aw (ao a1+1)+ao (dk d1 0)))then(k1 [az 0,az 0,az 9] [])else(jn (fun d2 m2=>(k1 [dk d2 0,dk d2 1,az 0] [])) (fun k2=>(Ac N (XK N k2) [a0,a1,az (ar aw (ao (bp (au a0) (av (ao a1)) dw))),az 0,az 0] [])))))))else none)
def PF:=lid "" (@gQ R N)
theorem c6 {R N a0 a1 k}:@PF R N a0 a1 k=gQ N a0 a1 k:=by unfold PF;rw[AV]
def z0k:OvG R:=Ae [.slice 1 (.int .u8),.int .i64] (Bq (PF N)) fun a K d1 m1=>K (V.tup [V.d (br aw) (dk d1 0),V.d (br ay) (dk d1 1),V.d (br aw) (dk d1 2)]) []
theorem z0l:okX 73 (@z0k R N):=Ai (AH (q8 N) <| AW) N [] [(73,[([1,0,1,1,1,1,1,1],(AX [7] [(8,.d (.int .u64))])),
  ([4,1,0,1,1,1,1,1,1],(AX [0,1,7] [(8,.d (.int .u64)),(9,.d (.int .i64))])),
  ([9],(Af [(4,.d (.int .i64)),(5,.d (.int .u64)),(6,.d (.int .i64))]))])] (fun _ _=>c6)
section
variable {R:Type} {N:Nat}
theorem KT {i:Nat} (h:i<4611686018427387904):IntKind.i64.wrap ((i:Int)+1)=((i+1:Nat):Int):=by rw[dh _ (by omega)];omega
theorem qE {b:Int} (h0:0<=b) (h1:b<=255):IntKind.u64.wrap b=b:=by
 have m1:IntKind.u64.min=0:=by decide
 have m2:IntKind.u64.max=18446744073709551615:=by decide
 exact Lj (by omega) (by omega)
theorem AE:(∀{α:Type} {a b:α},cond true a b=a)/\(∀{α:Type} {a b:α},cond false a b=b)/\(∀{h:Decidable True},@decide True h=true)/\(∀{h:Decidable False},@decide False h=false)/\(∀{α:Type} {_:Decidable True} {a b:α},(if True then a else b)=a)/\(∀{α:Type} {_:Decidable False} {a b:α},(if False then a else b)=b)/\(!true)=false/\(!false)=true:=⟨@fun _ _ _=>rfl,@fun _ _ _=>rfl,@fun _=>decide_true _,@fun _=>decide_false _,@fun _ _ _ _=>if_pos trivial,@fun _ _ _ _=>if_neg id,rfl,rfl⟩
theorem uC (p:List C) (hw:C.wf (.slice 1 (.int .u8)) (.slice p)) (i:Nat) (hl:p.length<=256) (hi:i<=100000) (hN:20<N) (k:KD R):RN N (.slice p) (.int i) k=
  k [.int (if Ar p i=0 then bN p i else 0),.int (if Ar p i=0 then CA p (i+1) (Ay (bN p i))else 0),.int (if Ar p i=0 then((i+1+Ay (bN p i):Nat):Int)else 0),.int (Ar p i)] []:=by
 rw[uE];unfold bT;simp only[AJ,AB];by_cases h1:p.length<=i
 ·have h1':(p.length:Int)<=(i:Int):=by omega
  have e:Ar p i=9:=by unfold Ar;rw[if_pos h1]
  simp only[h1',e,AE,show ¬(9:Int)=0 by decide]
 have h1':¬(p.length:Int)<=(i:Int):=by omega
 have c1:0<=(i:Int)/\(i:Int)<(p.length:Int):=by omega
 obtain⟨b1,b2,b3⟩:=Hg hw (i:=i) (by omega);have w1:IntKind.i64.wrap (bN p i)=bN p i:=dh _ (by omega);simp only[h1',c1,and_self,AE,bh,b1,AB,w1];by_cases h2:18<=bN p i
 ·have e:Ar p i=33:=by unfold Ar;rw[if_neg h1,if_pos h2]
  simp only[h2,e,AE,show ¬(33:Int)=0 by decide]
 have hm:bc (bc (dj Ek) (bN p i).toNat) 1= .int (Ay (bN p i)):=by
  have:=q6l (bN p i).toNat (by omega)
  rwa [gy b2]at this
 have m8:=Jz (bN p i);have c2:0<=bN p i/\bN p i<18:=by omega
 simp only[h2,hm,c2,AB,and_self,AE];generalize hmm:Ay (bN p i)=m at hm m8;have w2:IntKind.i64.wrap ((i:Int)+1)=((i+1:Nat):Int):=KT (by omega);have w3:IntKind.i64.wrap (((i+1:Nat):Int)+(m:Int))=((i+1+m:Nat):Int):=by rw[dh _ (by omega)];omega
 simp only[w2,w3];by_cases h3:p.length<i+1+m
 ·have h3':(p.length:Int)<((i+1+m:Nat):Int):=by omega
  have e:Ar p i=9:=by unfold Ar;rw[if_neg h1,if_neg h2,hmm,if_pos h3]
  simp only[h3',e,AE,show ¬(9:Int)=0 by decide]
 have h3':¬(p.length:Int)<((i+1+m:Nat):Int):=by omega
 have e:Ar p i=0:=by unfold Ar;rw[if_neg h1,if_neg h2,hmm,if_neg h3]
 have c3:0<=((i+1:Nat):Int)/\((i+1:Nat):Int)<=((i+1+m:Nat):Int)/\((i+1+m:Nat):Int)<=(p.length:Int):=by omega
 have hql:(cut p ((i+1:Nat):Int) ((i+1+m:Nat):Int)).length=m:=by unfold cut;simp;omega
 have hqe:∀j,j<m->(cut p ((i+1:Nat):Int) ((i+1+m:Nat):Int)).getD j .nil= .int (bN p (i+1+j)):=by
  intro j hj;rw[<-(Hg hw (i:=i+1+j) (by omega)).1];unfold cut;simp[bn,List.getElem?_drop,List.getElem?_take,hj]
 simp only[h3',c3,e,and_self,AE,AQ];generalize cut p ((i+1:Nat):Int) ((i+1+m:Nat):Int)=q at hql hqe;rw[hql];refine(Dd (F:=Vs N _) (fun j=>[.int (bN p i),.int ((i+1+m:Nat):Int),.slice q,.int m,.int (CA p (i+1) j),.int j]) (fun _=>[]) m _ (fun j hj rec=>?_) (fun rec=>?_) (N:=N) (by omega)).trans rfl
 ·obtain⟨a1,a2,a3⟩:=Ls hw (i:=i+1) (k:=j) (by omega) (by omega);obtain⟨_,d2,d3⟩:=Hg hw (i:=i+1+j) (by omega);have e1:(j:Int)<(m:Int):=by omega
  have e2:0<=(j:Int)/\(j:Int)<(q.length:Int):=by omega
  have e3:((2:Int)^min (av 8) 64)=256:=by decide
  have e4:IntKind.u64.wrap (CA p (i+1) j*256)=CA p (i+1) j*256:=by
   have:=a3 (by omega);have m1:IntKind.u64.min=0:=by decide
   have m2:IntKind.u64.max=18446744073709551615:=by decide
   exact Lj (by omega) (by omega)
  unfold Vs;simp only[AF,AL,AP,AU,Ab,Av,AB,AJ,e1,e2,AE,and_self,bh,hqe j hj,e3,e4,qE d2 d3,z0j a1 (a3 (by omega)) d2 d3,KT (show j<4611686018427387904 by omega)]
  all_goals rfl
 ·unfold Vs;simp only[AF,AL,AP,AU,Ab,Av,AB,fb,AE]
  all_goals rfl
theorem Ws (o:C) (k:KD R):Mg N o k=k [.int (Ay o.toInt)] []:=by
 rw[z7];unfold fQ Ay;by_cases h1:o.toInt=1
 ·simp[h1]
 by_cases h2:o.toInt=2
 ·simp[h2,AQ,dk,Dt,cz]
 by_cases h3:o.toInt=16
 ·simp[h3,AQ,dk,Dt,cz]
 by_cases h4:o.toInt=11
 ·simp[h4,AQ,dk,Dt,cz]
 by_cases h5:o.toInt=12 <;> simp[h1,h2,h3,h4,h5,AQ,dk,Dt,cz]
theorem c5 (p:List C) (hw:C.wf (.slice 1 (.int .u8)) (.slice p)) (i:Nat) (hl:p.length<=256) (hi:i<=100000) (hN:20<N) (k:KD R):PF N (.slice p) (.int i) k=
  k [.int (if Ar p i=0 then bN p i else 0),.int (if Ar p i=0 then CA p (i+1) (Ay (bN p i))else 0),.int (Ar p i)] []:=by
 rw[c6];unfold gQ;simp only[AJ,AB];by_cases h1:p.length<=i
 ·have h1':(p.length:Int)<=(i:Int):=by omega
  have e:Ar p i=9:=by unfold Ar;rw[if_pos h1]
  simp only[h1',e,AE,show ¬(9:Int)=0 by decide]
 have h1':¬(p.length:Int)<=(i:Int):=by omega
 have c1:0<=(i:Int)/\(i:Int)<(p.length:Int):=by omega
 obtain⟨b1,b2,b3⟩:=Hg hw (i:=i) (by omega);have w1:IntKind.i64.wrap (bN p i)=bN p i:=dh _ (by omega);simp only[h1',c1,and_self,AE,bh,b1,AB,w1];by_cases h2:18<=bN p i
 ·have e:Ar p i=33:=by unfold Ar;rw[if_neg h1,if_pos h2]
  have h2':17<bN p i:=by omega
  simp only[h2',e,AE,show ¬(33:Int)=0 by decide]
 have h2':¬17<bN p i:=by omega
 have m8:=Jz (bN p i);obtain⟨m,hmm⟩:∃m,Ay (bN p i)=m:=⟨_,rfl⟩;rw[hmm]at m8;simp only[h2',AE,Ws,AF,AB,hmm];have w2:IntKind.i64.wrap ((i:Int)+1)=((i+1:Nat):Int):=KT (by omega);have w3:IntKind.i64.wrap (((i+1:Nat):Int)+(m:Int))=((i+1+m:Nat):Int):=by rw[dh _ (by omega)];omega
 simp only[w2,w3];by_cases h3:p.length<i+1+m
 ·have h3':(p.length:Int)<((i+1+m:Nat):Int):=by omega
  have e:Ar p i=9:=by unfold Ar;rw[if_neg h1,if_neg h2,hmm,if_pos h3]
  simp only[h3',e,AE,show ¬(9:Int)=0 by decide]
 have h3':¬(p.length:Int)<((i+1+m:Nat):Int):=by omega
 have e:Ar p i=0:=by unfold Ar;rw[if_neg h1,if_neg h2,hmm,if_neg h3]
 simp only[h3',e,AE,AQ];refine(Dd (F:=XK N _) (fun j=>[.slice p,.int i,.int (bN p i),.int (CA p (i+1) j),.int j]) (fun _=>[]) m _ (fun j hj rec=>?_) (fun rec=>?_) (N:=N) (by omega)).trans rfl
 ·obtain⟨a1,a2,a3⟩:=Ls hw (i:=i+1) (k:=j) (by omega) (by omega);obtain⟨d1,d2,d3⟩:=Hg hw (i:=i+1+j) (by omega);have a4:=a3 (by omega);have m1:IntKind.u64.min=0:=by decide
  have m2:IntKind.u64.max=18446744073709551615:=by decide
  have e1:(j:Int)<(m:Int):=by omega
  have w4:IntKind.i64.wrap (((i+1:Nat):Int)+(j:Int))=((i+1+j:Nat):Int):=by rw[dh _ (by omega)];omega
  have e2:0<=((i+1+j:Nat):Int)/\((i+1+j:Nat):Int)<(p.length:Int):=by omega
  have e4:IntKind.u64.wrap (CA p (i+1) j*256)=CA p (i+1) j*256:=Lj (by omega) (by omega);have e5:IntKind.u64.wrap (CA p (i+1) j*256+bN p (i+1+j))=CA p (i+1) j*256+bN p (i+1+j):=Lj (by omega) (by omega);unfold XK;simp only[AF,AL,AP,AU,Ab,AB,AJ,Ws,hmm,w2,w4,e1,e2,AE,and_self,bh,d1,e4,qE d2 d3,e5,KT (show j<4611686018427387904 by omega)]
  all_goals rfl
 ·unfold XK;simp only[AF,AL,AP,AU,Ab,AB,Ws,hmm,fb,AE]
  all_goals rfl
theorem q4a (_:GF gl0) (A:Key->Option O) (p:List C) (at_:Nat) (hl:p.length<=256) (hat:at_<=100000):Bg (X0 gl0) 62 [.d (.slice 1 (.int .u8)) (.slice p),.d (.int .i64) (.int at_)] A (uG p at_) []:=by
 refine VZ (ts:=[.slice 1 (.int .u8),.int .i64]) (cs:=[.slice p,.int at_]) fun W=>?_;refine XE (uD 21) ?_;show bS 21 [.d (.slice 1 (.int .u8)) (.slice p),.d (.int .i64) (.int at_)] A kR=_;simp only[bS,Ae,Kd,and_self,if_true,AF,AL,AP,AU,Ab,Bw,Bq,Eb,BD,Gz];rw[uC p (W 0 _ _ rfl rfl) at_ hl hat (by omega)];rfl
end
def Zi {R:Type} (N:Nat) (k1:KD R) (k2:KD R):KD R->KD R:=fun k3 d2 m2=>(bif decide (ao (dk d2 2)<ao (dk d2 1))then(if 0<=ao (dk d2 2)/\ao (dk d2 2)<(↑(aq (au (dk d2 0))):Int)then(bif DM ei (dE ei (dm m2 0))then(bif Ie (dE ei (dm m2 0)) (bp (au (dk d2 0)) (av (ao (dk d2 2))) dw)then(bif !cz (Kl (dE ei (dm m2 0)) (bp (au (dk d2 0)) (av (ao (dk d2 2))) dw))then(k1 [az 10] [])else(if BV ei (dE ei (dm m2 0))=true then(k3 [dk d2 0,dk d2 1,az (ar aw (ao (dk d2 2)+1))] [unE (dE ei (dm m2 0))])else none))else(k1 [az 10] []))else none)else none)else(k2 [] []))
def Zj (k1:KD R) (k2:KD R):KD R->KD R:=fun k3 d1 m1=>(bif decide (ao (dk d1 2)<(↑(aq (au (dk d1 0))):Int))then(RN N (dk d1 0) (dk d1 2) (fun d2 m2=>(bif !decide (ao (dk d2 3)=0)then(k1 [dk d2 3] [])else(jn (fun d3 m3=>(jn (fun d4 m4=>(bif bo (aq (au (dk d4 2))) (aq (au (dk d4 2)))then(if BV ei (dE ei (dm m4 0))=true then(k3 [dk d4 0,bj (au (dk d4 2)),dk d4 1] [unE (dE ei (dm m4 0))])else none)else none)) (fun k4=>(bif cz (dk d3 4)then(bif bo (aq (au (dk d3 3))) (aq (au (dk d3 3)))then(if(aq (au (dk d3 3))+1)*8<=140737488355328/\aq (au (dk d3 3))+1<=9223372036854775807 then(bif bo (aq (au (dk d3 3))+1) (aq (au (dk d3 3)++[dk d3 1]))then(if BV ei (dE ei (dm m3 0))=true then(k4 [dk d3 0,dk d3 2,bj (au (dk d3 3)++[dk d3 1])] [unE (dE ei (dm m3 0))])else none)else none)else none)else none)else(bif bo (aq (au (dk d3 3))) (aq (au (dk d3 3)))then(if BV ei (dE ei (dm m3 0))=true then(k4 [dk d3 0,dk d3 2,bj (au (dk d3 3))] [unE (dE ei (dm m3 0))])else none)else none))))) (fun k4=>(bif decide (ao (dk d2 0)=11)then(bif bo (aq (au (dk d1 1))) (aq (au (dk d1 1)))then(if BV ei (Gg (dE ei (dm m1 0)) (az (ar ay (ao (dk d1 2)))) (V.d ei (cg true)))=true then(k4 [dk d1 0,dk d2 1,dk d2 2,bj (au (dk d1 1)),cg true] [unE (Gg (dE ei (dm m1 0)) (az (ar ay (ao (dk d1 2)))) (V.d ei (cg true)))])else none)else none)else(bif bo (aq (au (dk d1 1))) (aq (au (dk d1 1)))then(if BV ei (Gg (dE ei (dm m1 0)) (az (ar ay (ao (dk d1 2)))) (V.d ei (cg true)))=true then(k4 [dk d1 0,dk d2 1,dk d2 2,bj (au (dk d1 1)),cg (decide (ao (dk d2 0)=12))] [unE (Gg (dE ei (dm m1 0)) (az (ar ay (ao (dk d1 2)))) (V.d ei (cg true)))])else none)else none)))))))else(bif bo (aq (au (dk d1 1))) (aq (au (dk d1 1)))then(if BV ei (dE ei (dm m1 0))=true then(k2 [bj (au (dk d1 1))] [unE (dE ei (dm m1 0))])else none)else none))
def Zk (a0:C) (k1:KD R):Option R:=bif decide (256<(↑(aq (au a0)):Int))then(k1 [az 1] [])else(jn (fun d1 m1=>(jn (fun d2 m2=>(k1 [az 0] [])) (fun k2=>(if BV ei (dE ei (dm m1 0))=true then(Ac N (Zi N k1 k2) [bj (au (dk d1 0)),az (↑(aq (au (dk d1 0))):Int),az 0] [unE (dE ei (dm m1 0))])else none)))) (fun k2=>(Ac N (Zj N k1 k2) [a0,bj [],az 0] [unE []])))
def VQ:=lid "" (@Zk R N)
theorem qL {R N a0 k}:@VQ R N a0 k=Zk N a0 k:=by unfold VQ;rw[AV]
def Zh:OvG R:=Ae [.slice 1 (.int .u8)] (Bw (VQ N)) (BD (br aw))
theorem q3U:okX 33 (@Zh R N):=Ai (AH (uD N) <| AW) N [] [(33,[([1,0,1,1,1,1],(AX [3] [(4,.sl 8 (.int .u64) 5004)])),
  ([4,1,0,1,1,1,1],(AX [0,3] [(4,.sl 8 (.int .u64) 5004),(5,.d (.int .i64))])),
  ([0,0,1,1,1,4,1,5,4,1,0,1,1,1,1],(AX [0,3,7,8] [(4,.sl 8 (.int .u64) 5004),(39,.d .bool)])),
  ([1,0,1,1,1,4,1,5,4,1,0,1,1,1,1],(AX [0,3,8] [(4,.sl 8 (.int .u64) 5004)])),
  ([1,0,1,1,1,1,1],(Af [])),
  ([4,1,0,1,1,1,1,1],(AX [3,45,46] [(47,.d (.int .i64))])),
  ([9],(Af [(2,.d (.int .i64))]))])] (fun _ _=>qL)
def TG (a0:C) (k1:KD R) (k2:KD R):KD R->KD R:=fun k3 d2 m2=>(bif decide (ao (dk d2 4)<(↑(aq (au (dk d2 0))):Int))then(jn (fun d3 m3=>(if ct (av (↑(aq (au a0)):Int)) ei=ct (av (↑(aq (au a0)):Int)) ei then(k3 [dk d3 0,az (↑(av (ao (dk d3 1))):Int),az (↑(av (ao (dk d3 2))):Int),az (↑(av (ao (dk d3 3))):Int),az (ar aw (ao (dk d3 4)+1)),dk d3 5] [])else none)) (fun k4=>(jn (fun d3 m3=>(bif cz (dk d3 5)then(if ct (av (↑(aq (au a0)):Int)) ei=ct (av (↑(aq (au a0)):Int)) ei then(k4 [dk d3 0,az (↑(av (ao (dk d3 1))):Int),az (↑(av (ao (dk d3 2))):Int),az (↑(av (ao (dk d3 3))):Int),dk d3 4,dk d3 6] [])else none)else(PF N (dk d3 0) (dk d3 4) (fun d4 m4=>(jn (fun d5 m5=>(bif cz (dk d5 5)then(k1 [az 10] [])else(if ct (av (↑(aq (au a0)):Int)) ei=ct (av (↑(aq (au a0)):Int)) ei then(k4 [dk d5 0,az (↑(av (ao (dk d5 1))):Int),az (↑(av (ao (dk d5 2))):Int),az (↑(av (ao (dk d5 3))):Int),dk d5 4,dk d5 6] [])else none))) (fun k5=>(bif decide (ar ay (↑(aq (au (dk d3 0))):Int)<=ao (dk d4 1))then(if ct (av (↑(aq (au a0)):Int)) ei=ct (av (↑(aq (au a0)):Int)) ei then(k5 [dk d3 0,az (↑(av (ao (dk d3 1))):Int),az (↑(av (ao (dk d3 2))):Int),az (↑(av (ao (dk d3 3))):Int),dk d3 4,cg true,dk d3 6] [])else none)else(if 0<=ao (dk d4 1)/\ao (dk d4 1)<(↑(av (ao (dk d3 2))):Int)then(if ct (av (↑(aq (au a0)):Int)) ei=ct (av (↑(aq (au a0)):Int)) ei then(k5 [dk d3 0,az (↑(av (ao (dk d3 1))):Int),az (↑(av (ao (dk d3 2))):Int),az (↑(av (ao (dk d3 3))):Int),dk d3 4,cg !cz (bc (dk d3 6) (av (ao (dk d3 1))+av (ao (dk d4 1)))),dk d3 6] [])else none)else none)))))))) (fun k5=>(if 0<=ao (dk d2 4)/\ao (dk d2 4)<(↑(av (ao (dk d2 2))):Int)then(bif !cz (bc (dk d2 5) (av (ao (dk d2 1))+av (ao (dk d2 4))))then(if ct (av (↑(aq (au a0)):Int)) ei=ct (av (↑(aq (au a0)):Int)) ei then(k5 [dk d2 0,az (↑(av (ao (dk d2 1))):Int),az (↑(av (ao (dk d2 2))):Int),az (↑(av (ao (dk d2 3))):Int),dk d2 4,cg true,dk d2 5] [])else none)else(if 0<=ao (dk d2 4)/\ao (dk d2 4)<(↑(aq (au (dk d2 0))):Int)then(bif !decide (ao (bp (au (dk d2 0)) (av (ao (dk d2 4))) dw)=11)then(if 0<=ao (dk d2 4)/\ao (dk d2 4)<(↑(aq (au (dk d2 0))):Int)then(if ct (av (↑(aq (au a0)):Int)) ei=ct (av (↑(aq (au a0)):Int)) ei then(k5 [dk d2 0,az (↑(av (ao (dk d2 1))):Int),az (↑(av (ao (dk d2 2))):Int),az (↑(av (ao (dk d2 3))):Int),dk d2 4,cg !decide (ao (bp (au (dk d2 0)) (av (ao (dk d2 4))) dw)=12),dk d2 5] [])else none)else none)else(if ct (av (↑(aq (au a0)):Int)) ei=ct (av (↑(aq (au a0)):Int)) ei then(k5 [dk d2 0,az (↑(av (ao (dk d2 1))):Int),az (↑(av (ao (dk d2 2))):Int),az (↑(av (ao (dk d2 3))):Int),dk d2 4,cg false,dk d2 5] [])else none))else none))else none)))))else(k2 [] []))
def iO (a0:C) (k1:KD R) (k2:KD R):KD R->KD R:=fun k3 d1 m1=>(bif decide (ao (dk d1 4)<(↑(aq (au (dk d1 0))):Int))then(PF N (dk d1 0) (dk d1 4) (fun d2 m2=>(bif !decide (ao (dk d2 2)=0)then(k1 [dk d2 2] [])else(if 0<=ao (dk d1 4)/\ao (dk d1 4)<(↑(av (ao (dk d1 2))):Int)then(Mg N (dk d2 0) (fun d3 m3=>(if ct (av (↑(aq (au a0)):Int)) ei=ct (av (↑(aq (au a0)):Int)) ei then(k3 [dk d1 0,az (↑(av (ao (dk d1 1))):Int),az (↑(av (ao (dk d1 2))):Int),az (↑(av (ao (dk d1 3))):Int),az (ar aw (ar aw (ao (dk d1 4)+1)+ao (dk d3 0))),db (dk d1 5) (av (ao (dk d1 1))+av (ao (dk d1 4))) (cg true)] [])else none)))else none))))else(if ct (av (↑(aq (au a0)):Int)) ei=ct (av (↑(aq (au a0)):Int)) ei then(k2 [dk d1 0,az (↑(av (ao (dk d1 1))):Int),az (↑(av (ao (dk d1 2))):Int),az (↑(av (ao (dk d1 3))):Int),dk d1 5] [])else none))
def iP (a0:C) (k1:KD R):Option R:=bif decide (256<(↑(aq (au a0)):Int))then(k1 [az 1] [])else(if 0<=(↑(aq (au a0)):Int)/\(↑(aq (au a0)):Int)<=(↑(aq (au a0)):Int)/\(↑(aq (au a0)):Int)<=9223372036854775807/\av (↑(aq (au a0)):Int)*1<=140737488355328 then(jn (fun d1 m1=>(jn (fun d2 m2=>(k1 [az 0] [])) (fun k2=>(if ct (av (↑(aq (au a0)):Int)) ei=ct (av (↑(aq (au a0)):Int)) ei then(Ac N (TG N a0 k1 k2) [dk d1 0,az (↑(av (ao (dk d1 1))):Int),az (↑(av (ao (dk d1 2))):Int),az (↑(av (ao (dk d1 3))):Int),az 0,dk d1 4] [])else none)))) (fun k2=>(if ct (av (↑(aq (au a0)):Int)) ei=ct (av (↑(aq (au a0)):Int)) ei then(Ac N (iO N a0 k1 k2) [a0,az 0,az (↑(av (↑(aq (au a0)):Int)):Int),az (↑(av (↑(aq (au a0)):Int)):Int),az 0,dj (bf (av (↑(aq (au a0)):Int)) (AI ei))] [])else none)))else none)
def Xb:=lid "" (@iP R N)
theorem W9 {R N a0 k}:@Xb R N a0 k=iP N a0 k:=by unfold Xb;rw[AV]
def iM:OvG R:=Ae [.slice 1 (.int .u8)] (Bw (Xb N)) (BD (br aw))
theorem z03:okX 47 (@iM R N):=Ai (AH (z0l N) <| AH (q8 N) <| AW) N [] [(47,[([0,1,1,1,1],(AX [0,3] [])),
  ([4,0,1,1,1,1],(AX [0,3] [(4,.d (.int .i64))])),
  ([1,0,1,1,1,1,1],(Af [])),
  ([4,1,0,1,1,1,1,1],(AX [0,3] [(8,.d (.int .i64))])),
  ([0,1,5,4,1,0,1,1,1,1,1],(AX [0,3,8] [])),
  ([0,0,4,0,1,5,4,1,0,1,1,1,1,1],(AX [0,3,8] [(64,.d .bool)])),
  ([0,1,1,4,0,1,5,4,1,0,1,1,1,1,1],(AX [0,3,8] [(83,.d .bool)])),
  ([9],(Af [(2,.d (.int .i64))]))])] (fun _ _=>W9)
section
variable {R:Type} {N:Nat}
def bE (j:Nat):C × C:=(.int j,.bool true)
theorem pL (x:C) (j:Nat):C.beq x (.int j)=decide (x= .int (j:Int)):=by rw[Bool.eq_iff_iff,C.beq_iff,decide_eq_true_eq]
theorem cT (c:C):∀bs:List Nat,Ez (bs.map bE) c=(FH bs c).toBool
 | []=>rfl
 |j::bs=>by
  have ih:=cT c bs;simp only[FH,cz]at ih;simp only[ed,bE,Ez,FH,cz,List.any_cons,pL];rw[ih];cases decide (c= .int (j:Int)) <;> rfl
theorem vN (c:C):∀bs:List Nat,Ez (bs.map bE) c=true->getM (bs.map bE) c= .bool true
 | [],h=>by cases h
 |j::bs,h=>by
  have ih:=vN c bs;simp only[ed,bE,Ez,getM]at ih h ⊢;cases hb:C.beq c (.int j)
  ·rw[hb]at h;simp only[cond_false]at h ⊢;exact ih h
  ·rfl
theorem Xa (i:Nat):∀bs:List Nat,i∉bs->Gg (dE ei (bs.map bE)) (.int i) (V.d ei (.bool true))=dE ei ((bs++[i]).map bE)
 | [],_=>rfl
 |j::bs,h=>by
  have ih:=Xa i bs fun x=>h (List.mem_cons_of_mem _ x);have e:C.beq (.int (i:Int)) (.int (j:Int))=false:=by
   rw[pL,decide_eq_false_iff_not];intro x;injection x with x;exact h (by rw[show i=j by omega];exact List.mem_cons_self)
  simp only[dE,ed,List.map_append,bE,Gg,List.cons_append]at ih ⊢;rw[e];simp only[fj,if_false];rw[ih]
theorem QK {i:Nat} (h:i<=100000):IntKind.u64.wrap (i:Int)=i:=by
 have m1:IntKind.u64.min=0:=by decide
 have m2:IntKind.u64.max=18446744073709551615:=by decide
 exact Lj (by omega) (by omega)
theorem Nz (m:Es):dm [m] 0=m:=rfl
theorem qN {p:List C} (h0:¬256<p.length) {bs:List Nat} (h:(0,bs)=EP p p.length 0 []):Cn p=if(FM p bs).all (fun c=>(FH bs c).toBool)then 0 else 10:=by
 unfold Cn;rw[if_neg h0,<-h,if_neg (by simp)]
theorem qM {p:List C} (h0:¬256<p.length) {bs:List Nat} {e:Int} (he:e≠0) (h:EP p p.length 0 []=(e,bs)):Cn p=e:=by
 unfold Cn;rw[if_neg h0,h,if_pos he]
theorem q3T (p:List C) (hw:C.wf (.slice 1 (.int .u8)) (.slice p)) (hN:1000<N) (k:KD R):VQ N (.slice p) k=k [.int (Cn p)] []:=by
 rw[qL];unfold Zk;simp only[AJ];by_cases h0:256<p.length
 ·have h0':(256:Int)<(p.length:Int):=by omega
  have e:Cn p=1:=by unfold Cn;rw[if_pos h0]
  simp only[h0',e,AE]
 have h0':¬(256:Int)<(p.length:Int):=by omega
 simp only[h0',AE,AQ]
 refine Hr (F:=Zj N k _) (fun x:Nat × List Nat=>[.slice p,.slice (FM p x.2),.int x.1]) (fun x=>[x.2.map bE]) (fun x=>p.length-x.1)
  (fun x=>x.1<=p.length/\x.2.length<=x.1/\(∀j∈x.2,j<x.1)/\EP p (p.length-x.1) x.1 x.2=EP p p.length 0 []) (fun _=>k [.int (Cn p)] []) ?_ N (0,[]) ⟨dx _,ca _,(fun _ h=>nomatch h),rfl⟩ (by show p.length-0<N;omega)
 rintro⟨i,bs⟩ ⟨hi,hb,hj,hS⟩ rec zd;dsimp only at hi hb hj hS zd;have hln:=q8j p bs;unfold Zj;by_cases hlt:i<p.length
 ·have zl:(i:Int)<(p.length:Int):=by omega
  obtain⟨s1,s2⟩:=q1q hlt hS;simp only[AF,AL,AP,AU,AB,AJ,zl,AE,uC p hw i (show p.length<=256 by omega) (show i<=100000 by omega) (show 20<N by omega)];by_cases he:Ar p i=0
  ·obtain⟨q1,q2⟩:=s2 he;have hbi:i∉bs:=fun x=>Nat.lt_irrefl _ (hj _ x)
   have hr:=zd (i+1+Ay (bN p i),bs++[i]) ⟨q1,by show(bs++[i]).length<=i+1+Ay (bN p i);simp;omega,fun j h=>by
    show j<i+1+Ay (bN p i);rcases dy.1 h with h|h
    ·have:=hj _ h;omega
    ·rw[ft.1 h];omega,q2⟩ (by show p.length-(i+1+Ay (bN p i))<p.length-i;omega)
   have g1:((FM p bs).length+1)*8<=140737488355328/\(FM p bs).length+1<=9223372036854775807:=by omega
   rw[q8k]at hr;by_cases l1:bN p i=11
   ·rw[if_pos (by simp[HH,l1])]at hr;simp only[he,AQ,l1,Nz,QK (show i<=100000 by omega),Xa i bs hbi,DN,EF,bw,Ah,AB,AJ,AF,AL,AP,AU,Ab,AE,g1,and_self,bx,cn,df,cq];rw[<-hr,l1];unfold toN;rw[l1]
   ·by_cases l2:bN p i=12
    ·rw[if_pos (by simp[HH,l2])]at hr;simp only[he,AQ,l2,show ¬(12:Int)=11 by decide,Nz,QK (show i<=100000 by omega),Xa i bs hbi,DN,EF,bw,Ah,AB,AJ,AF,AL,AP,AU,Ab,AE,g1,and_self,bx,cn,df,cq];rw[<-hr,l2];unfold toN;rw[l2]
    ·rw[if_neg (by simp[HH,l1,l2])]at hr;simp only[he,AQ,l1,l2,Nz,QK (show i<=100000 by omega),Xa i bs hbi,DN,EF,bw,Ah,AB,AJ,AF,AL,AP,AU,Ab,AE,hr]
  ·rw[qM h0 he (s1 he)];simp only[he,AE]
 ·have zl:¬(i:Int)<(p.length:Int):=by omega
  obtain rfl:i=p.length:=by omega
  rw[q1p (ca _)]at hS;simp only[AF,AL,AP,AB,AJ,zl,AE,bw,Nz,DN,EF];rw[qN h0 hS];generalize hL:FM p bs=L at hln
  refine Hr (F:=Zi N k _) (fun j:Nat=>[.slice L,.int L.length,.int j]) (fun _=>[bs.map bE]) (fun j=>L.length-j) (fun j=>j<=L.length/\∀c∈L.take j,(FH bs c).toBool=true)
   (fun _=>k [.int (if L.all (fun c=>(FH bs c).toBool)then 0 else 10)] []) ?_ N 0 ⟨dx _,fun _ h=>by simp at h⟩ (by show L.length-0<N;omega)
  rintro j ⟨hj1,yx⟩ z6h z6i;unfold Zi;by_cases hjl:j<L.length
  ·have e1:(j:Int)<(L.length:Int):=by omega
   have e2:0<=(j:Int)/\(j:Int)<(L.length:Int):=by omega
   have z6x:L.getD j .nil∈L:=by rw[bn,bm hjl];exact jy hjl
   by_cases hin:(FH bs (L.getD j .nil)).toBool=true
   ·have hh:Ez (bs.map bE) (L.getD j .nil)=true:=(cT _ _).trans hin
    have:=z6i (j+1) ⟨hjl,fun c hc=>by
     rw[mb,dy]at hc;rcases hc with hc|hc
     ·exact yx c hc
     ·rw[bm hjl]at hc;simp only[Option.toList_some,ft]at hc;subst hc;rw[bn,bm hjl]at hin;exact hin⟩ (by omega)
    simp only[AF,AL,AP,AB,AJ,e1,e2,AE,and_self,Nz,VA,WD,vL,bh,hh,vN _ _ hh,Ah,DN,EF,KT (show j<4611686018427387904 by omega),this]
   ·have hh:Ez (bs.map bE) (L.getD j .nil)=false:=(cT _ _).trans (by simpa using hin);have er:L.all (fun c=>(FH bs c).toBool)=false:=by
     cases h:L.all (fun c=>(FH bs c).toBool)
     ·rfl
     ·exact absurd (ej.1 h _ z6x) hin
    simp only[AF,AL,AP,AB,AJ,e1,e2,AE,and_self,Nz,VA,WD,bh,hh,er,fj]
  ·have e1:¬(j:Int)<(L.length:Int):=by omega
   rw[du (by omega)]at yx;have er:L.all (fun c=>(FH bs c).toBool)=true:=by rw[ej];exact yx
   simp only[AL,AP,AB,e1,AE,er]
end
section
variable {R:Type} {N:Nat}
def GH (bs:List Nat) (n:Nat):List C:=(List.range n).map fun j=>.bool (decide (j∈bs))
theorem q6g {bs:List Nat} {n i:Nat} (h:i<n):(GH bs n).getD i .nil= .bool (decide (i∈bs)):=by simp[GH,bn,h]
theorem q6i (bs:List Nat) (n i:Nat):(GH bs n).set i (.bool true)=GH (bs++[i]) n:=by
 apply List.ext_getElem?;intro j;simp only[GH,List.getElem?_set,ez,List.length_range,di];by_cases hj:j<n
 ·rw[List.getElem?_range hj];by_cases e:i=j
  ·subst e;simp[hj]
  ·have e':¬j=i:=fun h=>e h.symm;simp[e,e']
 ·have h1:(List.range n)[j]? =none:=by simp;omega
  rw[h1];split
  ·rename_i e;subst e;rw[if_neg hj];rfl
  ·rfl
theorem q6h (n:Nat):GH [] n=bf n (.bool false):=by simp[GH,List.map_const']
theorem pJ (bs:List Nat) (x:Int):(FH bs (.int x)).toBool=true↔∃j∈bs,x=(j:Int):=by simp[FH,cz]
theorem oW (p:List C) (bs:List Nat):(FM p bs).all (fun c=>(FH bs c).toBool)=true↔∀j∈bs,HH p j=true->∃j'∈bs,toN p j=(j':Int):=by
 rw[ej];unfold FM;constructor
 ·intro h j hj hl;exact(pJ _ _).1 (h _ (nz.2 ⟨j,mj.2 ⟨hj,hl⟩,rfl⟩))
 ·intro h c hc;obtain⟨j,hj,rfl⟩:=nz.1 hc;obtain⟨a,b⟩:=mj.1 hj;exact(pJ _ _).2 (h j a b)
theorem z02 (p:List C) (hw:C.wf (.slice 1 (.int .u8)) (.slice p)) (hN:1000<N) (k:KD R):Xb N (.slice p) k=k [.int (Cn p)] []:=by
 have hz:((0:Nat):Int)=0:=rfl;have t0:av 0=0:=rfl;rw[W9];unfold iP;simp only[AJ];by_cases h0:256<p.length
 ·have h0':(256:Int)<(p.length:Int):=by omega
  have e:Cn p=1:=by unfold Cn;rw[if_pos h0]
  simp only[h0',e,AE]
 have h0':¬(256:Int)<(p.length:Int):=by omega
 have g0:0<=(p.length:Int)/\(p.length:Int)<=(p.length:Int)/\(p.length:Int)<=9223372036854775807/\av (p.length:Int)*1<=140737488355328:=by omega
 have g2:p.length*1<=140737488355328:=by omega
 simp only[h0',AE,g0,g2,and_self,eq_self,AQ,bh];rw[show AI ei= .bool false from rfl,<-q6h]
 refine Hr (F:=iO N (.slice p) k _) (fun x:Nat × List Nat=>[.slice p,.int 0,.int p.length,.int p.length,.int x.1,.agg (GH x.2 p.length)]) (fun _=>[]) (fun x=>p.length-x.1)
  (fun x=>x.1<=p.length/\(∀j∈x.2,j<x.1/\Ar p j=0)/\EP p (p.length-x.1) x.1 x.2=EP p p.length 0 []) (fun _=>k [.int (Cn p)] []) ?_ N (0,[]) ⟨dx _,(fun _ h=>nomatch h),rfl⟩ (by show p.length-0<N;omega)
 rintro⟨i,bs⟩ ⟨hi,hj,hS⟩ rec zd;dsimp only at hi hj hS zd;unfold iO;by_cases hlt:i<p.length
 ·have zl:(i:Int)<(p.length:Int):=by omega
  obtain⟨s1,s2⟩:=q1q hlt hS;simp only[AF,AL,AP,AU,Ab,Av,AB,AJ,zl,AE,c5 p hw i (show p.length<=256 by omega) (show i<=100000 by omega) (show 20<N by omega)];by_cases he:Ar p i=0
  ·obtain⟨q1,q2⟩:=s2 he
   have hr:=zd (i+1+Ay (bN p i),bs++[i]) ⟨q1,(fun j h=>by
    show j<i+1+Ay (bN p i)/\Ar p j=0;rcases dy.1 h with h|h
    ·have:=hj _ h;exact⟨by omega,this.2⟩
    ·rw[ft.1 h];exact⟨by omega,he⟩),q2⟩ (by show p.length-(i+1+Ay (bN p i))<p.length-i;omega)
   have m8:=Jz (bN p i);have w3:IntKind.i64.wrap (((i+1:Nat):Int)+(Ay (bN p i):Int))=((i+1+Ay (bN p i):Nat):Int):=by rw[dh _ (by omega)];omega
   have g1:0<=(i:Int)/\(i:Int)<(p.length:Int):=by omega
   have z5t:db (dj (GH bs p.length)) i (cg true)=dj (GH (bs++[i]) p.length):=congrArg dj (q6i bs p.length i);simp only[he,AE,bh,g1,and_self,eq_self,Ws,AF,AB,t0,hz,cq,KT (show i<4611686018427387904 by omega),w3,z5t,hr]
  ·rw[qM h0 he (s1 he)];simp only[he,AE]
 ·have zl:¬(i:Int)<(p.length:Int):=by omega
  obtain rfl:i=p.length:=by omega
  rw[q1p (ca _)]at hS;simp only[AF,AL,AP,AU,Ab,Av,AB,AJ,zl,AE,eq_self,bh,t0,hz];rw[qN h0 hS]
  refine Hr (F:=TG N (.slice p) k _) (fun i:Nat=>[.slice p,.int 0,.int p.length,.int p.length,.int i,.agg (GH bs p.length)]) (fun _=>[]) (fun i=>p.length-i)
   (fun i=>i<=p.length/\∀j∈bs,j<i->HH p j=true->∃j'∈bs,toN p j=(j':Int)) (fun _=>k [.int (if(FM p bs).all (fun c=>(FH bs c).toBool)then 0 else 10)] []) ?_ N 0 ⟨dx _,fun _ _ h=>by omega⟩ (by show p.length-0<N;omega)
  rintro i ⟨hi1,yx⟩ z6h z6i;unfold TG;by_cases hil:i<p.length
  case neg=>
   have e1:¬(i:Int)<(p.length:Int):=by omega
   rw[if_pos ((oW p bs).2 fun j hb hl=>yx j hb (by have:=(hj j hb).1;omega) hl)];simp only[AF,Ab,AB,AJ,e1,AE]
  have e1:(i:Int)<(p.length:Int):=by omega
  have g1:0<=(i:Int)/\(i:Int)<(p.length:Int):=by omega
  have hg:∀j,j<p.length->bc (dj (GH bs p.length)) j= .bool (decide (j∈bs)):=fun j h=>q6g h
  have next:(i∈bs->HH p i=true->∃j'∈bs,toN p i=(j':Int))->z6h [.slice p,.int 0,.int p.length,.int p.length,.int ((i+1:Nat):Int),.agg (GH bs p.length)] []=k [.int (if(FM p bs).all (fun c=>(FH bs c).toBool)then 0 else 10)] []:=fun h=>
   z6i (i+1) ⟨hil,fun j hb hji hl=>by
    by_cases e:j=i
    ·subst e;exact h hb hl
    ·exact yx j hb (by omega) hl⟩ (by omega)
  by_cases hin:i∈bs
  case neg=>
   have:=next fun h=>absurd h hin
   simp only[AQ,AF,AL,AP,AU,Ab,Av,Ba,AB,AJ,Ah,e1,g1,AE,and_self,bh,t0,hz,cq,hg i hil,hin,eq_self,KT (show i<4611686018427387904 by omega),this]
  obtain⟨b1,b2,b3⟩:=Hg hw hil;by_cases hl:HH p i=true
  case neg=>
   have l1:¬bN p i=11:=fun h=>hl (by simp[HH,h]);have l2:¬bN p i=12:=fun h=>hl (by simp[HH,h]);have:=next fun _ h=>absurd h hl
   simp only[AQ,AF,AL,AP,AU,Ab,Av,Ba,AB,AJ,Ah,e1,g1,AE,and_self,bh,t0,hz,cq,hg i hil,hin,b1,l1,l2,eq_self,KT (show i<4611686018427387904 by omega),this]
  have he:=(hj i hin).2;have ht:0<=toN p i:=by
   unfold toN;have e:=he;unfold Ar at e;have:i+1+Ay (bN p i)<=p.length:=by
    split at e
    ·simp at e
    ·split at e
     ·simp at e
     ·split at e
      ·simp at e
      ·omega
   exact(Ls hw this (Jz _)).1
  have key:TG N (.slice p) k (fun _ _=>k [.int 0] []) z6h [.slice p,.int 0,.int p.length,.int p.length,.int i,.agg (GH bs p.length)] []=
    if toN p i<p.length/\(toN p i).toNat∈bs then z6h [.slice p,.int 0,.int p.length,.int p.length,.int ((i+1:Nat):Int),.agg (GH bs p.length)] []else k [.int 10] []:=by
   unfold TG;have ho:=fun k:KD R=>c5 p hw i (show p.length<=256 by omega) (show i<=100000 by omega) (show 20<N by omega) k;simp only[he,if_true]at ho;rw[show CA p (i+1) (Ay (bN p i))=toN p i from rfl]at ho;have l12:bN p i=11\/bN p i=12:=by simpa[HH]using hl
   have d12:¬(12:Int)=11:=by decide
   by_cases c1:(p.length:Int)<=toN p i
   ·have c2:¬(toN p i<(p.length:Int)/\(toN p i).toNat∈bs):=by omega
    rcases l12 with l|l <;> simp only[AQ,AF,AL,AP,AU,Ab,Av,Ba,AB,AJ,Ah,e1,g1,AE,and_self,bh,t0,hz,cq,hg i hil,hin,b1,l,d12,eq_self,ho,QK (show p.length<=100000 by omega),c1,c2]
   ·have c2:0<=toN p i/\toN p i<(p.length:Int):=by omega
    have c3:=hg (toN p i).toNat (by omega);by_cases c4:(toN p i).toNat∈bs
    ·rcases l12 with l|l <;> simp only[AQ,AF,AL,AP,AU,Ab,Av,Ba,AB,AJ,Ah,e1,g1,AE,and_self,bh,t0,hz,cq,hg i hil,hin,b1,l,d12,eq_self,ho,QK (show p.length<=100000 by omega),c1,c2,c3,c4,KT (show i<4611686018427387904 by omega)]
    ·rcases l12 with l|l <;> simp only[AQ,AF,AL,AP,AU,Ab,Av,Ba,AB,AJ,Ah,e1,g1,AE,and_self,and_false,bh,t0,hz,cq,hg i hil,hin,b1,l,d12,eq_self,ho,QK (show p.length<=100000 by omega),c1,c2,c3,c4]
  refine key.trans ?_;by_cases c:toN p i<p.length/\(toN p i).toNat∈bs
  ·rw[if_pos c];exact next fun _ _=>⟨_,c.2,by omega⟩
  ·have er:¬(FM p bs).all (fun c=>(FH bs c).toBool)=true:=fun h=>c (by
    obtain⟨j',h1,h2⟩:=(oW p bs).1 h i hin hl;have:=(hj j' h1).1;exact⟨by omega,by rw[h2,bh];exact h1⟩)
   rw[if_neg c,if_neg er]
theorem q32 (_:GF gl0) (A:Key->Option O) (p:List C):Bg (X0 gl0) 33 [.d (.slice 1 (.int .u8)) (.slice p)] A (.d (.int .i64) (.int (Cn p))) []:=by
 refine VZ (ts:=[.slice 1 (.int .u8)]) (cs:=[.slice p]) fun W=>?_;refine XE (q3U 1001) ?_;show Zh 1001 [.d (.slice 1 (.int .u8)) (.slice p)] A kR=_;simp only[Zh,Ae,Kd,and_self,if_true,AF,AL,AP,AU,Ab,Bw,Bq,Eb,BD,Gz];rw[q3T p (W 0 _ _ rfl rfl) (by omega)];rfl
theorem z1S (A:Key->Option O) (p:List C):Bg (X0 gl0) 47 [.d (.slice 1 (.int .u8)) (.slice p)] A (.d (.int .i64) (.int (Cn p))) []:=by
 refine VZ (ts:=[.slice 1 (.int .u8)]) (cs:=[.slice p]) fun W=>?_;refine XE (z03 1001) ?_;show iM 1001 [.d (.slice 1 (.int .u8)) (.slice p)] A kR=_;simp only[iM,Ae,Kd,and_self,if_true,AF,AL,AP,AU,Ab,Bw,Bq,Eb,BD,Gz];rw[z02 p (W 0 _ _ rfl rfl) (by omega)];rfl
end
theorem q1A {X:Cx} {f:FuncId} {eb:Nat} {e:Ty} {c:C} {A:Key->Option O} {v:V} {L:List (Key × O)} (h:Bg X f [.d (.slice eb e) (.slice c.elems)] A v L):Bg X f [.d (.slice eb e) c] A v L:=by
 intro A' Γ w args hA hg hc hn hr;have hs:args.size=1:=hn.symm;have h0:AG Γ (.d (.slice eb e) c) args[0]:=hr 0 _ _ rfl (eh (by omega:0<args.size));obtain⟨h2,_⟩:=(Bf rfl rfl).1 h0;simp only[AA,AK]at h2;obtain⟨_,_,_,cs,rfl,_⟩:=h2;exact h A' Γ w args hA hg hc hn hr
def VR {R:Type}:OvG R:=fun xs _ K=>match xs with
 | [.d t c]=>if t= .slice 1 (.int .u8)then K (.d (.int .i64) (.int (Cn c.elems))) []else none
 |_=>none
def qT (_:Nat) {R:Type}:OvG R:=VR
theorem q33 (N:Nat) {R:Type}:GOk (X0 gl0) 33 (qT N (R:=R)):=by
 intro xs A Kr r hr;unfold qT VR at hr;split at hr
 ·simp only[ax]at hr;obtain⟨rfl,hr⟩:=hr;exact⟨_,_,q1A (q32 gf0 A _),hr⟩
 ·cases hr
def F7 (_:Nat) {R:Type}:OvG R:=VR
theorem z1T (N:Nat) {R:Type}:GOk (X0 gl0) 47 (F7 N (R:=R)):=by
 intro xs A Kr r hr;unfold F7 VR at hr;split at hr
 ·simp only[ax]at hr;obtain⟨rfl,hr⟩:=hr;exact⟨_,_,q1A (z1S A _),hr⟩
 ·cases hr
theorem z3U {X:Cx} {f:FuncId} {eb:Nat} {e:Ty} {c:C} {y:V} {A:Key->Option O} {v:V} {L:List (Key × O)} (h:Bg X f [.d (.slice eb e) (.slice c.elems),y] A v L):Bg X f [.d (.slice eb e) c,y] A v L:=by
 intro A' Γ w args hA hg hc hn hr;have hs:args.size=2:=hn.symm;have h0:AG Γ (.d (.slice eb e) c) args[0]:=hr 0 _ _ rfl (eh (by omega:0<args.size));obtain⟨h2,_⟩:=(Bf rfl rfl).1 h0;simp only[AA,AK]at h2;obtain⟨_,_,_,cs,rfl,_⟩:=h2;exact h A' Γ w args hA hg hc hn hr
theorem q6R {X:Cx} {f:FuncId} {k:IntKind} {c:C} {y:V} {A:Key->Option O} {v:V} {L:List (Key × O)} (h:Bg X f [y,.d (.int k) (.int c.toInt)] A v L):Bg X f [y,.d (.int k) c] A v L:=by
 intro A' Γ w args hA hg hc hn hr;have hs:args.size=2:=hn.symm;have h0:AG Γ (.d (.int k) c) args[1]:=hr 1 _ _ rfl (eh (by omega:1<args.size));obtain⟨h2,_⟩:=(Bf rfl rfl).1 h0;simp only[AA,AK]at h2;have hc':∃i,c= .int i:=by cases c <;> simp_all
 obtain⟨i,rfl⟩:=hc';exact h A' Γ w args hA hg hc hn hr
def uF {R:Type}:OvG R:=fun xs _ K=>match xs with
 | [.d t c,.d u i]=>if t= .slice 1 (.int .u8)/\u= .int .i64 then(if c.elems.length<=256/\0<=i.toInt/\i.toInt<=100000 then
   K (.tup [.d (.int .i64) (.int (if Ar c.elems i.toInt.toNat=0 then bN c.elems i.toInt.toNat else 0)),.d (.int .u64) (.int (if Ar c.elems i.toInt.toNat=0 then CA c.elems (i.toInt.toNat+1) (Ay (bN c.elems i.toInt.toNat))else 0)),.d (.int .i64) (.int (if Ar c.elems i.toInt.toNat=0 then((i.toInt.toNat+1+Ay (bN c.elems i.toInt.toNat):Nat):Int)else 0)),.d (.int .i64) (.int (Ar c.elems i.toInt.toNat))]) []else none)else none
 |_=>none
def qV (_:Nat) {R:Type}:OvG R:=uF
theorem q4b (N:Nat) {R:Type}:GOk (X0 gl0) 62 (qV N (R:=R)):=by
 intro xs A Kr r hr;unfold qV uF at hr;split at hr
 ·simp only[ax]at hr;obtain⟨⟨rfl,rfl⟩,⟨h1,h2,h3⟩,hr⟩:=hr;rename_i c i;refine⟨_,_,z3U (q6R ?_),hr⟩;have:=q4a gf0 A c.elems i.toInt.toNat h1 (by omega);rw[gy h2]at this;simpa only[uG]using this
 ·cases hr
section
variable {R:Type}
theorem Oc {K:KD R} {B:KD R->Option R} (ds:List C) (ms:List Es) (h:∀k,B k=k ds ms):jn K B=K ds ms:=by rw[AQ];exact h K
end
def fC {R:Type} (N:Nat) (k1:KD R):Option R:=k1 [db (dj [dj (bf 8 (az 0)),dj (bf 64 (az 0)),az 0]) 0 (db (db (db (db (db (db (db (db (AI (ct 8 (br cm))) 0 (az 1779033703)) 1 (az 3144134277)) 2 (az 1013904242)) 3 (az 2773480762)) 4 (az 1359893119)) 5 (az 2600822924)) 6 (az 528734635)) 7 (az 1541459225))] []
def SU:=lid "" (@fC R N)
theorem zY {R N k}:@SU R N k=fC N k:=by unfold SU;rw[AV]
def q85:OvG R:=Ae [] (fun a=>SU N) fun a K d1 m1=>K (V.ptr (dt 1) [] Fp) [(dt 1,O.box (V.d Fp (dk d1 0)))]
theorem q86:okX 130 (@q85 R N):=Ai AW N [] [(130,[([9],⟨[],[(0,.as (.ptr (.l 1) [] Fp))],[],[(.l 1,.box (.d Fp))],[],[]⟩)])] (fun _ _=>zY)
def Wo {R:Type} (N:Nat) (k2:KD R):KD R->KD R:=fun k3 d1 m1=>(bif decide (ao (dk d1 3)<ao (dk d1 1))then(if 0<=ao (dk d1 3)/\ao (dk d1 3)<(↑(aq (au (dk d1 0))):Int)then(k3 [dk d1 0,dk d1 1,az (Aj qp cm (ar cm (ao (dk d1 2)*2^min (av 8) 32)) (ar cm (ao (bp (au (dk d1 0)) (av (ao (dk d1 3))) dw)))),az (ar aw (ao (dk d1 3)+1))] [])else none)else(k2 [dk d1 2] []))
def fG (a0:C) (k1:KD R):Option R:=if ja 0<=0/\ja 0<=4/\4<=(↑(aq (au a0)):Int)then(jn (fun d1 m1=>(k1 [dk d1 0] [])) (fun k2=>(Ac N (Wo N k2) [bj (cut (au a0) 0 4),az (↑(aq (cut (au a0) 0 4)):Int),az 0,az 0] [])))else none
def Ot:=lid "" (@fG R N)
theorem ah {R N a0 k}:@Ot R N a0 k=fG N a0 k:=by unfold Ot;rw[AV]
def q9c:OvG R:=Ae [.slice 1 (.int .u8)] (Bw (Ot N)) (BD (br cm))
theorem q9d:okX 156 (@q9c R N):=Ai AW N [] [(156,[([1,0,1,1],(Af [(3,.d (.int .u32))])),
  ([4,1,0,1,1],(AX [7,8] [(3,.d (.int .u32)),(9,.d (.int .i64))])),
  ([9],(Af [(2,.d (.int .u32))]))])] (fun _ _=>ah)
def fE {R:Type} (N:Nat) (k1:KD R):Option R:=k1 [db (db (db (db (db (db (db (db (db (db (db (db (db (db (db (db (db (db (db (db (db (db (db (db (db (db (db (db (db (db (db (db (db (db (db (db (db (db (db (db (db (db (db (db (db (db (db (db (db (db (db (db (db (db (db (db (db (db (db (db (db (db (db (db (AI (ct 64 (br cm))) 0 (az 1116352408)) 1 (az 1899447441)) 2 (az 3049323471)) 3 (az 3921009573)) 4 (az 961987163)) 5 (az 1508970993)) 6 (az 2453635748)) 7 (az 2870763221)) 8 (az 3624381080)) 9 (az 310598401)) 10 (az 607225278)) 11 (az 1426881987)) 12 (az 1925078388)) 13 (az 2162078206)) 14 (az 2614888103)) 15 (az 3248222580)) 16 (az 3835390401)) 17 (az 4022224774)) 18 (az 264347078)) 19 (az 604807628)) 20 (az 770255983)) 21 (az 1249150122)) 22 (az 1555081692)) 23 (az 1996064986)) 24 (az 2554220882)) 25 (az 2821834349)) 26 (az 2952996808)) 27 (az 3210313671)) 28 (az 3336571891)) 29 (az 3584528711)) 30 (az 113926993)) 31 (az 338241895)) 32 (az 666307205)) 33 (az 773529912)) 34 (az 1294757372)) 35 (az 1396182291)) 36 (az 1695183700)) 37 (az 1986661051)) 38 (az 2177026350)) 39 (az 2456956037)) 40 (az 2730485921)) 41 (az 2820302411)) 42 (az 3259730800)) 43 (az 3345764771)) 44 (az 3516065817)) 45 (az 3600352804)) 46 (az 4094571909)) 47 (az 275423344)) 48 (az 430227734)) 49 (az 506948616)) 50 (az 659060556)) 51 (az 883997877)) 52 (az 958139571)) 53 (az 1322822218)) 54 (az 1537002063)) 55 (az 1747873779)) 56 (az 1955562222)) 57 (az 2024104815)) 58 (az 2227730452)) 59 (az 2361852424)) 60 (az 2428436474)) 61 (az 2756734187)) 62 (az 3204031479)) 63 (az 3329325298)] []
def SV:=lid "" (@fE R N)
theorem ae {R N k}:@SV R N k=fE N k:=by unfold SV;rw[AV]
def q88:OvG R:=Ae [] (fun a=>SV N) (BD (ct 64 (br cm)))
theorem q89:okX 157 (@q88 R N):=Ai AW N [] [(157,[([9],⟨[],[(0,.as (.ptr (.l 0) [] (.arr 64 (.int .u32))))],[],[(.l 0,.box (.d (.arr 64 (.int .u32))))],[],[]⟩)])] (fun _ _=>ae)
def eU {R:Type} (N:Nat) (a0 a1:C) (k1:KD R):Option R:=if 0<=ar ay (32-Aj dr ay (ar ay (ao a1)) 31)then(k1 [az (Aj qp cm (ar cm (ao a0*2^min (av (Aj dr ay (ar ay (ao a1)) 31)) 32)) (fx (ao a0) (2^min (av (ar ay (32-Aj dr ay (ar ay (ao a1)) 31))) 32)))] [])else none
def Mb:=lid "" (@eU R N)
theorem zO {R N a0 a1 k}:@Mb R N a0 a1 k=eU N a0 a1 k:=by unfold Mb;rw[AV]
def q8H:OvG R:=Ae [.int .u32,.int .i64] (Bq (Mb N)) (BD (br cm))
theorem q8I:okX 159 (@q8H R N):=Ai AW N [] [(159,[([9],(Af [(4,.d (.int .u32))]))])] (fun _ _=>zO)
def fF (a0 a1 a2 a3 a4:C) (k1:KD R):Option R:=Mb N a0 (az (ar aw (0-ao a3))) (fun d1 m1=>(jn (fun d2 m2=>(Mb N (dk d2 0) (az (ar aw (0-ao (dk d2 1)))) (fun d3 m3=>(Mb N (dk d2 0) (az (ar aw (0-ao (dk d2 2)))) (fun d4 m4=>(k1 [az (Aj ep cm (Aj ep cm (ao (dk d3 0)) (ao (dk d4 0))) (ao (dk d2 3)))] [])))))) (fun k2=>(bif cz a4 then(if 0<=ao a3 then(k2 [a0,a1,a2,az (fx (ao a0) (2^min (av (ao a3)) 32))] [])else none)else(k2 [a0,a1,a2,dk d1 0] [])))))
def Hu:=lid "" (@fF R N)
theorem ag {R N a0 a1 a2 a3 a4 k}:@Hu R N a0 a1 a2 a3 a4 k=fF N a0 a1 a2 a3 a4 k:=by unfold Hu;rw[AV]
def q9a:OvG R:=Ae [.int .u32,.int .i64,.int .i64,.int .i64,.bool] (fun a=>Hu N (a 0) (a 1) (a 2) (a 3) (a 4)) (BD (br cm))
theorem q9b:okX 158 (@q9a R N):=Ai (AH (q8I N) <| AW) N [] [(158,[([1,0,1,1],(AX [0,1,2] [(11,.d (.int .u32))])),
  ([9],(Af [(10,.d (.int .u32))]))])] (fun _ _=>ag)
def q8Y:List Sh:=[.as (.ptr (.g (.l 1)) [] Fp)]
def q81:List (Key × OSh):=[(.l 1,.box (.d Fp))]
def SP {R:Type} (N:Nat) (k2:KD R):KD R->KD R:=fun k3 d4 m4=>(bif decide (ao (dk d4 0)<8)then(if 0<=ao (dk d4 0)/\ao (dk d4 0)<8 then(if 0<=ao (dk d4 0)/\ao (dk d4 0)<8 then(if 0<=ao (dk d4 0)/\ao (dk d4 0)<8 then(k3 [az (ar aw (ao (dk d4 0)+1)),db (dk d4 1) 0 (db (bc (dk d4 1) 0) (av (ao (dk d4 0))) (az (ar cm (ao (bc (bc (dk d4 1) 0) (av (ao (dk d4 0))))+ao (bc (dk d4 2) (av (ao (dk d4 0)))))))),dk d4 2] [])else none)else none)else none)else(k2 [dk d4 1] []))
def Oq (k2:KD R):KD R->KD R:=fun k3 d3 m3=>(bif decide (ao (dk d3 1)<64)then(if 0<=ao (dk d3 1)/\ao (dk d3 1)<64 then(jn (fun d4 m4=>(Hu N (bc (dk d4 6) (av 4)) (az 6) (az 11) (az 25) (cg false) (fun d5 m5=>(if 0<=ao (dk d4 1)/\ao (dk d4 1)<16 then(Hu N (bc (dk d4 6) (av 0)) (az 2) (az 13) (az 22) (cg false) (fun d6 m6=>(k3 [dk d4 2,az (ar aw (ao (dk d4 3)+1)),dk d4 4,dk d4 5,db (db (db (db (db (db (db (db (AI (ct 8 (br cm))) 0 (az (ar cm (ar cm (ar cm (ar cm (ar cm (ar cm (ao (bc (dk d4 6) (av 7))+ao (dk d5 0))+Aj ep cm (ao (bc (dk d4 6) (av 6))) (Aj dr cm (ao (bc (dk d4 6) (av 4))) (Aj ep cm (ao (bc (dk d4 6) (av 5))) (ao (bc (dk d4 6) (av 6))))))+ao (dk d4 0))+ao (bc (dk d4 5) (av (ao (dk d4 1)))))+ao (dk d6 0))+Aj qp cm (Aj dr cm (ao (bc (dk d4 6) (av 0))) (ao (bc (dk d4 6) (av 1)))) (Aj dr cm (ao (bc (dk d4 6) (av 2))) (Aj qp cm (ao (bc (dk d4 6) (av 0))) (ao (bc (dk d4 6) (av 1))))))))) 1 (bc (dk d4 6) (av 0))) 2 (bc (dk d4 6) (av 1))) 3 (bc (dk d4 6) (av 2))) 4 (az (ar cm (ao (bc (dk d4 6) (av 3))+ar cm (ar cm (ar cm (ar cm (ao (bc (dk d4 6) (av 7))+ao (dk d5 0))+Aj ep cm (ao (bc (dk d4 6) (av 6))) (Aj dr cm (ao (bc (dk d4 6) (av 4))) (Aj ep cm (ao (bc (dk d4 6) (av 5))) (ao (bc (dk d4 6) (av 6))))))+ao (dk d4 0))+ao (bc (dk d4 5) (av (ao (dk d4 1))))))))) 5 (bc (dk d4 6) (av 4))) 6 (bc (dk d4 6) (av 5))) 7 (bc (dk d4 6) (av 6))] [])))else none)))) (fun k4=>(bif decide (16<=ao (dk d3 1))then(if 0<=bq (ao (dk d3 1)) 16/\bq (ao (dk d3 1)) 16<16 then(if 0<=bq (ar aw (ao (dk d3 1)+1)) 16/\bq (ar aw (ao (dk d3 1)+1)) 16<16 then(Hu N (bc (dk d3 3) (av (bq (ar aw (ao (dk d3 1)+1)) 16))) (az 7) (az 18) (az 3) (cg true) (fun d4 m4=>(if 0<=bq (ar aw (ao (dk d3 1)+9)) 16/\bq (ar aw (ao (dk d3 1)+9)) 16<16 then(if 0<=bq (ar aw (ao (dk d3 1)+14)) 16/\bq (ar aw (ao (dk d3 1)+14)) 16<16 then(Hu N (bc (dk d3 3) (av (bq (ar aw (ao (dk d3 1)+14)) 16))) (az 17) (az 19) (az 10) (cg true) (fun d5 m5=>(if 0<=bq (ao (dk d3 1)) 16/\bq (ao (dk d3 1)) 16<16 then(k4 [bc (dk d3 0) (av (ao (dk d3 1))),az (bq (ao (dk d3 1)) 16),dk d3 0,dk d3 1,dk d3 2,db (dk d3 3) (av (bq (ao (dk d3 1)) 16)) (az (ar cm (ao (bc (dk d3 3) (av (bq (ao (dk d3 1)) 16)))+ar cm (ar cm (ao (dk d4 0)+ao (bc (dk d3 3) (av (bq (ar aw (ao (dk d3 1)+9)) 16))))+ao (dk d5 0))))),dk d3 4] [])else none)))else none)else none)))else none)else none)else(k4 [bc (dk d3 0) (av (ao (dk d3 1))),az (bq (ao (dk d3 1)) 16),dk d3 0,dk d3 1,dk d3 2,dk d3 3,dk d3 4] []))))else none)else(k2 [dk d3 2,dk d3 4] []))
def SQ (k2:KD R):KD R->KD R:=fun k3 d1 m1=>(bif decide (ao (dk d1 0)<16)then(if 0<=ar aw (4*ao (dk d1 0))/\ar aw (4*ao (dk d1 0))<=64/\ja 64<=64 then(Ot N (bj (List.take (av (64-ar aw (4*ao (dk d1 0)))) (List.drop (av (ar aw (4*ao (dk d1 0)))) (au (bc (dk d1 1) 1))))) (fun d2 m2=>(if 0<=ao (dk d1 0)/\ao (dk d1 0)<16 then(k3 [az (ar aw (ao (dk d1 0)+1)),dk d1 1,db (dk d1 2) (av (ao (dk d1 0))) (dk d2 0)] [])else none)))else none)else(k2 [dk d1 1,dk d1 2] []))
def fA (b0:C) (k1:KD R):Option R:=jn (fun d1 m1=>(SV N (fun d2 m2=>(jn (fun d3 m3=>(jn (fun d4 m4=>(k1 [dk d4 0] [])) (fun k2=>(Ac N (SP N k2) [az 0,dk d3 0,dk d3 1] [])))) (fun k2=>(Ac N (Oq N k2) [dk d2 0,az 0,dk d1 0,dk d1 1,bc (dk d1 0) 0] [])))))) (fun k2=>(Ac N (SQ N k2) [az 0,b0,AI (ct 16 (br cm))] []))
def SR:=lid "" (@fA R N)
theorem zV {R N b0 k}:@SR R N b0 k=fA N b0 k:=by unfold SR;rw[AV]
def q8Z:OvG R:=Cc q8Y q81 (fun ds ms=>SR N (dk ds 0)) fun ds ms K d1 m1=>K (V.tup []) [(Key.g (dt 1),O.box (V.d Fp (dk d1 0)))]
theorem q80:okX 154 (@q8Z R N):=Cj (AH (q9d N) <| AH (q89 N) <| AH (q9b N) <| AW) N [(154,[(12,[(46,7),(58,7)]),(15,[(91,7)]),(16,[(104,7)]),(4,[(22,8)])])] [(154,[([1,0,1],⟨[0,2],[],[.g (.l 1)],[],[],[]⟩),
  ([4,1,0,1],⟨[0,2],[(12,.d (.int .i64))],[.g (.l 1)],[],[],[]⟩),
  ([1,0,1,1,1],⟨[0,4],[],[.g (.l 1)],[],[],[]⟩),
  ([4,1,0,1,1,1],⟨[0,2,4,29],[(30,.d (.int .i64))],[.g (.l 1)],[],[],[]⟩),
  ([1,0,1,1,4,0,1,1,5,4,1,0,1,1,1],⟨[0,2,4,6,7,29,30],[],[.g (.l 1)],[],[],[]⟩),
  ([1,1,1,1,1],⟨[0],[],[.g (.l 1)],[],[],[]⟩),
  ([4,1,1,1,1,1],⟨[0,4],[(126,.d (.int .i64))],[.g (.l 1)],[],[],[]⟩),
  ([9],⟨[],[],[.g (.l 1)],[],[],[]⟩)])] (fun _ _ _=>zV)
def q82:List Sh:=[.as (.ptr (.g (.l 1)) [] Fp),.d (.slice 1 (.int .u8))]
def q84:List (Key × OSh):=[(.l 1,.box (.d Fp))]
def SS (k2:KD R):KD R->KD R:=fun k3 d1 m1=>(bif decide (0<(↑(aq (au (dk d1 0))):Int))then(if 0<=bq (ao (bc (dk d1 1) 2)) 64/\bq (ao (bc (dk d1 1) 2)) 64<=64/\ja 64<=64 then(if 0<av (64-bq (ao (bc (dk d1 1) 2)) 64)then(if 0<=(↑(min (aq (au (dk d1 0))) (av (64-bq (ao (bc (dk d1 1) 2)) 64))):Int)/\(↑(min (aq (au (dk d1 0))) (av (64-bq (ao (bc (dk d1 1) 2)) 64))):Int)<=(↑(aq (au (dk d1 0))):Int)/\(↑(aq (au (dk d1 0))):Int)<=(↑(aq (au (dk d1 0))):Int)then(jn (fun d2 m2=>(k3 [dk d2 0,dk d2 1] [])) (fun k4=>(bif decide (bq (ao (bc (db (db (dk d1 1) 1 (dj (Cg (au (bc (dk d1 1) 1)) (av (bq (ao (bc (dk d1 1) 2)) 64)) (av (64-bq (ao (bc (dk d1 1) 2)) 64)) (au (dk d1 0))))) 2 (az (ar ay (ao (bc (db (dk d1 1) 1 (dj (Cg (au (bc (dk d1 1) 1)) (av (bq (ao (bc (dk d1 1) 2)) 64)) (av (64-bq (ao (bc (dk d1 1) 2)) 64)) (au (dk d1 0))))) 2)+ar ay (↑(min (aq (au (dk d1 0))) (av (64-bq (ao (bc (dk d1 1) 2)) 64))):Int))))) 2)) 64=0)then(SR N (db (db (dk d1 1) 1 (dj (Cg (au (bc (dk d1 1) 1)) (av (bq (ao (bc (dk d1 1) 2)) 64)) (av (64-bq (ao (bc (dk d1 1) 2)) 64)) (au (dk d1 0))))) 2 (az (ar ay (ao (bc (db (dk d1 1) 1 (dj (Cg (au (bc (dk d1 1) 1)) (av (bq (ao (bc (dk d1 1) 2)) 64)) (av (64-bq (ao (bc (dk d1 1) 2)) 64)) (au (dk d1 0))))) 2)+ar ay (↑(min (aq (au (dk d1 0))) (av (64-bq (ao (bc (dk d1 1) 2)) 64))):Int))))) (fun d2 m2=>(k4 [bj (cut (au (dk d1 0)) (↑(min (aq (au (dk d1 0))) (av (64-bq (ao (bc (dk d1 1) 2)) 64))):Int) (↑(aq (au (dk d1 0))):Int)),dk d2 0] [])))else(k4 [bj (cut (au (dk d1 0)) (↑(min (aq (au (dk d1 0))) (av (64-bq (ao (bc (dk d1 1) 2)) 64))):Int) (↑(aq (au (dk d1 0))):Int)),db (db (dk d1 1) 1 (dj (Cg (au (bc (dk d1 1) 1)) (av (bq (ao (bc (dk d1 1) 2)) 64)) (av (64-bq (ao (bc (dk d1 1) 2)) 64)) (au (dk d1 0))))) 2 (az (ar ay (ao (bc (db (dk d1 1) 1 (dj (Cg (au (bc (dk d1 1) 1)) (av (bq (ao (bc (dk d1 1) 2)) 64)) (av (64-bq (ao (bc (dk d1 1) 2)) 64)) (au (dk d1 0))))) 2)+ar ay (↑(min (aq (au (dk d1 0))) (av (64-bq (ao (bc (dk d1 1) 2)) 64))):Int))))] []))))else none)else none)else none)else(k2 [dk d1 1] []))
def fB (a0 b0:C) (k1:KD R):Option R:=jn (fun d1 m1=>(k1 [dk d1 0] [])) (fun k2=>(Ac N (SS N k2) [a0,b0] []))
def Mc:=lid "" (@fB R N)
theorem zX {R N a0 b0 k}:@Mc R N a0 b0 k=fB N a0 b0 k:=by unfold Mc;rw[AV]
def q83:OvG R:=Cc q82 q84 (fun ds ms=>Mc N (dk ds 0) (dk ds 1)) fun ds ms K d1 m1=>K (V.tup []) [(Key.g (dt 1),O.box (V.d Fp (dk d1 0)))]
theorem zW:okX 144 (@q83 R N):=Cj (AH (q80 N) <| AW) N [] [(144,[([],⟨[0],[],[.g (.l 1)],[],[],[]⟩),
  ([4],⟨[0],[(1,.d (.slice 1 (.int .u8)))],[.g (.l 1)],[],[],[]⟩),
  ([1,1,1,1,4,1,5,4],⟨[0,1],[],[.g (.l 1)],[],[],[]⟩),
  ([9],⟨[],[],[.g (.l 1)],[],[],[]⟩)])] (fun _ _ _=>zX)
def q8U:List Sh:=[.as (.ptr (.g (.l 1)) [] Fp),.d (.slice 24 (.slice 1 (.int .u8)))]
def q8X:List (Key × OSh):=[(.l 1,.box (.d Fp))]
def Wn (k2:KD R):KD R->KD R:=fun k3 d1 m1=>(bif decide (ao (dk d1 2)<ao (dk d1 1))then(if 0<=ao (dk d1 2)/\ao (dk d1 2)<(↑(aq (au (dk d1 0))):Int)then(Mc N (bp (au (dk d1 0)) (av (ao (dk d1 2))) dw) (dk d1 3) (fun d2 m2=>(k3 [dk d1 0,dk d1 1,az (ar aw (ao (dk d1 2)+1)),dk d2 0] [])))else none)else(k2 [dk d1 3] []))
def eZ (a0 b0:C) (k1:KD R):Option R:=jn (fun d1 m1=>(k1 [dk d1 0] [])) (fun k2=>(Ac N (Wn N k2) [a0,az (↑(aq (au a0)):Int),az 0,b0] []))
def Oo:=lid "" (@eZ R N)
theorem zU {R N a0 b0 k}:@Oo R N a0 b0 k=eZ N a0 b0 k:=by unfold Oo;rw[AV]
def q8V:OvG R:=Cc q8U q8X (fun ds ms=>Oo N (dk ds 0) (dk ds 1)) fun ds ms K d1 m1=>K (V.tup []) [(Key.g (dt 1),O.box (V.d Fp (dk d1 0)))]
theorem q8W:okX 131 (@q8V R N):=Cj (AH (zW N) <| AW) N [] [(131,[([1,1],⟨[0],[],[.g (.l 1)],[],[],[]⟩),
  ([4,1,1],⟨[0,8,9],[(10,.d (.int .i64))],[.g (.l 1)],[],[],[]⟩),
  ([9],⟨[],[],[.g (.l 1)],[],[],[]⟩)])] (fun _ _ _=>zU)
def fD {R:Type} (N:Nat) (a0:C) (k1:KD R):Option R:=k1 [bj [az (ar bt (fx (ao a0) (2^min (av 24) 32))),az (ar bt (fx (ao a0) (2^min (av 16) 32))),az (ar bt (fx (ao a0) (2^min (av 8) 32))),az (ar bt (ao a0))]] []
def LC:=lid "" (@fD R N)
theorem ab {R N a0 k}:@LC R N a0 k=fD N a0 k:=by unfold LC;rw[AV]
def q87:OvG R:=Ae [.int .u32] (Bw (LC N)) fun a K d1 m1=>K (V.ts 1 (br bt) (au (dk d1 0))) []
theorem zZ:okX 132 (@q87 R N):=Ai AW N [(132,[(1,[(14,4)])])] [(132,[([9],(Af [(2,.sl 1 (.int .u8) 5002)]))])] (fun _ _=>ab) fun a K=>(show _=jn (fun d1 m1=>(bif bo (aq (au (dk d1 0))) (aq (au (dk d1 0)))then
  (K (V.ts 1 (br bt) (au (dk d1 0))) [])
 else
  none)) _ by kernel_rfl).trans (congrArg (fun k=>jn k _) (funext fun _=>funext fun _=>by simp only[bw,cond_true]))
def q8Q:List Sh:=[.as (.ptr (.g (.l 1)) [] Fp)]
def q8T:List (Key × OSh):=[(.l 1,.box (.d Fp))]
def SM (k2:KD R):KD R->KD R:=fun k3 d5 m5=>(bif decide (ao (dk d5 1)<8)then(if 0<=ao (dk d5 1)/\ao (dk d5 1)<8 then(if 0<=ar aw (4*ao (dk d5 1))/\ar aw (4*ao (dk d5 1))<=32/\ja 32<=32 then(LC N (bc (dk d5 0) (av (ao (dk d5 1)))) (fun d6 m6=>(if 0<av (32-ar aw (4*ao (dk d5 1)))then(k3 [dk d5 0,az (ar aw (ao (dk d5 1)+1)),dk d5 2,dk d5 3,dj (Cg (au (dk d5 4)) (av (ar aw (4*ao (dk d5 1)))) (av (32-ar aw (4*ao (dk d5 1)))) (au (dk d6 0)))] [])else none)))else none)else none)else(k2 [dk d5 2,dk d5 3,dk d5 4] []))
def eY (b0:C) (k1:KD R):Option R:=if 0<=ar ay (64-bq (ar ay (ao (bc b0 2)+8)) 64)/\ar ay (64-bq (ar ay (ao (bc b0 2)+8)) 64)<=ar ay (64-bq (ar ay (ao (bc b0 2)+8)) 64)/\ar ay (64-bq (ar ay (ao (bc b0 2)+8)) 64)<=9223372036854775807/\av (ar ay (64-bq (ar ay (ao (bc b0 2)+8)) 64))*1<=140737488355328 then(if ja 0<=0/\0<(↑(av (ar ay (64-bq (ar ay (ao (bc b0 2)+8)) 64))):Int)then(Mc N (bj (List.take (av (ar ay (64-bq (ar ay (ao (bc b0 2)+8)) 64))) (List.drop 0 (List.set (bf (av (ar ay (64-bq (ar ay (ao (bc b0 2)+8)) 64))) (AI (br bt))) 0 (az 128))))) b0 (fun d1 m1=>(LC N (az (ar cm (fx (ar ay (ao (bc b0 2)*8)) (2^min (av 32) 64)))) (fun d2 m2=>(LC N (az (ar cm (ar ay (ao (bc b0 2)*8)))) (fun d3 m3=>(bif bo (aq (au (dk d2 0))) (aq (au (dk d2 0)))then(if(aq (au (dk d2 0))+aq (au (dk d3 0)))*1<=140737488355328/\aq (au (dk d2 0))+aq (au (dk d3 0))<=9223372036854775807 then(Mc N (bj (au (dk d2 0)++au (dk d3 0))) (dk d1 0) (fun d4 m4=>(jn (fun d5 m5=>(k1 [dk d5 2,dk d5 0] [])) (fun k2=>(Ac N (SM N k2) [bc (dk d4 0) 0,az 0,b0,AI (ct 32 (br bt)),AI (ct 32 (br bt))] [])))))else none)else none)))))))else none)else none
def SN:=lid "" (@eY R N)
theorem zT {R N b0 k}:@SN R N b0 k=eY N b0 k:=by unfold SN;rw[AV]
def q8R:OvG R:=Cc q8Q q8T (fun ds ms=>SN N (dk ds 0)) fun ds ms K d1 m1=>K (V.d (ct 32 (br bt)) (dk d1 0)) [(Key.g (dt 1),O.box (V.d Fp (dk d1 1)))]
theorem q8S:okX 133 (@q8R R N):=Cj (AH (zZ N) <| AH (zW N) <| AW) N [(133,[(7,[(27,100),(3,16)]),(8,[(3,16)])])] [(133,[([1,0,1,1,1,1,1,1,1,1,1],⟨[0,2,6],[],[.g (.l 1)],[],[],[]⟩),
  ([4,1,0,1,1,1,1,1,1,1,1,1],⟨[0,2,6,38],[(39,.d (.int .i64))],[.g (.l 1)],[],[],[]⟩),
  ([9],⟨[],[(2,.as (.ptr (.l 2) [] (.arr 32 (.int .u8))))],[.g (.l 1)],[(.l 2,.box (.d (.arr 32 (.int .u8))))],[],[]⟩)])] (fun _ _ _=>zT)
def Wm (k2:KD R):KD R->KD R:=fun k3 d3 m3=>(bif decide (ao (dk d3 2)<ao (dk d3 1))then(if 0<=ao (dk d3 2)/\ao (dk d3 2)<(↑(aq (au (dk d3 0))):Int)then(LC N (az (ar cm (↑(aq (au (bp (au (dk d3 0)) (av (ao (dk d3 2))) dw))):Int))) (fun d4 m4=>(Oo N (bj [bj (au (dk d4 0)),bp (au (dk d3 0)) (av (ao (dk d3 2))) dw]) (dk d3 4) (fun d5 m5=>(k3 [dk d3 0,dk d3 1,az (ar aw (ao (dk d3 2)+1)),dk d3 3,dk d5 0] [])))))else none)else(k2 [dk d3 3,dk d3 4] []))
def eV (a0 a1:C) (k1:KD R):Option R:=SU N (fun d1 m1=>(Oo N (bj [bj [a0,az (ar bt (↑(aq (au a1)):Int))]]) (dk d1 0) (fun d2 m2=>(jn (fun d3 m3=>(SN N (dk d3 1) (fun d4 m4=>(k1 [dk d4 0] [])))) (fun k2=>(Ac N (Wm N k2) [a1,az (↑(aq (au a1)):Int),az 0,AI (ct 32 (br bt)),dk d2 0] []))))))
def Jy:=lid "" (@eV R N)
theorem zR {R N a0 a1 k}:@Jy R N a0 a1 k=eV N a0 a1 k:=by unfold Jy;rw[AV]
def q8N:OvG R:=Ae [.int .u8,.slice 24 (.slice 1 (.int .u8))] (Bq (Jy N)) (BD (ct 32 (br bt)))
theorem SK:okX 106 (@q8N R N):=Ai (AH (q86 N) <| AH (q8W N) <| AH (zZ N) <| AH (q8S N) <| AW) N [(106,[(2,[(5,16)]),(6,[(5,16)]),(8,[(5,16)])])] [(106,[([1,0,1,1,1],(AX [4,5] [])),
  ([4,1,0,1,1,1],(AX [4,5,17,18] [(19,.d (.int .i64))])),
  ([9],⟨[],[(4,.as (.ptr (.l 4) [] (.arr 32 (.int .u8))))],[],[(.l 4,.box (.d (.arr 32 (.int .u8))))],[],[]⟩)])] (fun _ _=>zR)
def W64 (a:Int):Prop:=0<=a/\a<18446744073709551616
theorem wrap_u8 (x:Int):IntKind.u8.wrap x=x%256:=by simp[ar,jk,iw]
theorem wrap_i64 {n:Int} (h: -9223372036854775808<=n) (h2:n<9223372036854775808):IntKind.i64.wrap n=n:=dh _ (by omega)
theorem CR {l:List C} {i:Nat} (h:i<l.length):l.getD i .nil∈l:=by rw[bn,bm h];exact jy h
section
variable {R:Type} {N:Nat}
theorem eS {F:KD R->KD R->List C->List Es->Option R} (inv:Nat->List C->Prop) (P:List C->Prop)
  (step:∀n st,inv n st->(∃st' n',n'<n/\inv n' st'/\∀k rec:KD R,F k rec st []=rec st' [])\/(∃d,P d/\∀k rec:KD R,F k rec st []=k d [])):
  ∀(m n:Nat) (st:List C) (N:Nat),n<=m->inv n st->n<N->∃d,P d/\∀k:KD R,Ac N (F k) st []=k d []
 |m,n,st,N,hm,hi,hN=>by
  obtain⟨N,rfl⟩:∃a,N=a+1:=⟨N-1,by omega⟩;rcases step n st hi with⟨st',n',h1,h2,h3⟩|⟨d,h1,h2⟩
  ·match m with
   |0=>omega
   |m+1=>
    obtain⟨d,h4,h5⟩:=eS inv P step m n' st' N (by omega) h2 (by omega);exact⟨d,h4,fun k=>by rw[Bm,h3,h5]⟩
  ·exact⟨d,h1,fun k=>by rw[Bm,h2]⟩
theorem FO {F:KD R->KD R->List C->List Es->Option R} (n:Nat) (inv:Nat->List C->Prop) (P:List C->Prop)
  (step:∀i st,i<n->inv i st->∃st',inv (i+1) st'/\∀k rec:KD R,F k rec st []=rec st' [])
  (stop:∀st,inv n st->∃d,P d/\∀k rec:KD R,F k rec st []=k d [])
  {N:Nat} (hN:n<N) {st:List C} (h0:inv 0 st):∃d,P d/\∀k:KD R,Ac N (F k) st []=k d []:=by
 refine eS (fun m st=>∃i,i+m=n/\inv i st) P (fun m st hi=>?_) n n st N (ca n) ⟨0,by omega,h0⟩ hN;obtain⟨i,h1,h2⟩:=hi;by_cases e:i=n
 ·subst e;exact .inr (stop st h2)
 ·obtain⟨st',h3,h4⟩:=step i st (by omega) h2;exact .inl ⟨st',m-1,by omega,⟨i+1,by omega,h3⟩,h4⟩
theorem z4W (x:Int):0<=IntKind.u64.wrap x/\IntKind.u64.wrap x<18446744073709551616:=by
 have:IntKind.u64.wrap x=x%18446744073709551616:=by simp[ar,jk,iw]
 omega
theorem nA (x m:Int) (hx:0<=x) (hm:0<m):0<=bq x m/\bq x m<m:=⟨Int.tmod_nonneg _ hx,Int.tmod_lt_of_pos _ hm⟩
def Dig (c:C):Prop:=∃l:List C,c= .agg l/\l.length=32
end
section
variable {R:Type} {N:Nat}
abbrev W32:=BitVec 32
def wI (x:W32):C:=.int (x.toNat:Int)
theorem Gm (x:W32):(wI x).toInt=(x.toNat:Int):=rfl
theorem wrap_u32 (x:Int):IntKind.u32.wrap x=x%4294967296:=by simp[ar,jk,iw]
theorem CJ (x:W32):x.toNat<4294967296:=x.isLt
theorem Oz (x:W32):dv 32 (x.toNat:Int)=x:=by rw[lg,BitVec.ofNat_toNat,BitVec.setWidth_eq]
theorem nU (x:W32):IntKind.u32.wrap (x.toNat:Int)=(x.toNat:Int):=by rw[wrap_u32];have:=CJ x;omega
theorem Yn (x y:W32):Aj qp cm (x.toNat:Int) (y.toNat:Int)=((x|||y).toNat:Int):=by
 show IntKind.u32.wrap (((dv 32 (x.toNat:Int))|||(dv 32 (y.toNat:Int))).toNat:Int)=_;rw[Oz,Oz];exact nU _
theorem q2y (x y:W32):Aj dr cm (x.toNat:Int) (y.toNat:Int)=((x&&&y).toNat:Int):=by
 show IntKind.u32.wrap (((dv 32 (x.toNat:Int))&&&(dv 32 (y.toNat:Int))).toNat:Int)=_;rw[Oz,Oz];exact nU _
theorem Yo (x y:W32):Aj ep cm (x.toNat:Int) (y.toNat:Int)=((x^^^y).toNat:Int):=by
 show IntKind.u32.wrap (((dv 32 (x.toNat:Int))^^^(dv 32 (y.toNat:Int))).toNat:Int)=_;rw[Oz,Oz];exact nU _
theorem Ym (x y:W32):IntKind.u32.wrap ((x.toNat:Int)+(y.toNat:Int))=((x+y).toNat:Int):=by rw[wrap_u32,BitVec.toNat_add];omega
theorem q2z (x:W32) (k:Nat):IntKind.u32.wrap ((x.toNat:Int)*2^k)=((x <<< k).toNat:Int):=by
 rw[wrap_u32,sv,xc];have:((x.toNat*2^k:Nat):Int)=(x.toNat:Int)*2^k:=by simp
 omega
theorem q2A (x:W32) (k:Nat):fx (x.toNat:Int) (2^k)=((x >>> k).toNat:Int):=by
 rw[mi,mu,Int.fdiv_eq_ediv_of_nonneg _ (Int.pow_nonneg (by omega))];simp
def FG (x:W32) (k:Nat):W32:=x <<< (32-k)|||x >>> k
theorem lV (x:W32) (a:Int) (s:Nat) (hs:Aj dr ay (ar ay a) 31=((32-s:Nat):Int)) (h0:0<s) (h1:s<=32) (k:KD R):
  Mb N (wI x) (.int a) k=k [wI (FG x s)] []:=by
 have e1:IntKind.u64.wrap (32-((32-s:Nat):Int))=(s:Int):=by rw[wrap_u64 (by omega) (by omega)];omega
 have e2:min (32-s) 32=32-s:=by omega
 have e3:min s 32=s:=by omega
 rw[zO];unfold eU;simp only[AB,Gm,hs,e1,bh,e2,e3,q2z,q2A,Yn,bu,if_true];rfl
def Ug (x:W32) (a b c:Nat) (f:Bool):W32:=FG x a^^^FG x b^^^(if f then x >>> c else FG x c)
theorem Yb (x:W32) (a b c:Nat) (f:Bool) (ha:0<a/\a<=31) (hb:0<b/\b<=31) (hc:0<c/\c<=31) (k:KD R):
  Hu N (wI x) (.int a) (.int b) (.int c) (.bool f) k=k [wI (Ug x a b c f)] []:=by
 have key:∀s:Nat,0<s/\s<=31->Aj dr ay (ar ay (ar aw (0-(s:Int)))) 31=((32-s:Nat):Int):=by
  intro s hs;have:∀s:Fin 32,0<s.val->Aj dr ay (ar ay (ar aw (0-(s.val:Int)))) 31=((32-s.val:Nat):Int):=by decide
  exact this ⟨s,by omega⟩ hs.1
 have ra:=fun k:KD R=>lV (N:=N) x (ar aw (0-(a:Int))) a (key a ha) ha.1 (by omega) k;have rb:=fun k:KD R=>lV (N:=N) x (ar aw (0-(b:Int))) b (key b hb) hb.1 (by omega) k;have rc:=fun k:KD R=>lV (N:=N) x (ar aw (0-(c:Int))) c (key c hc) hc.1 (by omega) k;have e3:min c 32=c:=by omega
 rw[ag];unfold fF;cases f
 ·simp only[AQ,AF,AL,AP,AU,AB,Ah,ra,rb,rc,cond_false,Gm,Yo];rfl
 ·simp only[AQ,AF,AL,AP,AU,AB,Ah,ra,rb,rc,AE,Gm,bu,bh,e3,q2A,Yo];rfl
def Ix (b:List C):W32:=b.foldl (fun n c=>n <<< 8|||dv 32 c.toInt) 0
end
def TV {R:Type} (N:Nat) (k2:KD R):KD R->KD R:=fun k3 d1 m1=>(bif decide (ao (dk d1 4)<ao (dk d1 1))then(k3 [dk d1 0,dk d1 1,cg (cz (dk d1 2)),az (ar ay (ao (dk d1 3)*2)),az (ar aw (ao (dk d1 4)+1))] [])else(k2 [dk d1 0,cg (cz (dk d1 2)),dk d1 3] []))
def jG (a0 a1 a2:C) (k1:KD R):Option R:=jn (fun d1 m1=>(bif cz (dk d1 1)then(if ao (dk d1 2)≠0 then(if ao (dk d1 2)≠0 then(if ao (dk d1 2)≠0 then(k1 [az (ar ay (ar ay (dz (ao (dk d1 0)) (ao (dk d1 2)))+ar ay (bq (ao (dk d1 0)) (ao (dk d1 2))*ar ay (dz 4294967296 (ao (dk d1 2))))))] [])else none)else none)else none)else(if ao (dk d1 2)≠0 then(k1 [az (ar ay (dz (ao (dk d1 0)) (ao (dk d1 2))))] [])else none))) (fun k2=>(Ac N (TV N k2) [a0,a1,cg (cz a2),az 1,az 0] []))
def Cd:=lid "" (@jG R N)
theorem J6 {R N a0 a1 a2 k}:@Cd R N a0 a1 a2 k=jG N a0 a1 a2 k:=by unfold Cd;rw[AV]
def z1n:OvG R:=Ae [.int .u64,.int .i64,.bool] (Eb (Cd N)) (BD (br ay))
theorem z1o:okX 122 (@z1n R N):=Ai AW N [] [(122,[([1,0,1,1],(AX [0,2] [(7,.d (.int .u64))])),
  ([4,1,0,1,1],(AX [0,1,2] [(7,.d (.int .u64)),(8,.d (.int .i64))])),
  ([9],(Af [(6,.d (.int .u64))]))])] (fun _ _=>J6)
section
variable {R:Type} {N:Nat}
theorem z3i (x:W32) (n:Nat) (h1:n<=32):(FG x n).toNat=x.toNat / 2^n+x.toNat%2^n*2^(32-n):=by
 have hx:=CJ x;have hb:x.toNat / 2^n<2^(32-n):=by
  rw[Nat.div_lt_iff_lt_mul (xt n),<-vl,show 32-n+n=32 by omega];exact hx
 have hm:x.toNat*2^(32-n)%4294967296=x.toNat%2^n*2^(32-n):=by
  rw[show(4294967296:Nat)=2^n*2^(32-n) by rw[<-vl,show n+(32-n)=32 by omega]];exact Nat.mul_mod_mul_right _ _ _
 unfold FG;rw[vn,sv,mi,xc,mu];rw[show(2:Nat)^32=4294967296 by decide,hm,Nat.mul_comm (x.toNat%2^n)];rw[<-sf hb];omega
theorem IB (x:W32) (n:Nat) (h0:0<n) (h1:n<=31) (f:Bool) (hN:100<N) (k:KD R):Cd N (wI x) (.int n) (.bool f) k=k [wI (if f then FG x n else x >>> n)] []:=by
 have lp:∀K:KD R,Ac N (TV N K) [wI x,.int n,.bool f,.int 1,.int 0] []=K [wI x,.bool f,.int ((2^n:Nat):Int)] []:=fun K=>by
  refine Dd (F:=TV N K) (fun i=>[wI x,.int n,.bool f,.int ((2^i:Nat):Int),.int i]) (fun _=>[]) n _ ?_ ?_ (N:=N) (by omega)
  ·intro i hi rec;have e1:(i:Int)<(n:Int):=by omega
   have e2:2^i<=2^31:=Nat.pow_le_pow_right (by omega) (by omega);have e3:IntKind.u64.wrap (((2^i:Nat):Int)*2)=((2^(i+1):Nat):Int):=by
    rw[Nat.pow_succ];obtain⟨q,hq⟩:∃q:Nat,2^i=q:=⟨_,rfl⟩;rw[hq]at e2 ⊢;rw[wrap_u64 (by omega) (by omega)];omega
   unfold TV;simp only[AF,AL,AP,AU,Ab,AB,Ah,e1,e3,AE,BM (show i<4611686018427387904 by omega)]
  ·intro rec;unfold TV;simp only[AF,AL,AP,AU,Ab,AB,Ah,fb,AE]
 have hx:=CJ x;obtain⟨p,hp⟩:∃p:Nat,2^n=p:=⟨_,rfl⟩;obtain⟨r,hr⟩:∃r:Nat,2^(32-n)=r:=⟨_,rfl⟩;have hp1:0<p:=by rw[<-hp];exact xt n
 have hpr:4294967296=p*r:=by rw[<-hp,<-hr,<-vl,show n+(32-n)=32 by omega]
 have td:∀a:Nat,dz (a:Int) (p:Int)=((a / p:Nat):Int):=fun a=>by rw[Int.tdiv_eq_ediv_of_nonneg (by omega)];omega
 have tm:bq (x.toNat:Int) (p:Int)=((x.toNat%p:Nat):Int):=by rw[dp (by omega)];omega
 have t2:dz 4294967296 (p:Int)=(r:Int):=by
  have:=td 4294967296;rw[show(4294967296 / p:Nat)=r by rw[hpr];exact Nat.mul_div_cancel_left r hp1]at this;exact this
 have hr31:r<=4294967296:=by rw[hpr];exact Nat.le_mul_of_pos_left r hp1
 have z5J:x.toNat%p<p:=Nat.mod_lt _ hp1;have z7w:x.toNat%p*r<=4294967296:=by rw[hpr];exact Nat.mul_le_mul_right r (by omega)
 have hdiv:x.toNat / p<=x.toNat:=Nat.div_le_self _ _;have hne:((p:Nat):Int)≠0:=by omega
 have rot:=z3i x n (by omega);rw[hp,hr]at rot;rw[J6];unfold jG;simp only[AQ,Ah];rw[lp];cases f
 ·simp only[AF,AL,AP,Ah,AB,Gm,hp,td,cond_false];refine(if_pos hne).trans ?_;have e:IntKind.u64.wrap ((x.toNat / p:Nat):Int)=((x.toNat / p:Nat):Int):=wrap_u64 (bu _) (by generalize x.toNat / p=d at hdiv ⊢;omega);have e2:(x >>> n).toNat=x.toNat / p:=by rw[mi,mu,hp]
  rw[e];show k [.int ((x.toNat / p:Nat):Int)] []=k [.int ((x >>> n).toNat:Int)] [];rw[e2]
 ·simp only[AF,AL,AP,Ah,AB,Gm,hp,td,tm,t2,cond_true];refine(if_pos hne).trans ?_;refine(if_pos hne).trans ?_;refine(if_pos hne).trans ?_;have e:IntKind.u64.wrap ((x.toNat / p:Nat):Int)=((x.toNat / p:Nat):Int):=wrap_u64 (bu _) (by generalize x.toNat / p=d at hdiv ⊢;omega);have e3:IntKind.u64.wrap (r:Int)=(r:Int):=wrap_u64 (by omega) (by omega);have e4:IntKind.u64.wrap (((x.toNat%p:Nat):Int)*(r:Int))=((x.toNat%p*r:Nat):Int):=by rw[wrap_u64 (Int.mul_nonneg (by omega) (by omega)) (by rw[<-Int.natCast_mul];omega)];simp
  have e5:IntKind.u64.wrap (((x.toNat / p:Nat):Int)+((x.toNat%p*r:Nat):Int))=((FG x n).toNat:Int):=by rw[rot];generalize x.toNat / p=d at hdiv rot ⊢;generalize x.toNat%p*r=q at z7w rot ⊢;rw[wrap_u64 (by omega) (by omega)];simp
  rw[e,e3,e4,e5];rfl
end
section
variable {R:Type} {N:Nat}
def ksW:List W32:=[1116352408,1899447441,3049323471,3921009573,961987163,1508970993,2453635748,2870763221,3624381080,310598401,607225278,1426881987,1925078388,2162078206,2614888103,3248222580,3835390401,4022224774,264347078,604807628,770255983,1249150122,1555081692,1996064986,2554220882,2821834349,2952996808,3210313671,3336571891,3584528711,113926993,338241895,666307205,773529912,1294757372,1396182291,1695183700,1986661051,2177026350,2456956037,2730485921,2820302411,3259730800,3345764771,3516065817,3600352804,4094571909,275423344,430227734,506948616,659060556,883997877,958139571,1322822218,1537002063,1747873779,1955562222,2024104815,2227730452,2361852424,2428436474,2756734187,3204031479,3329325298]
theorem z4f (k:KD R):SV N k=k [.agg (ksW.map wI)] []:=by
 rw[ae];unfold fE;rfl
theorem HF {l:List W32} {i:Nat} (h:i<l.length):bc (.agg (l.map wI)) i=wI (l.getD i 0):=by
 show(l.map wI).getD i .nil=_;rw[bn,di,bn,bm h];rfl
theorem q1v (l:List W32) (i:Nat) (x:W32):db (.agg (l.map wI)) i (wI x)= .agg ((l.set i x).map wI):=by
 show dj ((l.map wI).set i (wI x))=_;rw[List.map_set]
def BO (c:C):Prop:=c= .int c.toInt/\0<=c.toInt/\c.toInt<256
theorem q3Q {c:C} (h:BO c):IntKind.u32.wrap c.toInt=((dv 32 c.toInt).toNat:Int):=by
 obtain⟨_,h1,h2⟩:=h;obtain⟨n,hn⟩:=nm h1;rw[hn,wrap_u32];show _=((dv 32 (n:Int)).toNat:Int);rw[lg,ui];simp
theorem z4T (l:List C) (hl:4<=l.length) (hb:∀c∈l,BO c) (hN:10<N) (k:KD R):Ot N (.slice l) k=k [wI (Ix (l.take 4))] []:=by
 have hc:cut l 0 4=l.take 4:=by simp[cut]
 have hc4:(l.take 4).length=4:=by simp;omega
 have hb4:∀c∈l.take 4,BO c:=fun c hc=>hb c (List.mem_of_mem_take hc);rw[ah];unfold fG;simp only[AJ,hc,hc4,AQ];refine(if_pos ⟨by decide,by decide,by omega⟩).trans ?_;generalize l.take 4=b at*;have key:=Dd (F:=Wo N fun d1 m1=>k [dk d1 0] []) (fun i=>[.slice b,.int (4:Nat),wI (Ix (b.take i)),.int i]) (fun _=>[]) 4 (k [wI (Ix b)] []) ?_ ?_ (N:=N) (by omega)
 ·exact key
 ·intro i hi rec;have h1:(i:Int)<((4:Nat):Int):=by omega
  have h2:i<b.length:=by omega
  have hw:=q3Q (hb4 _ (CR h2));have e8:min (av 8) 32=8:=rfl;have et:b.take (i+1)=b.take i++[b.getD i .nil]:=by rw[mb,bm h2,bn,bm h2];rfl
  have ef:Ix (b.take (i+1))=Ix (b.take i) <<< 8|||dv 32 (b.getD i .nil).toInt:=by rw[et];unfold Ix;rw[List.foldl_append];rfl
  unfold Wo;simp only[AF,AL,AP,AU,AB,AJ,hc4,h1,e8,Gm,hw,q2z,Yn,AE,bu,and_self,bh,BM (show i<4611686018427387904 by omega),ef];rfl
 ·intro rec;have ht:b.take 4=b:=du (by omega);unfold Wo;simp only[AF,AL,AP,AU,AB,fb,AE,ht]
def sg0 (x:W32):W32:=Ug x 7 18 3 true
def sg1 (x:W32):W32:=Ug x 17 19 10 true
def bs0 (x:W32):W32:=Ug x 2 13 22 false
def bs1 (x:W32):W32:=Ug x 6 11 25 false
def Gd (i:Nat) (yu:List W32):List W32:=
 if 16<=i then yu.set (i%16) (yu.getD (i%16) 0+(sg0 (yu.getD ((i+1)%16) 0)+yu.getD ((i+9)%16) 0+sg1 (yu.getD ((i+14)%16) 0)))else yu
def Lr (i:Nat) (yu s:List W32):W32:=
 s.getD 7 0+bs1 (s.getD 4 0)+(s.getD 6 0^^^(s.getD 4 0&&&(s.getD 5 0^^^s.getD 6 0)))+ksW.getD i 0+yu.getD (i%16) 0
def stepG (i:Nat) (p:List W32 × List W32):List W32 × List W32:=
 let yu:=Gd i p.1
 let s:=p.2
 let add:=Lr i yu s
 (yu,[add+bs0 (s.getD 0 0)+((s.getD 0 0&&&s.getD 1 0)|||(s.getD 2 0&&&(s.getD 0 0|||s.getD 1 0))),s.getD 0 0,s.getD 1 0,s.getD 2 0,s.getD 3 0+add,s.getD 4 0,s.getD 5 0,s.getD 6 0])
def CG (yu h:List W32):Nat->List W32 × List W32
 |0=>(yu,h)
 |i+1=>stepG i (CG yu h i)
theorem q9q (i:Nat) (l:List W32):(Gd i l).length=l.length:=by unfold Gd;split <;> simp
theorem QG {yu h:List W32} (hn:yu.length=16) (hh:h.length=8):∀i,(CG yu h i).1.length=16/\(CG yu h i).2.length=8
 |0=>⟨hn,hh⟩
 |i+1=>⟨by show(Gd i _).length=16;rw[q9q];exact(QG hn hh i).1,rfl⟩
theorem q7c:ksW.length=64:=rfl
end
section
variable {R:Type} {N:Nat}
theorem q18 (a b:Nat):bq (a:Int) (b:Int)=((a%b:Nat):Int):=by rw[dp (by omega)];omega
theorem mF (l:List W32) (i:Nat) (x:W32):db (.agg (l.map wI)) i (.int (x.toNat:Int))= .agg ((l.set i x).map wI):=q1v l i x
theorem okB {R:Type} (o:OvS (X0 gl0)) {tb hs N n d f xs} {A:Key->Option O} {K:V->List (Key × O)->Option R} {r} (h:exF (X0 gl0) (o.ov R) OT tb hs N n d f xs A K=some r):∃v L,Bg (X0 gl0) f xs A v L/\K v L=some r:=Vo (ok0 gl0) (mo gl0) (o.gS _) (bQ gl0) _ _ _ _ _ _ h
theorem okA {R:Type} (o:OvS (X0 gl0)) {tb hs N n d f xs} {A:Key->Option O} {K:V->List (Key × O)->Option R} {r} (h:exF (X0 gl0) (o.ov R) OT tb hs N n d f xs A0 K=some r):∃v L,Bg (X0 gl0) f xs A v L/\K v L=some r:=let ⟨v,L,h1,h2⟩:=okB o h
 ⟨v,L,h1.mono (yA fun _=>rfl),h2⟩
theorem z3j (yu s:List W32) (w:C) (i:Nat) (hi:i<64) (hn:yu.length=16) (hs:s.length=8) (hN:100<N) (k rec:KD R):
  Oq N k rec [.agg (ksW.map wI),.int i,w,.agg (yu.map wI),.agg (s.map wI)] []=
   rec [.agg (ksW.map wI),.int ((i+1:Nat):Int),w,.agg ((stepG i (yu,s)).1.map wI),.agg ((stepG i (yu,s)).2.map wI)] []:=by
 have e1:(i:Int)<64:=by omega
 have e5:((i+1:Nat):Int)=(i:Int)+1:=by omega
 have q1:IntKind.i64.wrap ((i:Int)+1)=((i+1:Nat):Int):=by rw[wrap_i64 (by omega) (by omega)];omega
 have q9:IntKind.i64.wrap ((i:Int)+9)=((i+9:Nat):Int):=by rw[wrap_i64 (by omega) (by omega)];omega
 have q14:IntKind.i64.wrap ((i:Int)+14)=((i+14:Nat):Int):=by rw[wrap_i64 (by omega) (by omega)];omega
 have c16:∀a:Nat,bq (a:Int) 16=((a%16:Nat):Int):=fun a=>q18 a 16;have r16:∀a:Nat,((a%16:Nat):Int)<16:=fun a=>by omega
 have gk:bc (.agg (ksW.map wI)) i=wI (ksW.getD i 0):=HF (by rw[q7c];exact hi);have gn:∀(l:List W32),l.length=16->∀a:Nat,bc (.agg (l.map wI)) (a%16)=wI (l.getD (a%16) 0):=fun l hl a=>HF (by omega);have gs:∀a:Nat,a<8->bc (.agg (s.map wI)) a=wI (s.getD a 0):=fun a ha=>HF (by omega);have g0:=gs 0 (by omega);have g1:=gs 1 (by omega);have g2:=gs 2 (by omega);have g3:=gs 3 (by omega);have g4:=gs 4 (by omega);have g5:=gs 5 (by omega);have g6:=gs 6 (by omega);have g7:=gs 7 (by omega);have t0:av 0=0:=rfl;have t1:av 1=1:=rfl;have t2:av 2=2:=rfl;have t3:av 3=3:=rfl;have t4:av 4=4:=rfl;have t5:av 5=5:=rfl;have t6:av 6=6:=rfl;have t7:av 7=7:=rfl;have a1:∀k:KD R,Hu N (wI (s.getD 4 0)) (.int 6) (.int 11) (.int 25) (.bool false) k=k [wI (bs1 (s.getD 4 0))] []:=fun k=>Yb (N:=N) (s.getD 4 0) 6 11 25 false (by omega) (by omega) (by omega) k;have a2:∀k:KD R,Hu N (wI (s.getD 0 0)) (.int 2) (.int 13) (.int 22) (.bool false) k=k [wI (bs0 (s.getD 0 0))] []:=fun k=>Yb (N:=N) (s.getD 0 0) 2 13 22 false (by omega) (by omega) (by omega) k;have a3:∀k:KD R,Hu N (wI (yu.getD ((i+1)%16) 0)) (.int 7) (.int 18) (.int 3) (.bool true) k=k [wI (sg0 (yu.getD ((i+1)%16) 0))] []:=fun k=>Yb (N:=N) (yu.getD ((i+1)%16) 0) 7 18 3 true (by omega) (by omega) (by omega) k;have a4:∀k:KD R,Hu N (wI (yu.getD ((i+14)%16) 0)) (.int 17) (.int 19) (.int 10) (.bool true) k=k [wI (sg1 (yu.getD ((i+14)%16) 0))] []:=fun k=>Yb (N:=N) (yu.getD ((i+14)%16) 0) 17 19 10 true (by omega) (by omega) (by omega) k;unfold Oq;by_cases e2:16<=(i:Int)
 ·have e2n:16<=i:=by omega
  have hn2:(yu.set (i%16) (yu.getD (i%16) 0+(sg0 (yu.getD ((i+1)%16) 0)+yu.getD ((i+9)%16) 0+sg1 (yu.getD ((i+14)%16) 0)))).length=16:=by rw[List.length_set];exact hn
  have hG:Gd i yu=yu.set (i%16) (yu.getD (i%16) 0+(sg0 (yu.getD ((i+1)%16) 0)+yu.getD ((i+9)%16) 0+sg1 (yu.getD ((i+14)%16) 0))):=by unfold Gd;rw[if_pos e2n]
  simp only[AQ,AF,AL,AP,AU,Ab,Av,Ba,AB,e1,e2,q1,q9,q14,c16,r16,AE,bu,and_self,bh,t0,t1,t2,t3,t4,t5,t6,t7,gk,gn yu hn,g0,g1,g2,g3,g4,g5,g6,g7,a1,a2,a3,a4,Gm,Ym,mF];simp only[gn _ hn2,Gm,Ym,q2y,Yn,Yo,stepG,Lr,hG];rfl
 ·have e2n:¬16<=i:=by omega
  have hG:Gd i yu=yu:=by unfold Gd;rw[if_neg e2n]
  simp only[AQ,AF,AL,AP,AU,Ab,Av,Ba,AB,e1,e2,q1,c16,r16,AE,bu,and_self,bh,t0,t1,t2,t3,t4,t5,t6,t7,gk,gn yu hn,g0,g1,g2,g3,g4,g5,g6,g7,a1,a2,Gm,Ym,q2y,Yn,Yo];simp only[stepG,Lr,hG];rfl
end
end Go.Proofs.YtgdonkaoajbclaaGreatDoor
