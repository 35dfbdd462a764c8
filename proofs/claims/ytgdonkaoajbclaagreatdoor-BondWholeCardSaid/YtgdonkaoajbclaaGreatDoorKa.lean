/-
What Go functions compute, part 1.
Conditions: none.
-/
import Derived.Test.YtgdonkaoajbclaaGreatDoorTf
import Derived.Laws.Externs
import Derived.Lib.Bytealg
set_option linter.all false
noncomputable section
set_option maxRecDepth 100000
set_option maxHeartbeats 4000000
open Array renaming getElem?_eq_getElem->ee
open BitVec renaming ofInt->dt,ofInt_natCast->lb,toNat_ofNat->uh,toNat_or->vl,toNat_shiftLeft->su,toNat_ushiftRight->mh
open Bool renaming false_eq_true->fe
open Go.BinOp renaming and->dq,or->qo,xor->ej
open Go.E.C renaming agg->dh,bool->cd,elems->ao,get->ax,int->aw,nil->du,set->ct,slice->bc,toBool->cz,toInt->aj
open Go.E.Key renaming l->di
open Go.E.Ty renaming arr->cq,bool->eg,int->bn
open Go.IntKind renaming bits->jc,i64->ar,signed->ig,u32->cf,u64->av,u8->bp,wrap->al
open Go.IntWalk renaming i64_in->df
open Int renaming eq_ofNat_of_zero_le->nk,fdiv->fw,lt_irrefl->fa,natCast_nonneg->bq,ofNat->ja,tdiv->dx,tmod->bm,tmod_eq_emod_of_nonneg->dj,toNat->aq,toNat_natCast->bf,toNat_of_nonneg->gr
open List renaming all_eq_true->eh,getD->bj,getD_eq_getElem?_getD->bh,getElem?_eq_getElem->bg,getElem?_map->dg,getElem_mem->jx,length->ak,length_append->bt,length_cons->cg,length_map->ep,length_nil->de,map_cons->dy,mem_append->dw,mem_filter->mi,mem_map->ny,mem_singleton->fq,replicate->ay,take_add_one->lz,take_of_length_le->dr
open Nat renaming beq->bw,beq_refl->br,le_refl->bx,mod_eq_of_lt->qg,pow_add->vj,shiftLeft_eq->xd,shiftRight_eq_div_pow->mr,two_pow_add_eq_or_of_lt->se,two_pow_pos->xu,zero_add->cm,zero_le->dv
open Option renaming ite_none_right_eq_some->au
namespace Go.Proofs.YtgdonkaoajbclaaGreatDoor
open Go Go.E
variable {R:Type} (N:Nat)
section
variable {gl:Nat->Option (Ty × C)}
def Ew (l:List UInt8) (m c:Int):C:=.agg [.str l,.int m,.int c]
def Ey:List C:=[Ew [104,97,108,116] 0 1,Ew [112,117,115,104] 8 1,Ew [108,111,97,100] 1 1,Ew [97,100,100] 0 1,Ew [115,117,98] 0 1,Ew [109,117,108] 0 3,
 Ew [108,101,115,115] 0 1,Ew [115,97,109,101] 0 1,Ew [110,111,116] 0 1,Ew [98,111,116,104] 0 1,Ew [97,110,121] 0 1,Ew [106,117,109,112] 2 1,Ew [105,102] 2 1,
 Ew [116,119,105,99,101] 0 1,Ew [115,119,97,112] 0 1,Ew [100,114,111,112] 0 1,Ew [112,97,105,100] 1 10,Ew [110,111,119] 0 1]
def GF (gl:Nat->Option (Ty × C)):Prop:=gl 0=some (.arr 18 q2f,.agg Ey)
def BA (o:Int):Nat:=if o=1 then 8 else if o=2\/o=16 then 1 else if o=11\/o=12 then 2 else 0
def KH (o:Int):BA o<=8:=by unfold BA;(repeat' split) <;> omega
def q6J:∀(o:Nat),o<18->(Ey.getD o .nil).get 1= .int (BA o):=by
 intro o h;have c:o=0\/o=1\/o=2\/o=3\/o=4\/o=5\/o=6\/o=7\/o=8\/o=9\/o=10\/o=11\/o=12\/o=13\/o=14\/o=15\/o=16\/o=17:=by omega
 rcases c with rfl|rfl|rfl|rfl|rfl|rfl|rfl|rfl|rfl|rfl|rfl|rfl|rfl|rfl|rfl|rfl|rfl|rfl <;> rfl
def bN (p:List C) (i:Nat):Int:=(p.getD i .nil).toInt
def CC (p:List C) (i:Nat):Nat->Int
 |0=>0|k+1=>CC p i k*256+bN p (i+k)
def Ar (p:List C) (i:Nat):Int:=
 if p.length<=i then 9 else if 18<=bN p i then 33 else if p.length<i+1+BA (bN p i)then 9 else 0
def Hm {p:List C} (h:C.wf (.slice 1 (.int .u8)) (.slice p)) {i:Nat} (hi:i<p.length):p.getD i .nil= .int (bN p i)/\0<=bN p i/\bN p i<=255:=by
 have:=C.z5d (i:=i) h hi;simp only[ao,C.wf]at this;have m1:IntKind.u8.min=0:=by decide
 have m2:IntKind.u8.max=255:=by decide
 exact⟨this.1,by unfold bN;omega,by unfold bN;omega⟩
def ZQ {p:List C} (h:C.wf (.slice 1 (.int .u8)) (.slice p)) {i:Nat}:∀{k:Nat},i+k<=p.length->0<=CC p i k/\CC p i k<256^k
 |0,_=>by simp[CC]
 |k+1,hk=>by
  have ih:=ZQ h (k:=k) (i:=i) (by omega);have hb:=Hm h (i:=i+k) (by omega);simp only[CC];have e:(256:Int)^(k+1)=256^k*256:=by rw[Int.pow_succ]
  omega
def Lx {p:List C} (h:C.wf (.slice 1 (.int .u8)) (.slice p)) {i k:Nat} (hk:i+k<=p.length) (h8:k<=8):0<=CC p i k/\CC p i k<=18446744073709551615/\(k<8->CC p i k<72057594037927936):=by
 obtain⟨h1,h2⟩:=ZQ h hk;have c:k=0\/k=1\/k=2\/k=3\/k=4\/k=5\/k=6\/k=7\/k=8:=by omega
 rcases c with rfl|rfl|rfl|rfl|rfl|rfl|rfl|rfl|rfl <;> simp at h2 <;> omega
def z0H {a b:Int} (ha:0<=a) (ha2:a<72057594037927936) (hb:0<=b) (hb2:b<=255):Aj .or .u64 (a*256) b=a*256+b:=by
 obtain⟨x,rfl⟩:=nk ha;obtain⟨y,rfl⟩:=nk hb;have hx:x<72057594037927936:=by omega
 have hy:y<256:=by omega
 have e1:((x:Int)*256)=((x*256:Nat):Int):=by omega
 have key:(x*256)|||y=x*256+y:=by have:=se (i:=8) (b:=y) (by omega) x;rw[Nat.mul_comm x 256];exact this.symm
 rw[e1];show IntKind.u64.wrap (((dt 64 ((x*256:Nat):Int))|||(dt 64 ((y:Nat):Int))).toNat:Int)=_;simp only[vl,lb,uh];rw[qg (by omega),qg (by omega),key];have m1:IntKind.u64.min=0:=by decide
 have m2:IntKind.u64.max=18446744073709551615:=by decide
 exact(Lp (by omega) (by omega)).trans (by omega)
def uX (p:List C) (i:Nat):V:=.tup [.d (.int .i64) (.int (if Ar p i=0 then bN p i else 0)),.d (.int .u64) (.int (if Ar p i=0 then CC p (i+1) (BA (bN p i))else 0)),
 .d (.int .i64) (.int (if Ar p i=0 then((i+1+BA (bN p i):Nat):Int)else 0)),.d (.int .i64) (.int (Ar p i))]
end
section
variable {gl:Nat->Option (Ty × C)}
def q4o (A:Key->Option O) (cs:List C):Bo (X0 gl) 34 [.d (.slice 1 (.int .u8)) (.slice cs)] A (.ts 1 (.int .u8) cs) []:=by
 refine aQ (n:=8) (ok0 gl) Tryz.func34 rfl rfl (by simp) ?_;intro A' hA;refine Ec (Ih (ok0 gl) [] (by kernel_rfl) ?_);simp only[go_sem,↓FE,↓FD,↓FC,↓FB,↓FF,↓EV,↓EU,↓ER,↓ES,simprocAttr];refine Ec (Ec (Ih (ok0 gl) [] (by kernel_rfl) ?_));cases cs with
 |nil=>
  simp only[go_sem,↓FE,↓FD,↓FC,↓FB,↓FF,↓EV,↓EU,↓ER,↓ES,simprocAttr];refine rW rfl ?_ (Nu ?_);{refine Ec (Ih (ok0 gl) [] (by kernel_rfl) ?_);simp only[go_sem,↓FE,↓FD,↓FC,↓FB,↓FF,↓EV,↓EU,↓ER,↓ES,simprocAttr];refine ML ⟨.inr rfl,?_⟩;simp only[Jh,go_sem,↓FE,↓FD,↓FC,↓FB,↓FF,↓EV,↓EU,↓ER,↓ES,simprocAttr,Tryz.f34]};{refine Ec (Ih (ok0 gl) [] (by kernel_rfl) ?_);simp only[go_sem,↓FE,↓FD,↓FC,↓FB,↓FF,↓EV,↓EU,↓ER,↓ES,simprocAttr];refine ML ⟨.inr rfl,?_⟩;simp only[Jh,go_sem,↓FE,↓FD,↓FC,↓FB,↓FF,↓EV,↓EU,↓ER,↓ES,simprocAttr,Tryz.f34]}
 |cons c cs=>
  simp only[go_sem,↓FE,↓FD,↓FC,↓FB,↓FF,↓EV,↓EU,↓ER,↓ES,simprocAttr];refine rU _ rfl (fun h=>by simp at h) (fun _=>Nu ?_);refine Ec (Ih (ok0 gl) [] (by kernel_rfl) ?_);simp only[go_sem,↓FE,↓FD,↓FC,↓FB,↓FF,↓EV,↓EU,↓ER,↓ES,simprocAttr];refine ML ⟨.inr rfl,?_⟩;simp only[Jh,go_sem,↓FE,↓FD,↓FC,↓FB,↓FF,↓EV,↓EU,↓ER,↓ES,simprocAttr,Tryz.f34]
def q4p (A:Key->Option O) (cs:List C):Bo (X0 gl) 89 [.d (.slice 64 DQ) (.slice cs)] A (.ts 64 DQ cs) []:=by
 refine aQ (n:=8) (ok0 gl) Tryz.func89 rfl rfl (by simp) ?_;intro A' hA;refine Ec (Ih (ok0 gl) [] (by kernel_rfl) ?_);simp only[go_sem,↓FE,↓FD,↓FC,↓FB,↓FF,↓EV,↓EU,↓ER,↓ES,simprocAttr];refine Ec (Ec (Ih (ok0 gl) [] (by kernel_rfl) ?_));cases cs with
 |nil=>
  simp only[go_sem,↓FE,↓FD,↓FC,↓FB,↓FF,↓EV,↓EU,↓ER,↓ES,simprocAttr];refine rW rfl ?_ (Nu ?_);{refine Ec (Ih (ok0 gl) [] (by kernel_rfl) ?_);simp only[go_sem,↓FE,↓FD,↓FC,↓FB,↓FF,↓EV,↓EU,↓ER,↓ES,simprocAttr];refine ML ⟨.inr rfl,?_⟩;simp only[Jh,go_sem,↓FE,↓FD,↓FC,↓FB,↓FF,↓EV,↓EU,↓ER,↓ES,simprocAttr,Tryz.f89]};{refine Ec (Ih (ok0 gl) [] (by kernel_rfl) ?_);simp only[go_sem,↓FE,↓FD,↓FC,↓FB,↓FF,↓EV,↓EU,↓ER,↓ES,simprocAttr];refine ML ⟨.inr rfl,?_⟩;simp only[Jh,go_sem,↓FE,↓FD,↓FC,↓FB,↓FF,↓EV,↓EU,↓ER,↓ES,simprocAttr,Tryz.f89]}
 |cons c cs=>
  simp only[go_sem,↓FE,↓FD,↓FC,↓FB,↓FF,↓EV,↓EU,↓ER,↓ES,simprocAttr];refine rU _ rfl (fun h=>by simp at h) (fun _=>Nu ?_);refine Ec (Ih (ok0 gl) [] (by kernel_rfl) ?_);simp only[go_sem,↓FE,↓FD,↓FC,↓FB,↓FF,↓EV,↓EU,↓ER,↓ES,simprocAttr];refine ML ⟨.inr rfl,?_⟩;simp only[Jh,go_sem,↓FE,↓FD,↓FC,↓FB,↓FF,↓EV,↓EU,↓ER,↓ES,simprocAttr,Tryz.f89]
end
section
variable {gl:Nat->Option (Ty × C)}
def q3O (a b:C):NT (X0 gl) 64 [.d (.int .u64) a,.d (.int .u64) b,.d (.int .u64) (.int 0)] (.tup [.d (.int .u64) (.int ((a.toInt+b.toInt)%18446744073709551616)),.d (.int .u64) (.int ((a.toInt+b.toInt) / 18446744073709551616))]):=by
 intro Γ w args hl hr;have hs:args.size=3:=hl.symm;obtain⟨e1,_,l1,m1⟩:=Da (hr 0 _ _ rfl (ee (by omega)));obtain⟨e2,_,l2,m2⟩:=Da (hr 1 _ _ rfl (ee (by omega)));obtain⟨e3,_,_,_⟩:=Da (hr 2 _ _ rfl (ee (by omega)));have ea:args=#[.int .u64 a.toInt,.int .u64 b.toInt,.int .u64 0]:=by
  apply Array.ext;{simpa using hs}
  ·intro i h1 h2
   match i with
   |0=>simpa using e1|1=>simpa using e2|2=>simpa[aj]using e3|i+3=>omega
 have z:IntKind.u64.min=0:=by decide
 have z':IntKind.u64.max=18446744073709551615:=by decide
 refine⟨.tuple #[.int .u64 ((a.toInt+b.toInt)%18446744073709551616),.int .u64 ((a.toInt+b.toInt) / 18446744073709551616)],?_,#[_,_],rfl,?_⟩;{have zi:=run_callFunc_extern (P:=(X0 gl).P) (f:=64) (fn:=Tryz.f64) (e:=add64Entry) Tryz.func64 (by decide) rfl (by kernel_rfl) (by kernel_rfl) args w;rw[zi,ea,run_add64 _ _ _ (by omega) (by omega) (by omega) (by omega)];simp}
 ·refine UI rfl fun i x u hx hu=>?_
  match i with
  |0=>simp at hx hu;subst hx;subst hu;exact⟨rfl,DA (by omega) (by omega)⟩|1=>simp at hx hu;subst hx;subst hu;exact⟨rfl,DA (by omega) (by omega)⟩|i+2=>simp at hx
end
def KF:List (Nat × Ty × C)->Nat->Option (Ty × C)
 | [],_=>none|(i,x)::l,g=>bif bw g i then some x else KF l g
def zH {gl:Nat->Option (Ty × C)}:∀{l:List (Nat × Ty × C)},l.map (fun p=>gl p.1)=l.map (fun p=>some p.2)->∀g x,KF l g=some x->gl g=some x
 | [],_,g,x,h=>by cases h
 |(i,y)::l,h0,g,x,h=>by
  simp only[dy,List.cons.injEq]at h0;simp only[KF]at h;cases hb:bw g i with
  |true=>
   rw[hb,cond_true]at h;cases h;rw[Nat.eq_of_beq_eq_true hb];exact h0.1
  |false=>
   rw[hb,cond_false]at h;exact zH h0.2 g x h
def cY:List (Nat × Ty × C):=
 (0,.arr 18 q2f,.agg Ey)::
 []
def gl0:Nat->Option (Ty × C):=KF cY
def gf0:GF gl0:=rfl
theorem q6W (gl:Nat->Option (Ty × C)) (h:cY.map (fun p=>gl p.1)=cY.map (fun p=>some p.2)):∀g x,gl0 g=some x->gl g=some x:=zH h
def ZF:List V->Option V:=fun xs=>match xs with| [.d (.int .u64) a,.d (.int .u64) b,.d (.int .u64) (.int c)]=>if c=0 then some (.tup [.d (.int .u64) (.int ((a.toInt+b.toInt)%18446744073709551616)),.d (.int .u64) (.int ((a.toInt+b.toInt) / 18446744073709551616))])else none|_=>none
def bW:List (Nat × (List V->Option V)):=[]
 ++[(64,ZF)]
def Vv:Dc:=Vu bW
def q6y (gl:Nat->Option (Ty × C)):Kc (X0 gl) bW:=by
 unfold bW
 repeat' refine Kc.append ?_ ⟨?_,trivial⟩
 ·exact trivial
 ·intro xs v h;have h:ZF xs=some v:=h;show NT (X0 gl) 64 xs v;unfold ZF at h;split at h;{simp only[au,Option.some.injEq]at h;obtain⟨rfl,rfl⟩:=h;exact q3O _ _};{cases h}
def uM (gl:Nat->Option (Ty × C)):IY (X0 gl) Vv:=uK (q6y gl)
def noX:FuncId->Nat->List (Nat × Nat):=fun _ _=>[]
def q4m (_:Nat) {R:Type}:OvG R:=VV 1 (.int .u8)
def Zt (N:Nat) {R:Type}:GOk (X0 gl0) 34 (q4m N (R:=R)):=rD fun A cs=>q4o A cs
def q4n (_:Nat) {R:Type}:OvG R:=VV 64 DQ
def rC (N:Nat) {R:Type}:GOk (X0 gl0) 89 (q4n N (R:=R)):=rD fun A cs=>q4p A cs
section
variable {gl:Nat->Option (Ty × C)}
def Ea (p:List C):Nat->Nat->List Nat->Int × List Nat
 |0,_,bs=>(0,bs)|f+1,i,bs=>if i<p.length then(if Ar p i=0 then Ea p f (i+1+BA (bN p i)) (bs++[i])else(Ar p i,bs))else(0,bs)
def HN (p:List C) (i:Nat):Bool:=decide (bN p i=11)||decide (bN p i=12)
def toN (p:List C) (i:Nat):Int:=CC p (i+1) (BA (bN p i))
def FU (p:List C) (bs:List Nat):List C:=(bs.filter (HN p)).map fun i=>.int (toN p i)
def FP (bs:List Nat) (c:C):C:=.bool (bs.any fun j=>decide (c=aw (j:Int)))
def Cv (p:List C):Int:=
 if 256<p.length then 1 else if(Ea p p.length 0 []).1≠0 then(Ea p p.length 0 []).1 else
  if(FU p (Ea p p.length 0 []).2).all (fun c=>(FP (Ea p p.length 0 []).2 c).toBool)then 0 else 10
def q1G {p:List C} {i:Nat} {bs:List Nat} {r} (hi:i<p.length) (h:Ea p (p.length-i) i bs=r):
  (Ar p i≠0->r=(Ar p i,bs))/\(Ar p i=0->i+1+BA (bN p i)<=p.length/\Ea p (p.length-(i+1+BA (bN p i))) (i+1+BA (bN p i)) (bs++[i])=r):=by
 have mono:∀(f g j:Nat) (bs:List Nat),p.length-j<=f->p.length-j<=g->Ea p f j bs=Ea p g j bs:=by
  intro f
  induction f with
  |zero=>
   intro g j bs h1 h2;cases g with
   |zero=>rfl|succ g=>simp only[Ea];rw[if_neg (by omega)]
  |succ f ih=>
   intro g j bs h1 h2;cases g with
   |zero=>simp only[Ea];rw[if_neg (by omega)]|succ g=>
    simp only[Ea];split;{split;{exact ih _ _ _ (by omega) (by omega)};{rfl}};{rfl}
 obtain⟨f,hf⟩:∃f,p.length-i=f+1:=⟨p.length-i-1,by omega⟩;rw[hf]at h;simp only[Ea]at h;rw[if_pos hi]at h;refine⟨fun he=>?_,fun he=>⟨?_,?_⟩⟩;{rw[if_neg he]at h;exact h.symm};{unfold Ar at he;rw[if_neg (by omega)]at he;split at he;{simp at he};{split at he;{simp at he};{omega}}};{rw[if_pos he]at h;rw[<-h];exact mono _ _ _ _ (by omega) (by omega)}
def q1F {p:List C} {i:Nat} {bs:List Nat} (hi:p.length<=i):Ea p (p.length-i) i bs=(0,bs):=by rw[show p.length-i=0 by omega];rfl
def q8I (p:List C) (bs:List Nat) (i:Nat):FU p (bs++[i])=if HN p i=true then FU p bs++[.int (toN p i)]else FU p bs:=by unfold FU;rw[List.filter_append];by_cases h:HN p i=true;{rw[if_pos h];simp[h]};{rw[if_neg h];simp[h]}
def q8H (p:List C) (bs:List Nat):(FU p bs).length<=bs.length:=by unfold FU;rw[ep];exact List.length_filter_le _ _
end
abbrev Bs {R:Type} (f:C->KD R->Option R):(Nat->C)->KD R->Option R:=fun a=>f (a 0)
abbrev Bl {R:Type} (f:C->C->KD R->Option R):(Nat->C)->KD R->Option R:=fun a=>f (a 0) (a 1)
abbrev Ds {R:Type} (f:C->C->C->KD R->Option R):(Nat->C)->KD R->Option R:=fun a=>f (a 0) (a 1) (a 2)
def BD (t:Ty) {R:Type}:(Nat->C)->(V->List (Key × O)->Option R)->KD R:=fun _ K d _=>K (V.d t (dk d 0)) []
def Ev {R:Type}:(Nat->C)->(V->List (Key × O)->Option R)->KD R:=fun _ K d _=>K (V.d eg (cd (cz (dk d 0)))) []
def AY (a:List Nat) (b:List (Nat × Sh)):Hint:=⟨a,b,[],[],[],[]⟩
def Ah (b:List (Nat × Sh)):Hint:=⟨[],b,[],[],[],[]⟩
abbrev okX (f:Nat) {R:Type} (g:OvG R):Prop:=GOk (X0 gl0) f g
def AZ:OvS (X0 gl0):=⟨fun _=>[],fun _ _ h=>nomatch h⟩
def AH {f:FuncId} {g:(R:Type)->OvG R} (h:∀{R:Type},GOk (X0 gl0) f (g R)) (o:OvS (X0 gl0)):OvS (X0 gl0):=⟨fun R=>(f,g R)::o.g R,fun R=>List.forall_mem_cons.2 ⟨h,o.ok R⟩⟩
def Uk {α:Type} (l:List (Nat × List α)) (f:Nat):List α:=(E.look l f).getD []
def nK (l:List (Nat × List (Nat × List (Nat × Nat)))) (f r:Nat):List (Nat × Nat):=Uk (Uk l f) r
def Vb:List Ty->Nat->(Nat->C)->List V
 | [],_,_=>[]|t::ts,i,a=>.d t (a i)::Vb ts (i+1) a
def Kj:List Ty->List V->Option (List C)
 | [],[]=>some []|t::ts,.d u c::xs=>if u=t then(match Kj ts xs with|some cs=>some (c::cs)|none=>none)else none|_,_=>none
def rR:∀(ts:List Ty) (xs:List V) (cs:List C) (i:Nat) (a:Nat->C),Kj ts xs=some cs->(∀j,j<cs.length->a (i+j)=cs.getD j .nil)->xs=Vb ts i a
 | [],[],_,_,_,_,_=>rfl|t::ts,.d u c::xs,cs,i,a,h,ha=>by
  simp only[Kj]at h;split at h
  ·split at h
   ·rename_i hu _ cs' hcs;cases h;subst hu;have h0:=ha 0 (Nat.zero_lt_succ _);have ih:=rR ts xs cs' (i+1) a hcs fun j hj=>by have:=ha (j+1) (Nat.succ_lt_succ hj);rw[show i+1+j=i+(j+1) by omega,this];rfl
    show _=V.d u (a i)::_;rw[<-ih,show a i=c from h0]
   ·cases h
  ·cases h
def Af {R:Type} (ts:List Ty) (P:(Nat->C)->KD R->Option R) (F:(Nat->C)->(V->List (Key × O)->Option R)->KD R):OvG R:=fun xs _ K=>match Kj ts xs with|some cs=>P (dk cs) (F (dk cs) K)|none=>none
def rQ {R:Type} {ts:List Ty} {P P0:(Nat->C)->KD R->Option R} {F:(Nat->C)->(V->List (Key × O)->Option R)->KD R} {f:Nat} (o:OvS (X0 gl0)) (N n m:Nat) (tb:List (Nat × List (Nat × List (Nat × Nat)))) (hs:List (Nat × Hints)) (e:∀a k,P a k=P0 a k)
  (h:∀a K,exF (X0 gl0) (o.ov R) Vv (nK tb) (Uk hs) N n m f (Vb ts 0 a) A0 K=jn (F a K) (P0 a):=by intros;kernel_rfl):GOk (X0 gl0) f (Af ts P F):=by
 intro xs A Kr r hr;unfold Af at hr;split at hr;{rename_i cs hcs;rw[e,<-AP (F (dk cs) Kr) (P0 (dk cs)),<-h]at hr;rw[rR ts xs cs 0 (dk cs) hcs fun j _=>by rw[cm];rfl];obtain⟨v,L,h1,h2⟩:=bV (ok0 gl0) (mo gl0) (o.Y6 _) (uM gl0) _ _ _ _ _ _ hr;exact⟨v,L,h1.mono (q8F fun _=>rfl),h2⟩};{cases hr}
def Ai {R:Type} {ts:List Ty} {P P0:(Nat->C)->KD R->Option R} {F:(Nat->C)->(V->List (Key × O)->Option R)->KD R} {f:Nat} (o:OvS (X0 gl0)) (N:Nat) (tb:List (Nat × List (Nat × List (Nat × Nat)))) (hs:List (Nat × Hints)) (e:∀a k,P a k=P0 a k)
  (h:∀a K,exF (X0 gl0) (o.ov R) Vv (nK tb) (Uk hs) N 400 8 f (Vb ts 0 a) A0 K=jn (F a K) (P0 a):=by intros;kernel_rfl):GOk (X0 gl0) f (Af ts P F):=rQ o N 400 8 tb hs e h
def Cf {R:Type} (sa:List Sh) (os:List (Key × OSh)) (P:List C->List Es->KD R->Option R) (F:List C->List Es->(V->List (Key × O)->Option R)->KD R):OvG R:=iR sa os fun ds ms K=>P ds ms (F ds ms K)
def Cq {R:Type} {sa:List Sh} {os:List (Key × OSh)} {P P0:List C->List Es->KD R->Option R} {F:List C->List Es->(V->List (Key × O)->Option R)->KD R} {f:Nat} (o:OvS (X0 gl0)) (N:Nat) (tb:List (Nat × List (Nat × List (Nat × Nat)))) (hs:List (Nat × Hints)) (e:∀ds ms k,P ds ms k=P0 ds ms k)
  (h:∀ds ms K,exF (X0 gl0) (o.ov R) Vv (nK tb) (Uk hs) N 400 8 f (Sh.Dw sa 0 ds) (AR (BX os (Sh.HU sa) 0 ds ms)) K=jn (F ds ms K) (P0 ds ms):=by intros;kernel_rfl):GOk (X0 gl0) f (Cf sa os P F):=by
 refine z1c fun ds ms K r hr=>?_;rw[e,<-AP (F ds ms K) (P0 ds ms),<-h]at hr;obtain⟨v,L,h1,h2⟩:=bV (ok0 gl0) (mo gl0) (o.Y6 _) (uM gl0) _ _ _ _ _ _ hr;exact⟨v,L,h1,h2⟩
def Vw {R:Type} (N:Nat) (k2:KD R):KD R->KD R:=fun k3 d1 m1=>(bif decide (aj (dk d1 5)<aj (dk d1 3))then(if 0<=aj (dk d1 5)/\aj (dk d1 5)<(↑(ak (ao (dk d1 2))):Int)then(k3 [dk d1 0,dk d1 1,dk d1 2,dk d1 3,aw (Aj qo av (al av (aj (dk d1 4)*2^min (aq 8) 64)) (al av (aj (bj (ao (dk d1 2)) (aq (aj (dk d1 5))) du)))),aw (al ar (aj (dk d1 5)+1))] [])else none)else(k2 [dk d1 0,dk d1 1,dk d1 4] []))
def cA (a0 a1:C) (k1:KD R):Option R:=bif decide ((↑(ak (ao a0)):Int)<=aj a1)then(k1 [aw 0,aw 0,aw 0,aw 9] [])else(if 0<=aj a1/\aj a1<(↑(ak (ao a0)):Int)then(bif decide (18<=al ar (aj (bj (ao a0) (aq (aj a1)) du)))then(k1 [aw 0,aw 0,aw 0,aw 33] [])else(if 0<=al ar (aj (bj (ao a0) (aq (aj a1)) du))/\al ar (aj (bj (ao a0) (aq (aj a1)) du))<18 then(bif decide ((↑(ak (ao a0)):Int)<al ar (al ar (aj a1+1)+aj (ax (ax (dh Ey) (aq (al ar (aj (bj (ao a0) (aq (aj a1)) du))))) 1)))then(k1 [aw 0,aw 0,aw 0,aw 9] [])else(if 0<=al ar (aj a1+1)/\al ar (aj a1+1)<=al ar (al ar (aj a1+1)+aj (ax (ax (dh Ey) (aq (al ar (aj (bj (ao a0) (aq (aj a1)) du))))) 1))/\al ar (al ar (aj a1+1)+aj (ax (ax (dh Ey) (aq (al ar (aj (bj (ao a0) (aq (aj a1)) du))))) 1))<=(↑(ak (ao a0)):Int)then(jn (fun d1 m1=>(k1 [dk d1 0,dk d1 2,dk d1 1,aw 0] [])) (fun k2=>(Ae N (Vw N k2) [aw (al ar (aj (bj (ao a0) (aq (aj a1)) du))),aw (al ar (al ar (aj a1+1)+aj (ax (ax (dh Ey) (aq (al ar (aj (bj (ao a0) (aq (aj a1)) du))))) 1))),bc (cut (ao a0) (al ar (aj a1+1)) (al ar (al ar (aj a1+1)+aj (ax (ax (dh Ey) (aq (al ar (aj (bj (ao a0) (aq (aj a1)) du))))) 1)))),aw (↑(ak (cut (ao a0) (al ar (aj a1+1)) (al ar (al ar (aj a1+1)+aj (ax (ax (dh Ey) (aq (al ar (aj (bj (ao a0) (aq (aj a1)) du))))) 1))))):Int),aw 0,aw 0] [])))else none))else none))else none)
def RS:=lid "" (@cA R N)
def uV {R N a0 a1 k}:@RS R N a0 a1 k=cA N a0 a1 k:=by unfold RS;rw[AW]
def bZ:OvG R:=Af [.slice 1 (.int .u8),.int .i64] (Bl (RS N)) fun a K d1 m1=>K (V.tup
 [V.d (bn ar) (dk d1 0),V.d (bn av) (dk d1 1),V.d (bn ar) (dk d1 2),
  V.d (bn ar) (dk d1 3)]) []
theorem uU:okX 62 (@bZ R N):=Ai AZ N [] [(62,[([1,0,1,1,1,1,1,1],(AY [4,6] [(5,.d (.int .u64))])),
  ([4,1,0,1,1,1,1,1,1],(AY [4,6,36,37] [(5,.d (.int .u64)),(38,.d (.int .i64))])),
  ([9],(Ah [(4,.d (.int .i64)),(5,.d (.int .u64)),(6,.d (.int .i64)),(7,.d (.int .i64))]))])] (fun _ _=>uV)
def gA {R:Type} (N:Nat) (a0:C) (k1:KD R):Option R:=bif decide (aj a0=1)then(k1 [aw 8] [])else(jn (fun d1 m1=>(bif cz (dk d1 1)then(k1 [aw 1] [])else(jn (fun d2 m2=>(bif cz (dk d2 0)then(k1 [aw 2] [])else(k1 [aw 0] []))) (fun k2=>(bif decide (aj (dk d1 0)=11)then(k2 [Dz (cd (decide (aj (dk d1 0)=11))) true] [])else(k2 [cd (decide (aj (dk d1 0)=12))] [])))))) (fun k2=>(bif decide (aj a0=2)then(k2 [a0,Dz (cd (decide (aj a0=2))) true] [])else(k2 [a0,cd (decide (aj a0=16))] []))))
def Mj:=lid "" (@gA R N)
def w9 {R N a0 k}:@Mj R N a0 k=gA N a0 k:=by unfold Mj;rw[AW]
def q9I:OvG R:=Af [.int .i64] (Bs (Mj N)) (BD (bn ar))
theorem x9:okX 74 (@q9I R N):=Ai AZ N [] [(74,[([1,0,3,1,4,1,0,1],(AY [3] [(6,.d .bool)])),
  ([1,0,3,1,3,1,4,1,0,1],(Ah [(9,.d .bool)])),
  ([9],(Ah [(2,.d (.int .i64))]))])] (fun _ _=>w9)
def XN (k2:KD R):KD R->KD R:=fun k3 d2 m2=>(Mj N (dk d2 2) (fun d3 m3=>(bif decide (aj (dk d2 4)<aj (dk d3 0))then(if 0<=al ar (al ar (aj (dk d2 1)+1)+aj (dk d2 4))/\al ar (al ar (aj (dk d2 1)+1)+aj (dk d2 4))<(↑(ak (ao (dk d2 0))):Int)then(k3 [dk d2 0,dk d2 1,dk d2 2,aw (al av (al av (aj (dk d2 3)*256)+al av (aj (bj (ao (dk d2 0)) (aq (al ar (al ar (aj (dk d2 1)+1)+aj (dk d2 4)))) du)))),aw (al ar (aj (dk d2 4)+1))] [])else none)else(k2 [dk d2 2,dk d2 3] []))))
def hJ (a0 a1:C) (k1:KD R):Option R:=bif decide ((↑(ak (ao a0)):Int)<=aj a1)then(k1 [aw 0,aw 0,aw 9] [])else(if 0<=aj a1/\aj a1<(↑(ak (ao a0)):Int)then(bif decide (17<al ar (aj (bj (ao a0) (aq (aj a1)) du)))then(k1 [aw 0,aw 0,aw 33] [])else(Mj N (aw (al ar (aj (bj (ao a0) (aq (aj a1)) du)))) (fun d1 m1=>(bif decide ((↑(ak (ao a0)):Int)<al ar (al ar (aj a1+1)+aj (dk d1 0)))then(k1 [aw 0,aw 0,aw 9] [])else(jn (fun d2 m2=>(k1 [dk d2 0,dk d2 1,aw 0] [])) (fun k2=>(Ae N (XN N k2) [a0,a1,aw (al ar (aj (bj (ao a0) (aq (aj a1)) du))),aw 0,aw 0] [])))))))else none)
def PK:=lid "" (@hJ R N)
def Z3 {R N a0 a1 k}:@PK R N a0 a1 k=hJ N a0 a1 k:=by unfold PK;rw[AW]
def z0I:OvG R:=Af [.slice 1 (.int .u8),.int .i64] (Bl (PK N)) fun a K d1 m1=>K (V.tup [V.d (bn ar) (dk d1 0),V.d (bn av) (dk d1 1),V.d (bn ar) (dk d1 2)]) []
theorem z0J:okX 73 (@z0I R N):=Ai (AH (x9 N) <| AZ) N [] [(73,[([1,0,1,1,1,1,1,1],(AY [7] [(8,.d (.int .u64))])),
  ([4,1,0,1,1,1,1,1,1],(AY [0,1,7] [(8,.d (.int .u64)),(9,.d (.int .i64))])),
  ([9],(Ah [(4,.d (.int .i64)),(5,.d (.int .u64)),(6,.d (.int .i64))]))])] (fun _ _=>Z3)
section
variable {R:Type} {N:Nat}
def KX {i:Nat} (h:i<4611686018427387904):IntKind.i64.wrap ((i:Int)+1)=((i+1:Nat):Int):=by rw[df _ (by omega)];omega
def qS {b:Int} (h0:0<=b) (h1:b<=255):IntKind.u64.wrap b=b:=by
 have m1:IntKind.u64.min=0:=by decide
 have m2:IntKind.u64.max=18446744073709551615:=by decide
 exact Lp (by omega) (by omega)
def AE:(∀{α:Type} {a b:α},cond true a b=a)/\(∀{α:Type} {a b:α},cond false a b=b)/\(∀{h:Decidable True},@decide True h=true)/\(∀{h:Decidable False},@decide False h=false)/\(∀{α:Type} {_:Decidable True} {a b:α},(if True then a else b)=a)/\(∀{α:Type} {_:Decidable False} {a b:α},(if False then a else b)=b)/\(!true)=false/\(!false)=true:=⟨@fun _ _ _=>rfl,@fun _ _ _=>rfl,@fun _=>decide_true _,@fun _=>decide_false _,@fun _ _ _ _=>if_pos trivial,@fun _ _ _ _=>if_neg id,rfl,rfl⟩
theorem uT (p:List C) (hw:C.wf (.slice 1 (.int .u8)) (.slice p)) (i:Nat) (hl:p.length<=256) (hi:i<=100000) (hN:20<N) (k:KD R):RS N (.slice p) (.int i) k=
  k [.int (if Ar p i=0 then bN p i else 0),.int (if Ar p i=0 then CC p (i+1) (BA (bN p i))else 0),.int (if Ar p i=0 then((i+1+BA (bN p i):Nat):Int)else 0),.int (Ar p i)] []:=by
 rw[uV];unfold cA;simp only[AI,AB];by_cases h1:p.length<=i
 ·have h1':(p.length:Int)<=(i:Int):=by omega
  have e:Ar p i=9:=by unfold Ar;rw[if_pos h1]
  simp only[h1',e,AE,show ¬(9:Int)=0 by decide]
 have h1':¬(p.length:Int)<=(i:Int):=by omega
 have c1:0<=(i:Int)/\(i:Int)<(p.length:Int):=by omega
 obtain⟨b1,b2,b3⟩:=Hm hw (i:=i) (by omega);have w1:IntKind.i64.wrap (bN p i)=bN p i:=df _ (by omega);simp only[h1',c1,and_self,AE,bf,b1,AB,w1];by_cases h2:18<=bN p i
 ·have e:Ar p i=33:=by unfold Ar;rw[if_neg h1,if_pos h2]
  simp only[h2,e,AE,show ¬(33:Int)=0 by decide]
 have hm:ax (ax (dh Ey) (bN p i).toNat) 1= .int (BA (bN p i)):=by
  have:=q6J (bN p i).toNat (by omega)
  rwa [gr b2]at this
 have m8:=KH (bN p i);have c2:0<=bN p i/\bN p i<18:=by omega
 simp only[h2,hm,c2,AB,and_self,AE];generalize hmm:BA (bN p i)=m at hm m8;have w2:IntKind.i64.wrap ((i:Int)+1)=((i+1:Nat):Int):=KX (by omega);have w3:IntKind.i64.wrap (((i+1:Nat):Int)+(m:Int))=((i+1+m:Nat):Int):=by rw[df _ (by omega)];omega
 simp only[w2,w3];by_cases h3:p.length<i+1+m
 ·have h3':(p.length:Int)<((i+1+m:Nat):Int):=by omega
  have e:Ar p i=9:=by unfold Ar;rw[if_neg h1,if_neg h2,hmm,if_pos h3]
  simp only[h3',e,AE,show ¬(9:Int)=0 by decide]
 have h3':¬(p.length:Int)<((i+1+m:Nat):Int):=by omega
 have e:Ar p i=0:=by unfold Ar;rw[if_neg h1,if_neg h2,hmm,if_neg h3]
 have c3:0<=((i+1:Nat):Int)/\((i+1:Nat):Int)<=((i+1+m:Nat):Int)/\((i+1+m:Nat):Int)<=(p.length:Int):=by omega
 have hql:(cut p ((i+1:Nat):Int) ((i+1+m:Nat):Int)).length=m:=by unfold cut;simp;omega
 have hqe:∀j,j<m->(cut p ((i+1:Nat):Int) ((i+1+m:Nat):Int)).getD j .nil= .int (bN p (i+1+j)):=by intro j hj;rw[<-(Hm hw (i:=i+1+j) (by omega)).1];unfold cut;simp[bh,List.getElem?_drop,List.getElem?_take,hj]
 simp only[h3',c3,e,and_self,AE,AP];generalize cut p ((i+1:Nat):Int) ((i+1+m:Nat):Int)=q at hql hqe;rw[hql];refine(DX (F:=Vw N _) (fun j=>[.int (bN p i),.int ((i+1+m:Nat):Int),.slice q,.int m,.int (CC p (i+1) j),.int j]) (fun _=>[]) m _ (fun j hj rec=>?_) (fun rec=>?_) (N:=N) (by omega)).trans rfl
 ·obtain⟨a1,a2,a3⟩:=Lx hw (i:=i+1) (k:=j) (by omega) (by omega);obtain⟨_,d2,d3⟩:=Hm hw (i:=i+1+j) (by omega);have e1:(j:Int)<(m:Int):=by omega
  have e2:0<=(j:Int)/\(j:Int)<(q.length:Int):=by omega
  have e3:((2:Int)^min (aq 8) 64)=256:=by decide
  have e4:IntKind.u64.wrap (CC p (i+1) j*256)=CC p (i+1) j*256:=by
   have:=a3 (by omega);have m1:IntKind.u64.min=0:=by decide
   have m2:IntKind.u64.max=18446744073709551615:=by decide
   exact Lp (by omega) (by omega)
  unfold Vw;simp only[AF,AK,AO,AV,Ac,Av,AB,AI,e1,e2,AE,and_self,bf,hqe j hj,e3,e4,qS d2 d3,z0H a1 (a3 (by omega)) d2 d3,KX (show j<4611686018427387904 by omega)]
  all_goals rfl
 ·unfold Vw;simp only[AF,AK,AO,AV,Ac,Av,AB,fa,AE]
  all_goals rfl
def Wv (o:C) (k:KD R):Mj N o k=k [.int (BA o.toInt)] []:=by rw[w9];unfold gA BA;by_cases h1:o.toInt=1;{simp[h1]};by_cases h2:o.toInt=2;{simp[h2,AP,dk,Dz,cz]};by_cases h3:o.toInt=16;{simp[h3,AP,dk,Dz,cz]};by_cases h4:o.toInt=11;{simp[h4,AP,dk,Dz,cz]};by_cases h5:o.toInt=12 <;> simp[h1,h2,h3,h4,h5,AP,dk,Dz,cz]
theorem Z2 (p:List C) (hw:C.wf (.slice 1 (.int .u8)) (.slice p)) (i:Nat) (hl:p.length<=256) (hi:i<=100000) (hN:20<N) (k:KD R):PK N (.slice p) (.int i) k=
  k [.int (if Ar p i=0 then bN p i else 0),.int (if Ar p i=0 then CC p (i+1) (BA (bN p i))else 0),.int (Ar p i)] []:=by
 rw[Z3];unfold hJ;simp only[AI,AB];by_cases h1:p.length<=i
 ·have h1':(p.length:Int)<=(i:Int):=by omega
  have e:Ar p i=9:=by unfold Ar;rw[if_pos h1]
  simp only[h1',e,AE,show ¬(9:Int)=0 by decide]
 have h1':¬(p.length:Int)<=(i:Int):=by omega
 have c1:0<=(i:Int)/\(i:Int)<(p.length:Int):=by omega
 obtain⟨b1,b2,b3⟩:=Hm hw (i:=i) (by omega);have w1:IntKind.i64.wrap (bN p i)=bN p i:=df _ (by omega);simp only[h1',c1,and_self,AE,bf,b1,AB,w1];by_cases h2:18<=bN p i
 ·have e:Ar p i=33:=by unfold Ar;rw[if_neg h1,if_pos h2]
  have h2':17<bN p i:=by omega
  simp only[h2',e,AE,show ¬(33:Int)=0 by decide]
 have h2':¬17<bN p i:=by omega
 have m8:=KH (bN p i);obtain⟨m,hmm⟩:∃m,BA (bN p i)=m:=⟨_,rfl⟩;rw[hmm]at m8;simp only[h2',AE,Wv,AF,AB,hmm];have w2:IntKind.i64.wrap ((i:Int)+1)=((i+1:Nat):Int):=KX (by omega);have w3:IntKind.i64.wrap (((i+1:Nat):Int)+(m:Int))=((i+1+m:Nat):Int):=by rw[df _ (by omega)];omega
 simp only[w2,w3];by_cases h3:p.length<i+1+m
 ·have h3':(p.length:Int)<((i+1+m:Nat):Int):=by omega
  have e:Ar p i=9:=by unfold Ar;rw[if_neg h1,if_neg h2,hmm,if_pos h3]
  simp only[h3',e,AE,show ¬(9:Int)=0 by decide]
 have h3':¬(p.length:Int)<((i+1+m:Nat):Int):=by omega
 have e:Ar p i=0:=by unfold Ar;rw[if_neg h1,if_neg h2,hmm,if_neg h3]
 simp only[h3',e,AE,AP];refine(DX (F:=XN N _) (fun j=>[.slice p,.int i,.int (bN p i),.int (CC p (i+1) j),.int j]) (fun _=>[]) m _ (fun j hj rec=>?_) (fun rec=>?_) (N:=N) (by omega)).trans rfl
 ·obtain⟨a1,a2,a3⟩:=Lx hw (i:=i+1) (k:=j) (by omega) (by omega);obtain⟨d1,d2,d3⟩:=Hm hw (i:=i+1+j) (by omega);have a4:=a3 (by omega);have m1:IntKind.u64.min=0:=by decide
  have m2:IntKind.u64.max=18446744073709551615:=by decide
  have e1:(j:Int)<(m:Int):=by omega
  have w4:IntKind.i64.wrap (((i+1:Nat):Int)+(j:Int))=((i+1+j:Nat):Int):=by rw[df _ (by omega)];omega
  have e2:0<=((i+1+j:Nat):Int)/\((i+1+j:Nat):Int)<(p.length:Int):=by omega
  have e4:IntKind.u64.wrap (CC p (i+1) j*256)=CC p (i+1) j*256:=Lp (by omega) (by omega);have e5:IntKind.u64.wrap (CC p (i+1) j*256+bN p (i+1+j))=CC p (i+1) j*256+bN p (i+1+j):=Lp (by omega) (by omega);unfold XN;simp only[AF,AK,AO,AV,Ac,AB,AI,Wv,hmm,w2,w4,e1,e2,AE,and_self,bf,d1,e4,qS d2 d3,e5,KX (show j<4611686018427387904 by omega)]
  all_goals rfl
 ·unfold XN;simp only[AF,AK,AO,AV,Ac,AB,Wv,hmm,fa,AE]
  all_goals rfl
def q4z (_:GF gl0) (A:Key->Option O) (p:List C) (at_:Nat) (hl:p.length<=256) (hat:at_<=100000):Bo (X0 gl0) 62 [.d (.slice 1 (.int .u8)) (.slice p),.d (.int .i64) (.int at_)] A (uX p at_) []:=by refine Vd (ts:=[.slice 1 (.int .u8),.int .i64]) (cs:=[.slice p,.int at_]) fun W=>?_;refine XH (uU 21) ?_;show bZ 21 [.d (.slice 1 (.int .u8)) (.slice p),.d (.int .i64) (.int at_)] A kR=_;simp only[bZ,Af,Kj,and_self,if_true,AF,AK,AO,AV,Ac,Bs,Bl,Ds,BD,Ev];rw[uT p (W 0 _ _ rfl rfl) at_ hl hat (by omega)];rfl
end
def Zp {R:Type} (N:Nat) (k1:KD R) (k2:KD R):KD R->KD R:=fun k3 d2 m2=>(bif decide (aj (dk d2 2)<aj (dk d2 1))then(if 0<=aj (dk d2 2)/\aj (dk d2 2)<(↑(ak (ao (dk d2 0))):Int)then(bif DT eg (dE eg (dm m2 0))then(bif Il (dE eg (dm m2 0)) (bj (ao (dk d2 0)) (aq (aj (dk d2 2))) du)then(bif !cz (Ks (dE eg (dm m2 0)) (bj (ao (dk d2 0)) (aq (aj (dk d2 2))) du))then(k1 [aw 10] [])else(if BO eg (dE eg (dm m2 0))=true then(k3 [dk d2 0,dk d2 1,aw (al ar (aj (dk d2 2)+1))] [unE (dE eg (dm m2 0))])else none))else(k1 [aw 10] []))else none)else none)else(k2 [] []))
def Zq (k1:KD R) (k2:KD R):KD R->KD R:=fun k3 d1 m1=>(bif decide (aj (dk d1 2)<(↑(ak (ao (dk d1 0))):Int))then(RS N (dk d1 0) (dk d1 2) (fun d2 m2=>(bif !decide (aj (dk d2 3)=0)then(k1 [dk d2 3] [])else(jn (fun d3 m3=>(jn (fun d4 m4=>(bif bw (ak (ao (dk d4 2))) (ak (ao (dk d4 2)))then(if BO eg (dE eg (dm m4 0))=true then(k3 [dk d4 0,bc (ao (dk d4 2)),dk d4 1] [unE (dE eg (dm m4 0))])else none)else none)) (fun k4=>(bif cz (dk d3 4)then(bif bw (ak (ao (dk d3 3))) (ak (ao (dk d3 3)))then(if(ak (ao (dk d3 3))+1)*8<=140737488355328/\ak (ao (dk d3 3))+1<=9223372036854775807 then(bif bw (ak (ao (dk d3 3))+1) (ak (ao (dk d3 3)++[dk d3 1]))then(if BO eg (dE eg (dm m3 0))=true then(k4 [dk d3 0,dk d3 2,bc (ao (dk d3 3)++[dk d3 1])] [unE (dE eg (dm m3 0))])else none)else none)else none)else none)else(bif bw (ak (ao (dk d3 3))) (ak (ao (dk d3 3)))then(if BO eg (dE eg (dm m3 0))=true then(k4 [dk d3 0,dk d3 2,bc (ao (dk d3 3))] [unE (dE eg (dm m3 0))])else none)else none))))) (fun k4=>(bif decide (aj (dk d2 0)=11)then(bif bw (ak (ao (dk d1 1))) (ak (ao (dk d1 1)))then(if BO eg (Gn (dE eg (dm m1 0)) (aw (al av (aj (dk d1 2)))) (V.d eg (cd true)))=true then(k4 [dk d1 0,dk d2 1,dk d2 2,bc (ao (dk d1 1)),cd true] [unE (Gn (dE eg (dm m1 0)) (aw (al av (aj (dk d1 2)))) (V.d eg (cd true)))])else none)else none)else(bif bw (ak (ao (dk d1 1))) (ak (ao (dk d1 1)))then(if BO eg (Gn (dE eg (dm m1 0)) (aw (al av (aj (dk d1 2)))) (V.d eg (cd true)))=true then(k4 [dk d1 0,dk d2 1,dk d2 2,bc (ao (dk d1 1)),cd (decide (aj (dk d2 0)=12))] [unE (Gn (dE eg (dm m1 0)) (aw (al av (aj (dk d1 2)))) (V.d eg (cd true)))])else none)else none)))))))else(bif bw (ak (ao (dk d1 1))) (ak (ao (dk d1 1)))then(if BO eg (dE eg (dm m1 0))=true then(k2 [bc (ao (dk d1 1))] [unE (dE eg (dm m1 0))])else none)else none))
def Zr (a0:C) (k1:KD R):Option R:=bif decide (256<(↑(ak (ao a0)):Int))then(k1 [aw 1] [])else(jn (fun d1 m1=>(jn (fun d2 m2=>(k1 [aw 0] [])) (fun k2=>(if BO eg (dE eg (dm m1 0))=true then(Ae N (Zp N k1 k2) [bc (ao (dk d1 0)),aw (↑(ak (ao (dk d1 0))):Int),aw 0] [unE (dE eg (dm m1 0))])else none)))) (fun k2=>(Ae N (Zq N k1 k2) [a0,bc [],aw 0] [unE []])))
def VT:=lid "" (@Zr R N)
def qZ {R N a0 k}:@VT R N a0 k=Zr N a0 k:=by unfold VT;rw[AW]
def Zo:OvG R:=Af [.slice 1 (.int .u8)] (Bs (VT N)) (BD (bn ar))
theorem q4h:okX 33 (@Zo R N):=Ai (AH (uU N) <| AZ) N [] [(33,[([1,0,1,1,1,1],(AY [3] [(4,.sl 8 (.int .u64) 5004)])),
  ([4,1,0,1,1,1,1],(AY [0,3] [(4,.sl 8 (.int .u64) 5004),(5,.d (.int .i64))])),
  ([0,0,1,1,1,4,1,5,4,1,0,1,1,1,1],(AY [0,3,7,8] [(4,.sl 8 (.int .u64) 5004),(39,.d .bool)])),
  ([1,0,1,1,1,4,1,5,4,1,0,1,1,1,1],(AY [0,3,8] [(4,.sl 8 (.int .u64) 5004)])),
  ([1,0,1,1,1,1,1],(Ah [])),
  ([4,1,0,1,1,1,1,1],(AY [3,45,46] [(47,.d (.int .i64))])),
  ([9],(Ah [(2,.d (.int .i64))]))])] (fun _ _=>qZ)
def TK (a0:C) (k1:KD R) (k2:KD R):KD R->KD R:=fun k3 d2 m2=>(bif decide (aj (dk d2 4)<(↑(ak (ao (dk d2 0))):Int))then(jn (fun d3 m3=>(if cq (aq (↑(ak (ao a0)):Int)) eg=cq (aq (↑(ak (ao a0)):Int)) eg then(k3 [dk d3 0,aw (↑(aq (aj (dk d3 1))):Int),aw (↑(aq (aj (dk d3 2))):Int),aw (↑(aq (aj (dk d3 3))):Int),aw (al ar (aj (dk d3 4)+1)),dk d3 5] [])else none)) (fun k4=>(jn (fun d3 m3=>(bif cz (dk d3 5)then(if cq (aq (↑(ak (ao a0)):Int)) eg=cq (aq (↑(ak (ao a0)):Int)) eg then(k4 [dk d3 0,aw (↑(aq (aj (dk d3 1))):Int),aw (↑(aq (aj (dk d3 2))):Int),aw (↑(aq (aj (dk d3 3))):Int),dk d3 4,dk d3 6] [])else none)else(PK N (dk d3 0) (dk d3 4) (fun d4 m4=>(jn (fun d5 m5=>(bif cz (dk d5 5)then(k1 [aw 10] [])else(if cq (aq (↑(ak (ao a0)):Int)) eg=cq (aq (↑(ak (ao a0)):Int)) eg then(k4 [dk d5 0,aw (↑(aq (aj (dk d5 1))):Int),aw (↑(aq (aj (dk d5 2))):Int),aw (↑(aq (aj (dk d5 3))):Int),dk d5 4,dk d5 6] [])else none))) (fun k5=>(bif decide (al av (↑(ak (ao (dk d3 0))):Int)<=aj (dk d4 1))then(if cq (aq (↑(ak (ao a0)):Int)) eg=cq (aq (↑(ak (ao a0)):Int)) eg then(k5 [dk d3 0,aw (↑(aq (aj (dk d3 1))):Int),aw (↑(aq (aj (dk d3 2))):Int),aw (↑(aq (aj (dk d3 3))):Int),dk d3 4,cd true,dk d3 6] [])else none)else(if 0<=aj (dk d4 1)/\aj (dk d4 1)<(↑(aq (aj (dk d3 2))):Int)then(if cq (aq (↑(ak (ao a0)):Int)) eg=cq (aq (↑(ak (ao a0)):Int)) eg then(k5 [dk d3 0,aw (↑(aq (aj (dk d3 1))):Int),aw (↑(aq (aj (dk d3 2))):Int),aw (↑(aq (aj (dk d3 3))):Int),dk d3 4,cd !cz (ax (dk d3 6) (aq (aj (dk d3 1))+aq (aj (dk d4 1)))),dk d3 6] [])else none)else none)))))))) (fun k5=>(if 0<=aj (dk d2 4)/\aj (dk d2 4)<(↑(aq (aj (dk d2 2))):Int)then(bif !cz (ax (dk d2 5) (aq (aj (dk d2 1))+aq (aj (dk d2 4))))then(if cq (aq (↑(ak (ao a0)):Int)) eg=cq (aq (↑(ak (ao a0)):Int)) eg then(k5 [dk d2 0,aw (↑(aq (aj (dk d2 1))):Int),aw (↑(aq (aj (dk d2 2))):Int),aw (↑(aq (aj (dk d2 3))):Int),dk d2 4,cd true,dk d2 5] [])else none)else(if 0<=aj (dk d2 4)/\aj (dk d2 4)<(↑(ak (ao (dk d2 0))):Int)then(bif !decide (aj (bj (ao (dk d2 0)) (aq (aj (dk d2 4))) du)=11)then(if 0<=aj (dk d2 4)/\aj (dk d2 4)<(↑(ak (ao (dk d2 0))):Int)then(if cq (aq (↑(ak (ao a0)):Int)) eg=cq (aq (↑(ak (ao a0)):Int)) eg then(k5 [dk d2 0,aw (↑(aq (aj (dk d2 1))):Int),aw (↑(aq (aj (dk d2 2))):Int),aw (↑(aq (aj (dk d2 3))):Int),dk d2 4,cd !decide (aj (bj (ao (dk d2 0)) (aq (aj (dk d2 4))) du)=12),dk d2 5] [])else none)else none)else(if cq (aq (↑(ak (ao a0)):Int)) eg=cq (aq (↑(ak (ao a0)):Int)) eg then(k5 [dk d2 0,aw (↑(aq (aj (dk d2 1))):Int),aw (↑(aq (aj (dk d2 2))):Int),aw (↑(aq (aj (dk d2 3))):Int),dk d2 4,cd false,dk d2 5] [])else none))else none))else none)))))else(k2 [] []))
def iZ (a0:C) (k1:KD R) (k2:KD R):KD R->KD R:=fun k3 d1 m1=>(bif decide (aj (dk d1 4)<(↑(ak (ao (dk d1 0))):Int))then(PK N (dk d1 0) (dk d1 4) (fun d2 m2=>(bif !decide (aj (dk d2 2)=0)then(k1 [dk d2 2] [])else(if 0<=aj (dk d1 4)/\aj (dk d1 4)<(↑(aq (aj (dk d1 2))):Int)then(Mj N (dk d2 0) (fun d3 m3=>(if cq (aq (↑(ak (ao a0)):Int)) eg=cq (aq (↑(ak (ao a0)):Int)) eg then(k3 [dk d1 0,aw (↑(aq (aj (dk d1 1))):Int),aw (↑(aq (aj (dk d1 2))):Int),aw (↑(aq (aj (dk d1 3))):Int),aw (al ar (al ar (aj (dk d1 4)+1)+aj (dk d3 0))),ct (dk d1 5) (aq (aj (dk d1 1))+aq (aj (dk d1 4))) (cd true)] [])else none)))else none))))else(if cq (aq (↑(ak (ao a0)):Int)) eg=cq (aq (↑(ak (ao a0)):Int)) eg then(k2 [dk d1 0,aw (↑(aq (aj (dk d1 1))):Int),aw (↑(aq (aj (dk d1 2))):Int),aw (↑(aq (aj (dk d1 3))):Int),dk d1 5] [])else none))
def jA (a0:C) (k1:KD R):Option R:=bif decide (256<(↑(ak (ao a0)):Int))then(k1 [aw 1] [])else(if 0<=(↑(ak (ao a0)):Int)/\(↑(ak (ao a0)):Int)<=(↑(ak (ao a0)):Int)/\(↑(ak (ao a0)):Int)<=9223372036854775807/\aq (↑(ak (ao a0)):Int)*1<=140737488355328 then(jn (fun d1 m1=>(jn (fun d2 m2=>(k1 [aw 0] [])) (fun k2=>(if cq (aq (↑(ak (ao a0)):Int)) eg=cq (aq (↑(ak (ao a0)):Int)) eg then(Ae N (TK N a0 k1 k2) [dk d1 0,aw (↑(aq (aj (dk d1 1))):Int),aw (↑(aq (aj (dk d1 2))):Int),aw (↑(aq (aj (dk d1 3))):Int),aw 0,dk d1 4] [])else none)))) (fun k2=>(if cq (aq (↑(ak (ao a0)):Int)) eg=cq (aq (↑(ak (ao a0)):Int)) eg then(Ae N (iZ N a0 k1 k2) [a0,aw 0,aw (↑(aq (↑(ak (ao a0)):Int)):Int),aw (↑(aq (↑(ak (ao a0)):Int)):Int),aw 0,dh (ay (aq (↑(ak (ao a0)):Int)) (AJ eg))] [])else none)))else none)
def Xe:=lid "" (@jA R N)
def J5 {R N a0 k}:@Xe R N a0 k=jA N a0 k:=by unfold Xe;rw[AW]
def iY:OvG R:=Af [.slice 1 (.int .u8)] (Bs (Xe N)) (BD (bn ar))
theorem z1q:okX 47 (@iY R N):=Ai (AH (z0J N) <| AH (x9 N) <| AZ) N [] [(47,[([0,1,1,1,1],(AY [0,3] [])),
  ([4,0,1,1,1,1],(AY [0,3] [(4,.d (.int .i64))])),
  ([1,0,1,1,1,1,1],(Ah [])),
  ([4,1,0,1,1,1,1,1],(AY [0,3] [(8,.d (.int .i64))])),
  ([0,1,5,4,1,0,1,1,1,1,1],(AY [0,3,8] [])),
  ([0,0,4,0,1,5,4,1,0,1,1,1,1,1],(AY [0,3,8] [(64,.d .bool)])),
  ([0,1,1,4,0,1,5,4,1,0,1,1,1,1,1],(AY [0,3,8] [(83,.d .bool)])),
  ([9],(Ah [(2,.d (.int .i64))]))])] (fun _ _=>J5)
section
variable {R:Type} {N:Nat}
def bE (j:Nat):C × C:=(.int j,.bool true)
def qA (x:C) (j:Nat):C.beq x (.int j)=decide (x= .int (j:Int)):=by rw[Bool.eq_iff_iff,C.beq_iff,decide_eq_true_eq]
def dB (c:C):∀bs:List Nat,FG (bs.map bE) c=(FP bs c).toBool
 | []=>rfl|j::bs=>by have ih:=dB c bs;simp only[FP,cz]at ih;simp only[dy,bE,FG,FP,cz,List.any_cons,qA];rw[ih];cases decide (c= .int (j:Int)) <;> rfl
def wD (c:C):∀bs:List Nat,FG (bs.map bE) c=true->getM (bs.map bE) c= .bool true
 | [],h=>by cases h
 |j::bs,h=>by have ih:=wD c bs;simp only[dy,bE,FG,getM]at ih h ⊢;cases hb:C.beq c (.int j);{rw[hb]at h;simp only[cond_false]at h ⊢;exact ih h};{rfl}
def Xd (i:Nat):∀bs:List Nat,i∉bs->Gn (dE eg (bs.map bE)) (.int i) (V.d eg (.bool true))=dE eg ((bs++[i]).map bE)
 | [],_=>rfl|j::bs,h=>by
  have ih:=Xd i bs fun x=>h (List.mem_cons_of_mem _ x);have e:C.beq (.int (i:Int)) (.int (j:Int))=false:=by rw[qA,decide_eq_false_iff_not];intro x;injection x with x;exact h (by rw[show i=j by omega];exact List.mem_cons_self)
  simp only[dE,dy,List.map_append,bE,Gn,List.cons_append]at ih ⊢;rw[e];simp only[fe,if_false];rw[ih]
def QO {i:Nat} (h:i<=100000):IntKind.u64.wrap (i:Int)=i:=by
 have m1:IntKind.u64.min=0:=by decide
 have m2:IntKind.u64.max=18446744073709551615:=by decide
 exact Lp (by omega) (by omega)
def OC (m:Es):dm [m] 0=m:=rfl
def rB {p:List C} (h0:¬256<p.length) {bs:List Nat} (h:(0,bs)=Ea p p.length 0 []):Cv p=if(FU p bs).all (fun c=>(FP bs c).toBool)then 0 else 10:=by unfold Cv;rw[if_neg h0,<-h,if_neg (by simp)]
def rA {p:List C} (h0:¬256<p.length) {bs:List Nat} {e:Int} (he:e≠0) (h:Ea p p.length 0 []=(e,bs)):Cv p=e:=by unfold Cv;rw[if_neg h0,h,if_pos he]
theorem q4g (p:List C) (hw:C.wf (.slice 1 (.int .u8)) (.slice p)) (hN:1000<N) (k:KD R):VT N (.slice p) k=k [.int (Cv p)] []:=by
 rw[qZ];unfold Zr;simp only[AI];by_cases h0:256<p.length
 ·have h0':(256:Int)<(p.length:Int):=by omega
  have e:Cv p=1:=by unfold Cv;rw[if_pos h0]
  simp only[h0',e,AE]
 have h0':¬(256:Int)<(p.length:Int):=by omega
 simp only[h0',AE,AP]
 refine Hy (F:=Zq N k _) (fun x:Nat × List Nat=>[.slice p,.slice (FU p x.2),.int x.1]) (fun x=>[x.2.map bE]) (fun x=>p.length-x.1)
  (fun x=>x.1<=p.length/\x.2.length<=x.1/\(∀j∈x.2,j<x.1)/\Ea p (p.length-x.1) x.1 x.2=Ea p p.length 0 []) (fun _=>k [.int (Cv p)] []) ?_ N (0,[]) ⟨dv _,bx _,(fun _ h=>nomatch h),rfl⟩ (by show p.length-0<N;omega)
 rintro⟨i,bs⟩ ⟨hi,hb,hj,hS⟩ rec zd;dsimp only at hi hb hj hS zd;have hln:=q8H p bs;unfold Zq;by_cases hlt:i<p.length
 ·have zl:(i:Int)<(p.length:Int):=by omega
  obtain⟨s1,s2⟩:=q1G hlt hS;simp only[AF,AK,AO,AV,AB,AI,zl,AE,uT p hw i (show p.length<=256 by omega) (show i<=100000 by omega) (show 20<N by omega)];by_cases he:Ar p i=0
  ·obtain⟨q1,q2⟩:=s2 he;have hbi:i∉bs:=fun x=>Nat.lt_irrefl _ (hj _ x)
   have hr:=zd (i+1+BA (bN p i),bs++[i]) ⟨q1,by show(bs++[i]).length<=i+1+BA (bN p i);simp;omega,fun j h=>by
    show j<i+1+BA (bN p i);rcases dw.1 h with h|h;{have:=hj _ h;omega}
    ·rw[fq.1 h];omega,q2⟩ (by show p.length-(i+1+BA (bN p i))<p.length-i;omega)
   have g1:((FU p bs).length+1)*8<=140737488355328/\(FU p bs).length+1<=9223372036854775807:=by omega
   rw[q8I]at hr;by_cases l1:bN p i=11;{rw[if_pos (by simp[HN,l1])]at hr;simp only[he,AP,l1,OC,QO (show i<=100000 by omega),Xd i bs hbi,Cu,Dn,br,Ag,AB,AI,AF,AK,AO,AV,Ac,AE,g1,and_self,bt,cg,de,cm];rw[<-hr,l1];unfold toN;rw[l1]};{by_cases l2:bN p i=12;{rw[if_pos (by simp[HN,l2])]at hr;simp only[he,AP,l2,show ¬(12:Int)=11 by decide,OC,QO (show i<=100000 by omega),Xd i bs hbi,Cu,Dn,br,Ag,AB,AI,AF,AK,AO,AV,Ac,AE,g1,and_self,bt,cg,de,cm];rw[<-hr,l2];unfold toN;rw[l2]};{rw[if_neg (by simp[HN,l1,l2])]at hr;simp only[he,AP,l1,l2,OC,QO (show i<=100000 by omega),Xd i bs hbi,Cu,Dn,br,Ag,AB,AI,AF,AK,AO,AV,Ac,AE,hr]}}
  ·rw[rA h0 he (s1 he)];simp only[he,AE]
 ·have zl:¬(i:Int)<(p.length:Int):=by omega
  obtain rfl:i=p.length:=by omega
  rw[q1F (bx _)]at hS;simp only[AF,AK,AO,AB,AI,zl,AE,br,OC,Cu,Dn];rw[rB h0 hS];generalize hL:FU p bs=L at hln
  refine Hy (F:=Zp N k _) (fun j:Nat=>[.slice L,.int L.length,.int j]) (fun _=>[bs.map bE]) (fun j=>L.length-j) (fun j=>j<=L.length/\∀c∈L.take j,(FP bs c).toBool=true)
   (fun _=>k [.int (if L.all (fun c=>(FP bs c).toBool)then 0 else 10)] []) ?_ N 0 ⟨dv _,fun _ h=>by simp at h⟩ (by show L.length-0<N;omega)
  rintro j ⟨hj1,yx⟩ z6J z6K;unfold Zp;by_cases hjl:j<L.length
  ·have e1:(j:Int)<(L.length:Int):=by omega
   have e2:0<=(j:Int)/\(j:Int)<(L.length:Int):=by omega
   have z6Z:L.getD j .nil∈L:=by rw[bh,bg hjl];exact jx hjl
   by_cases hin:(FP bs (L.getD j .nil)).toBool=true
   ·have hh:FG (bs.map bE) (L.getD j .nil)=true:=(dB _ _).trans hin
    have:=z6K (j+1) ⟨hjl,fun c hc=>by
     rw[lz,dw]at hc;rcases hc with hc|hc;{exact yx c hc}
     ·rw[bg hjl]at hc;simp only[Option.toList_some,fq]at hc;subst hc;rw[bh,bg hjl]at hin;exact hin⟩ (by omega)
    simp only[AF,AK,AO,AB,AI,e1,e2,AE,and_self,OC,VE,WI,wB,bf,hh,wD _ _ hh,Ag,Cu,Dn,KX (show j<4611686018427387904 by omega),this]
   ·have hh:FG (bs.map bE) (L.getD j .nil)=false:=(dB _ _).trans (by simpa using hin);have er:L.all (fun c=>(FP bs c).toBool)=false:=by cases h:L.all (fun c=>(FP bs c).toBool);{rfl};{exact absurd (eh.1 h _ z6Z) hin}
    simp only[AF,AK,AO,AB,AI,e1,e2,AE,and_self,OC,VE,WI,bf,hh,er,fe]
  ·have e1:¬(j:Int)<(L.length:Int):=by omega
   rw[dr (by omega)]at yx;have er:L.all (fun c=>(FP bs c).toBool)=true:=by rw[eh];exact yx
   simp only[AK,AO,AB,e1,AE,er]
end
section
variable {R:Type} {N:Nat}
def GQ (bs:List Nat) (n:Nat):List C:=(List.range n).map fun j=>.bool (decide (j∈bs))
def q6E {bs:List Nat} {n i:Nat} (h:i<n):(GQ bs n).getD i .nil= .bool (decide (i∈bs)):=by simp[GQ,bh,h]
def q6G (bs:List Nat) (n i:Nat):(GQ bs n).set i (.bool true)=GQ (bs++[i]) n:=by
 apply List.ext_getElem?;intro j;simp only[GQ,List.getElem?_set,ep,List.length_range,dg];by_cases hj:j<n;{rw[List.getElem?_range hj];by_cases e:i=j;{subst e;simp[hj]};{have e':¬j=i:=fun h=>e h.symm;simp[e,e']}}
 ·have h1:(List.range n)[j]? =none:=by simp;omega
  rw[h1];split;{rename_i e;subst e;rw[if_neg hj];rfl};{rfl}
def q6F (n:Nat):GQ [] n=ay n (.bool false):=by simp[GQ,List.map_const']
def pX (bs:List Nat) (x:Int):(FP bs (.int x)).toBool=true↔∃j∈bs,x=(j:Int):=by simp[FP,cz]
def pN (p:List C) (bs:List Nat):(FU p bs).all (fun c=>(FP bs c).toBool)=true↔∀j∈bs,HN p j=true->∃j'∈bs,toN p j=(j':Int):=by rw[eh];unfold FU;constructor;{intro h j hj hl;exact(pX _ _).1 (h _ (ny.2 ⟨j,mi.2 ⟨hj,hl⟩,rfl⟩))};{intro h c hc;obtain⟨j,hj,rfl⟩:=ny.1 hc;obtain⟨a,b⟩:=mi.1 hj;exact(pX _ _).2 (h j a b)}
theorem z1p (p:List C) (hw:C.wf (.slice 1 (.int .u8)) (.slice p)) (hN:1000<N) (k:KD R):Xe N (.slice p) k=k [.int (Cv p)] []:=by
 have hz:((0:Nat):Int)=0:=rfl;have t0:aq 0=0:=rfl;rw[J5];unfold jA;simp only[AI];by_cases h0:256<p.length
 ·have h0':(256:Int)<(p.length:Int):=by omega
  have e:Cv p=1:=by unfold Cv;rw[if_pos h0]
  simp only[h0',e,AE]
 have h0':¬(256:Int)<(p.length:Int):=by omega
 have g0:0<=(p.length:Int)/\(p.length:Int)<=(p.length:Int)/\(p.length:Int)<=9223372036854775807/\aq (p.length:Int)*1<=140737488355328:=by omega
 have g2:p.length*1<=140737488355328:=by omega
 simp only[h0',AE,g0,g2,and_self,eq_self,AP,bf];rw[show AJ eg= .bool false from rfl,<-q6F]
 refine Hy (F:=iZ N (.slice p) k _) (fun x:Nat × List Nat=>[.slice p,.int 0,.int p.length,.int p.length,.int x.1,.agg (GQ x.2 p.length)]) (fun _=>[]) (fun x=>p.length-x.1)
  (fun x=>x.1<=p.length/\(∀j∈x.2,j<x.1/\Ar p j=0)/\Ea p (p.length-x.1) x.1 x.2=Ea p p.length 0 []) (fun _=>k [.int (Cv p)] []) ?_ N (0,[]) ⟨dv _,(fun _ h=>nomatch h),rfl⟩ (by show p.length-0<N;omega)
 rintro⟨i,bs⟩ ⟨hi,hj,hS⟩ rec zd;dsimp only at hi hj hS zd;unfold iZ;by_cases hlt:i<p.length
 ·have zl:(i:Int)<(p.length:Int):=by omega
  obtain⟨s1,s2⟩:=q1G hlt hS;simp only[AF,AK,AO,AV,Ac,Av,AB,AI,zl,AE,Z2 p hw i (show p.length<=256 by omega) (show i<=100000 by omega) (show 20<N by omega)];by_cases he:Ar p i=0
  ·obtain⟨q1,q2⟩:=s2 he
   have hr:=zd (i+1+BA (bN p i),bs++[i]) ⟨q1,(fun j h=>by
    show j<i+1+BA (bN p i)/\Ar p j=0;rcases dw.1 h with h|h;{have:=hj _ h;exact⟨by omega,this.2⟩}
    ·rw[fq.1 h];exact⟨by omega,he⟩),q2⟩ (by show p.length-(i+1+BA (bN p i))<p.length-i;omega)
   have m8:=KH (bN p i);have w3:IntKind.i64.wrap (((i+1:Nat):Int)+(BA (bN p i):Int))=((i+1+BA (bN p i):Nat):Int):=by rw[df _ (by omega)];omega
   have g1:0<=(i:Int)/\(i:Int)<(p.length:Int):=by omega
   have z5V:ct (dh (GQ bs p.length)) i (cd true)=dh (GQ (bs++[i]) p.length):=congrArg dh (q6G bs p.length i);simp only[he,AE,bf,g1,and_self,eq_self,Wv,AF,AB,t0,hz,cm,KX (show i<4611686018427387904 by omega),w3,z5V,hr]
  ·rw[rA h0 he (s1 he)];simp only[he,AE]
 ·have zl:¬(i:Int)<(p.length:Int):=by omega
  obtain rfl:i=p.length:=by omega
  rw[q1F (bx _)]at hS;simp only[AF,AK,AO,AV,Ac,Av,AB,AI,zl,AE,eq_self,bf,t0,hz];rw[rB h0 hS]
  refine Hy (F:=TK N (.slice p) k _) (fun i:Nat=>[.slice p,.int 0,.int p.length,.int p.length,.int i,.agg (GQ bs p.length)]) (fun _=>[]) (fun i=>p.length-i)
   (fun i=>i<=p.length/\∀j∈bs,j<i->HN p j=true->∃j'∈bs,toN p j=(j':Int)) (fun _=>k [.int (if(FU p bs).all (fun c=>(FP bs c).toBool)then 0 else 10)] []) ?_ N 0 ⟨dv _,fun _ _ h=>by omega⟩ (by show p.length-0<N;omega)
  rintro i ⟨hi1,yx⟩ z6J z6K;unfold TK;by_cases hil:i<p.length
  case neg=>
   have e1:¬(i:Int)<(p.length:Int):=by omega
   rw[if_pos ((pN p bs).2 fun j hb hl=>yx j hb (by have:=(hj j hb).1;omega) hl)];simp only[AF,Ac,AB,AI,e1,AE]
  have e1:(i:Int)<(p.length:Int):=by omega
  have g1:0<=(i:Int)/\(i:Int)<(p.length:Int):=by omega
  have hg:∀j,j<p.length->ax (dh (GQ bs p.length)) j= .bool (decide (j∈bs)):=fun j h=>q6E h
  have next:(i∈bs->HN p i=true->∃j'∈bs,toN p i=(j':Int))->z6J [.slice p,.int 0,.int p.length,.int p.length,.int ((i+1:Nat):Int),.agg (GQ bs p.length)] []=k [.int (if(FU p bs).all (fun c=>(FP bs c).toBool)then 0 else 10)] []:=fun h=>
   z6K (i+1) ⟨hil,fun j hb hji hl=>by
    by_cases e:j=i;{subst e;exact h hb hl}
    ·exact yx j hb (by omega) hl⟩ (by omega)
  by_cases hin:i∈bs
  case neg=>
   have:=next fun h=>absurd h hin
   simp only[AP,AF,AK,AO,AV,Ac,Av,BW,AB,AI,Ag,e1,g1,AE,and_self,bf,t0,hz,cm,hg i hil,hin,eq_self,KX (show i<4611686018427387904 by omega),this]
  obtain⟨b1,b2,b3⟩:=Hm hw hil;by_cases hl:HN p i=true
  case neg=>
   have l1:¬bN p i=11:=fun h=>hl (by simp[HN,h]);have l2:¬bN p i=12:=fun h=>hl (by simp[HN,h]);have:=next fun _ h=>absurd h hl
   simp only[AP,AF,AK,AO,AV,Ac,Av,BW,AB,AI,Ag,e1,g1,AE,and_self,bf,t0,hz,cm,hg i hil,hin,b1,l1,l2,eq_self,KX (show i<4611686018427387904 by omega),this]
  have he:=(hj i hin).2;have ht:0<=toN p i:=by
   unfold toN;have e:=he;unfold Ar at e;have:i+1+BA (bN p i)<=p.length:=by split at e;{simp at e};{split at e;{simp at e};{split at e;{simp at e};{omega}}}
   exact(Lx hw this (KH _)).1
  have key:TK N (.slice p) k (fun _ _=>k [.int 0] []) z6J [.slice p,.int 0,.int p.length,.int p.length,.int i,.agg (GQ bs p.length)] []=
    if toN p i<p.length/\(toN p i).toNat∈bs then z6J [.slice p,.int 0,.int p.length,.int p.length,.int ((i+1:Nat):Int),.agg (GQ bs p.length)] []else k [.int 10] []:=by
   unfold TK;have ho:=fun k:KD R=>Z2 p hw i (show p.length<=256 by omega) (show i<=100000 by omega) (show 20<N by omega) k;simp only[he,if_true]at ho;rw[show CC p (i+1) (BA (bN p i))=toN p i from rfl]at ho;have l12:bN p i=11\/bN p i=12:=by simpa[HN]using hl
   have d12:¬(12:Int)=11:=by decide
   by_cases c1:(p.length:Int)<=toN p i
   ·have c2:¬(toN p i<(p.length:Int)/\(toN p i).toNat∈bs):=by omega
    rcases l12 with l|l <;> simp only[AP,AF,AK,AO,AV,Ac,Av,BW,AB,AI,Ag,e1,g1,AE,and_self,bf,t0,hz,cm,hg i hil,hin,b1,l,d12,eq_self,ho,QO (show p.length<=100000 by omega),c1,c2]
   ·have c2:0<=toN p i/\toN p i<(p.length:Int):=by omega
    have c3:=hg (toN p i).toNat (by omega);by_cases c4:(toN p i).toNat∈bs;{rcases l12 with l|l <;> simp only[AP,AF,AK,AO,AV,Ac,Av,BW,AB,AI,Ag,e1,g1,AE,and_self,bf,t0,hz,cm,hg i hil,hin,b1,l,d12,eq_self,ho,QO (show p.length<=100000 by omega),c1,c2,c3,c4,KX (show i<4611686018427387904 by omega)]};{rcases l12 with l|l <;> simp only[AP,AF,AK,AO,AV,Ac,Av,BW,AB,AI,Ag,e1,g1,AE,and_self,and_false,bf,t0,hz,cm,hg i hil,hin,b1,l,d12,eq_self,ho,QO (show p.length<=100000 by omega),c1,c2,c3,c4]}
  refine key.trans ?_;by_cases c:toN p i<p.length/\(toN p i).toNat∈bs;{rw[if_pos c];exact next fun _ _=>⟨_,c.2,by omega⟩}
  ·have er:¬(FU p bs).all (fun c=>(FP bs c).toBool)=true:=fun h=>c (by
    obtain⟨j',h1,h2⟩:=(pN p bs).1 h i hin hl;have:=(hj j' h1).1;exact⟨by omega,by rw[h2,bf];exact h1⟩)
   rw[if_neg c,if_neg er]
def q4r (_:GF gl0) (A:Key->Option O) (p:List C):Bo (X0 gl0) 33 [.d (.slice 1 (.int .u8)) (.slice p)] A (.d (.int .i64) (.int (Cv p))) []:=by refine Vd (ts:=[.slice 1 (.int .u8)]) (cs:=[.slice p]) fun W=>?_;refine XH (q4h 1001) ?_;show Zo 1001 [.d (.slice 1 (.int .u8)) (.slice p)] A kR=_;simp only[Zo,Af,Kj,and_self,if_true,AF,AK,AO,AV,Ac,Bs,Bl,Ds,BD,Ev];rw[q4g p (W 0 _ _ rfl rfl) (by omega)];rfl
def z2i (A:Key->Option O) (p:List C):Bo (X0 gl0) 47 [.d (.slice 1 (.int .u8)) (.slice p)] A (.d (.int .i64) (.int (Cv p))) []:=by refine Vd (ts:=[.slice 1 (.int .u8)]) (cs:=[.slice p]) fun W=>?_;refine XH (z1q 1001) ?_;show iY 1001 [.d (.slice 1 (.int .u8)) (.slice p)] A kR=_;simp only[iY,Af,Kj,and_self,if_true,AF,AK,AO,AV,Ac,Bs,Bl,Ds,BD,Ev];rw[z1p p (W 0 _ _ rfl rfl) (by omega)];rfl
end
def q1Q {X f} {eb:Nat} {e} {c:C} {A v L} (h:Bo X f [.d (.slice eb e) (.slice c.elems)] A v L):Bo X f [.d (.slice eb e) c] A v L:=by intro A' Γ w args hA hg hc hn hr;have hs:args.size=1:=hn.symm;have h0:AG Γ (.d (.slice eb e) c) args[0]:=hr 0 _ _ rfl (ee (by omega:0<args.size));obtain⟨h2,_⟩:=(Bi rfl rfl).1 h0;simp only[AA,AL]at h2;obtain⟨_,_,_,cs,rfl,_⟩:=h2;exact h A' Γ w args hA hg hc hn hr
def VU {R:Type}:OvG R:=fun xs _ K=>match xs with| [.d t c]=>if t= .slice 1 (.int .u8)then K (.d (.int .i64) (.int (Cv c.elems))) []else none|_=>none
def rG (_:Nat) {R:Type}:OvG R:=VU
def q4s (N:Nat) {R:Type}:GOk (X0 gl0) 33 (rG N (R:=R)):=by intro xs A Kr r hr;unfold rG VU at hr;split at hr;{simp only[au]at hr;obtain⟨rfl,hr⟩:=hr;exact⟨_,_,q1Q (q4r gf0 A _),hr⟩};{cases hr}
def q0o (_:Nat) {R:Type}:OvG R:=VU
def z2j (N:Nat) {R:Type}:GOk (X0 gl0) 47 (q0o N (R:=R)):=by intro xs A Kr r hr;unfold q0o VU at hr;split at hr;{simp only[au]at hr;obtain⟨rfl,hr⟩:=hr;exact⟨_,_,q1Q (z2i A _),hr⟩};{cases hr}
def z4i {X f} {eb:Nat} {e} {c:C} {y A v L} (h:Bo X f [.d (.slice eb e) (.slice c.elems),y] A v L):Bo X f [.d (.slice eb e) c,y] A v L:=by intro A' Γ w args hA hg hc hn hr;have hs:args.size=2:=hn.symm;have h0:AG Γ (.d (.slice eb e) c) args[0]:=hr 0 _ _ rfl (ee (by omega:0<args.size));obtain⟨h2,_⟩:=(Bi rfl rfl).1 h0;simp only[AA,AL]at h2;obtain⟨_,_,_,cs,rfl,_⟩:=h2;exact h A' Γ w args hA hg hc hn hr
def q7l {X f k} {c:C} {y A v L} (h:Bo X f [y,.d (.int k) (.int c.toInt)] A v L):Bo X f [y,.d (.int k) c] A v L:=by
 intro A' Γ w args hA hg hc hn hr;have hs:args.size=2:=hn.symm;have h0:AG Γ (.d (.int k) c) args[1]:=hr 1 _ _ rfl (ee (by omega:1<args.size));obtain⟨h2,_⟩:=(Bi rfl rfl).1 h0;simp only[AA,AL]at h2;have hc':∃i,c= .int i:=by cases c <;> simp_all
 obtain⟨i,rfl⟩:=hc';exact h A' Γ w args hA hg hc hn hr
def uW {R:Type}:OvG R:=fun xs _ K=>match xs with
 | [.d t c,.d u i]=>if t= .slice 1 (.int .u8)/\u= .int .i64 then(if c.elems.length<=256/\0<=i.toInt/\i.toInt<=100000 then
   K (.tup [.d (.int .i64) (.int (if Ar c.elems i.toInt.toNat=0 then bN c.elems i.toInt.toNat else 0)),.d (.int .u64) (.int (if Ar c.elems i.toInt.toNat=0 then CC c.elems (i.toInt.toNat+1) (BA (bN c.elems i.toInt.toNat))else 0)),.d (.int .i64) (.int (if Ar c.elems i.toInt.toNat=0 then((i.toInt.toNat+1+BA (bN c.elems i.toInt.toNat):Nat):Int)else 0)),.d (.int .i64) (.int (Ar c.elems i.toInt.toNat))]) []else none)else none
 |_=>none
def rI (_:Nat) {R:Type}:OvG R:=uW
def q4A (N:Nat) {R:Type}:GOk (X0 gl0) 62 (rI N (R:=R)):=by intro xs A Kr r hr;unfold rI uW at hr;split at hr;{simp only[au]at hr;obtain⟨⟨rfl,rfl⟩,⟨h1,h2,h3⟩,hr⟩:=hr;rename_i c i;refine⟨_,_,z4i (q7l ?_),hr⟩;have:=q4z gf0 A c.elems i.toInt.toNat h1 (by omega);rw[gr h2]at this;simpa only[uX]using this};{cases hr}
section
variable {R:Type}
def Oh {K:KD R} {B:KD R->Option R} (ds:List C) (ms:List Es) (h:∀k,B k=k ds ms):jn K B=K ds ms:=by rw[AP];exact h K
end
def fM {R:Type} (N:Nat) (k1:KD R):Option R:=k1 [ct (dh [dh (ay 8 (aw 0)),dh (ay 64 (aw 0)),aw 0]) 0 (ct (ct (ct (ct (ct (ct (ct (ct (AJ (cq 8 (bn cf))) 0 (aw 1779033703)) 1 (aw 3144134277)) 2 (aw 1013904242)) 3 (aw 2773480762)) 4 (aw 1359893119)) 5 (aw 2600822924)) 6 (aw 528734635)) 7 (aw 1541459225))] []
def SZ:=lid "" (@fM R N)
def y5 {R N k}:@SZ R N k=fM N k:=by unfold SZ;rw[AW]
def q9t:OvG R:=Af [] (fun a=>SZ N) fun a K d1 m1=>K (V.ptr (di 1) [] Fy) [(di 1,O.box (V.d Fy (dk d1 0)))]
theorem q9u:okX 130 (@q9t R N):=Ai AZ N [] [(130,[([9],⟨[],[(0,.as (.ptr (.l 1) [] Fy))],[],[(.l 1,.box (.d Fy))],[],[]⟩)])] (fun _ _=>y5)
def Wr {R:Type} (N:Nat) (k2:KD R):KD R->KD R:=fun k3 d1 m1=>(bif decide (aj (dk d1 3)<aj (dk d1 1))then(if 0<=aj (dk d1 3)/\aj (dk d1 3)<(↑(ak (ao (dk d1 0))):Int)then(k3 [dk d1 0,dk d1 1,aw (Aj qo cf (al cf (aj (dk d1 2)*2^min (aq 8) 32)) (al cf (aj (bj (ao (dk d1 0)) (aq (aj (dk d1 3))) du)))),aw (al ar (aj (dk d1 3)+1))] [])else none)else(k2 [dk d1 2] []))
def fR (a0:C) (k1:KD R):Option R:=if ja 0<=0/\ja 0<=4/\4<=(↑(ak (ao a0)):Int)then(jn (fun d1 m1=>(k1 [dk d1 0] [])) (fun k2=>(Ae N (Wr N k2) [bc (cut (ao a0) 0 4),aw (↑(ak (cut (ao a0) 0 4)):Int),aw 0,aw 0] [])))else none
def Ox:=lid "" (@fR R N)
def x4 {R N a0 k}:@Ox R N a0 k=fR N a0 k:=by unfold Ox;rw[AW]
def q9A:OvG R:=Af [.slice 1 (.int .u8)] (Bs (Ox N)) (BD (bn cf))
theorem q9B:okX 156 (@q9A R N):=Ai AZ N [] [(156,[([1,0,1,1],(Ah [(3,.d (.int .u32))])),
  ([4,1,0,1,1],(AY [7,8] [(3,.d (.int .u32)),(9,.d (.int .i64))])),
  ([9],(Ah [(2,.d (.int .u32))]))])] (fun _ _=>x4)
def fP {R:Type} (N:Nat) (k1:KD R):Option R:=k1 [ct (ct (ct (ct (ct (ct (ct (ct (ct (ct (ct (ct (ct (ct (ct (ct (ct (ct (ct (ct (ct (ct (ct (ct (ct (ct (ct (ct (ct (ct (ct (ct (ct (ct (ct (ct (ct (ct (ct (ct (ct (ct (ct (ct (ct (ct (ct (ct (ct (ct (ct (ct (ct (ct (ct (ct (ct (ct (ct (ct (ct (ct (ct (ct (AJ (cq 64 (bn cf))) 0 (aw 1116352408)) 1 (aw 1899447441)) 2 (aw 3049323471)) 3 (aw 3921009573)) 4 (aw 961987163)) 5 (aw 1508970993)) 6 (aw 2453635748)) 7 (aw 2870763221)) 8 (aw 3624381080)) 9 (aw 310598401)) 10 (aw 607225278)) 11 (aw 1426881987)) 12 (aw 1925078388)) 13 (aw 2162078206)) 14 (aw 2614888103)) 15 (aw 3248222580)) 16 (aw 3835390401)) 17 (aw 4022224774)) 18 (aw 264347078)) 19 (aw 604807628)) 20 (aw 770255983)) 21 (aw 1249150122)) 22 (aw 1555081692)) 23 (aw 1996064986)) 24 (aw 2554220882)) 25 (aw 2821834349)) 26 (aw 2952996808)) 27 (aw 3210313671)) 28 (aw 3336571891)) 29 (aw 3584528711)) 30 (aw 113926993)) 31 (aw 338241895)) 32 (aw 666307205)) 33 (aw 773529912)) 34 (aw 1294757372)) 35 (aw 1396182291)) 36 (aw 1695183700)) 37 (aw 1986661051)) 38 (aw 2177026350)) 39 (aw 2456956037)) 40 (aw 2730485921)) 41 (aw 2820302411)) 42 (aw 3259730800)) 43 (aw 3345764771)) 44 (aw 3516065817)) 45 (aw 3600352804)) 46 (aw 4094571909)) 47 (aw 275423344)) 48 (aw 430227734)) 49 (aw 506948616)) 50 (aw 659060556)) 51 (aw 883997877)) 52 (aw 958139571)) 53 (aw 1322822218)) 54 (aw 1537002063)) 55 (aw 1747873779)) 56 (aw 1955562222)) 57 (aw 2024104815)) 58 (aw 2227730452)) 59 (aw 2361852424)) 60 (aw 2428436474)) 61 (aw 2756734187)) 62 (aw 3204031479)) 63 (aw 3329325298)] []
def Sa:=lid "" (@fP R N)
def y8 {R N k}:@Sa R N k=fP N k:=by unfold Sa;rw[AW]
def q9w:OvG R:=Af [] (fun a=>Sa N) (BD (cq 64 (bn cf)))
theorem q9x:okX 157 (@q9w R N):=Ai AZ N [] [(157,[([9],⟨[],[(0,.as (.ptr (.l 0) [] (.arr 64 (.int .u32))))],[],[(.l 0,.box (.d (.arr 64 (.int .u32))))],[],[]⟩)])] (fun _ _=>y8)
def fF {R:Type} (N:Nat) (a0 a1:C) (k1:KD R):Option R:=if 0<=al av (32-Aj dq av (al av (aj a1)) 31)then(k1 [aw (Aj qo cf (al cf (aj a0*2^min (aq (Aj dq av (al av (aj a1)) 31)) 32)) (fw (aj a0) (2^min (aq (al av (32-Aj dq av (al av (aj a1)) 31))) 32)))] [])else none
def Mf:=lid "" (@fF R N)
def ab {R N a0 a1 k}:@Mf R N a0 a1 k=fF N a0 a1 k:=by unfold Mf;rw[AW]
def q85:OvG R:=Af [.int .u32,.int .i64] (Bl (Mf N)) (BD (bn cf))
theorem q86:okX 159 (@q85 R N):=Ai AZ N [] [(159,[([9],(Ah [(4,.d (.int .u32))]))])] (fun _ _=>ab)
def fQ (a0 a1 a2 a3 a4:C) (k1:KD R):Option R:=Mf N a0 (aw (al ar (0-aj a3))) (fun d1 m1=>(jn (fun d2 m2=>(Mf N (dk d2 0) (aw (al ar (0-aj (dk d2 1)))) (fun d3 m3=>(Mf N (dk d2 0) (aw (al ar (0-aj (dk d2 2)))) (fun d4 m4=>(k1 [aw (Aj ej cf (Aj ej cf (aj (dk d3 0)) (aj (dk d4 0))) (aj (dk d2 3)))] [])))))) (fun k2=>(bif cz a4 then(if 0<=aj a3 then(k2 [a0,a1,a2,aw (fw (aj a0) (2^min (aq (aj a3)) 32))] [])else none)else(k2 [a0,a1,a2,dk d1 0] [])))))
def IB:=lid "" (@fQ R N)
def y9 {R N a0 a1 a2 a3 a4 k}:@IB R N a0 a1 a2 a3 a4 k=fQ N a0 a1 a2 a3 a4 k:=by unfold IB;rw[AW]
def q9y:OvG R:=Af [.int .u32,.int .i64,.int .i64,.int .i64,.bool] (fun a=>IB N (a 0) (a 1) (a 2) (a 3) (a 4)) (BD (bn cf))
theorem q9z:okX 158 (@q9y R N):=Ai (AH (q86 N) <| AZ) N [] [(158,[([1,0,1,1],(AY [0,1,2] [(11,.d (.int .u32))])),
  ([9],(Ah [(10,.d (.int .u32))]))])] (fun _ _=>y9)
def q9m:List Sh:=[.as (.ptr (.g (.l 1)) [] Fy)]
def q9p:List (Key × OSh):=[(.l 1,.box (.d Fy))]
def SV {R:Type} (N:Nat) (k2:KD R):KD R->KD R:=fun k3 d4 m4=>(bif decide (aj (dk d4 0)<8)then(if 0<=aj (dk d4 0)/\aj (dk d4 0)<8 then(if 0<=aj (dk d4 0)/\aj (dk d4 0)<8 then(if 0<=aj (dk d4 0)/\aj (dk d4 0)<8 then(k3 [aw (al ar (aj (dk d4 0)+1)),ct (dk d4 1) 0 (ct (ax (dk d4 1) 0) (aq (aj (dk d4 0))) (aw (al cf (aj (ax (ax (dk d4 1) 0) (aq (aj (dk d4 0))))+aj (ax (dk d4 2) (aq (aj (dk d4 0)))))))),dk d4 2] [])else none)else none)else none)else(k2 [dk d4 1] []))
def Ow (k2:KD R):KD R->KD R:=fun k3 d3 m3=>(bif decide (aj (dk d3 1)<64)then(if 0<=aj (dk d3 1)/\aj (dk d3 1)<64 then(jn (fun d4 m4=>(IB N (ax (dk d4 6) (aq 4)) (aw 6) (aw 11) (aw 25) (cd false) (fun d5 m5=>(if 0<=aj (dk d4 1)/\aj (dk d4 1)<16 then(IB N (ax (dk d4 6) (aq 0)) (aw 2) (aw 13) (aw 22) (cd false) (fun d6 m6=>(k3 [dk d4 2,aw (al ar (aj (dk d4 3)+1)),dk d4 4,dk d4 5,ct (ct (ct (ct (ct (ct (ct (ct (AJ (cq 8 (bn cf))) 0 (aw (al cf (al cf (al cf (al cf (al cf (al cf (aj (ax (dk d4 6) (aq 7))+aj (dk d5 0))+Aj ej cf (aj (ax (dk d4 6) (aq 6))) (Aj dq cf (aj (ax (dk d4 6) (aq 4))) (Aj ej cf (aj (ax (dk d4 6) (aq 5))) (aj (ax (dk d4 6) (aq 6))))))+aj (dk d4 0))+aj (ax (dk d4 5) (aq (aj (dk d4 1)))))+aj (dk d6 0))+Aj qo cf (Aj dq cf (aj (ax (dk d4 6) (aq 0))) (aj (ax (dk d4 6) (aq 1)))) (Aj dq cf (aj (ax (dk d4 6) (aq 2))) (Aj qo cf (aj (ax (dk d4 6) (aq 0))) (aj (ax (dk d4 6) (aq 1))))))))) 1 (ax (dk d4 6) (aq 0))) 2 (ax (dk d4 6) (aq 1))) 3 (ax (dk d4 6) (aq 2))) 4 (aw (al cf (aj (ax (dk d4 6) (aq 3))+al cf (al cf (al cf (al cf (aj (ax (dk d4 6) (aq 7))+aj (dk d5 0))+Aj ej cf (aj (ax (dk d4 6) (aq 6))) (Aj dq cf (aj (ax (dk d4 6) (aq 4))) (Aj ej cf (aj (ax (dk d4 6) (aq 5))) (aj (ax (dk d4 6) (aq 6))))))+aj (dk d4 0))+aj (ax (dk d4 5) (aq (aj (dk d4 1))))))))) 5 (ax (dk d4 6) (aq 4))) 6 (ax (dk d4 6) (aq 5))) 7 (ax (dk d4 6) (aq 6))] [])))else none)))) (fun k4=>(bif decide (16<=aj (dk d3 1))then(if 0<=bm (aj (dk d3 1)) 16/\bm (aj (dk d3 1)) 16<16 then(if 0<=bm (al ar (aj (dk d3 1)+1)) 16/\bm (al ar (aj (dk d3 1)+1)) 16<16 then(IB N (ax (dk d3 3) (aq (bm (al ar (aj (dk d3 1)+1)) 16))) (aw 7) (aw 18) (aw 3) (cd true) (fun d4 m4=>(if 0<=bm (al ar (aj (dk d3 1)+9)) 16/\bm (al ar (aj (dk d3 1)+9)) 16<16 then(if 0<=bm (al ar (aj (dk d3 1)+14)) 16/\bm (al ar (aj (dk d3 1)+14)) 16<16 then(IB N (ax (dk d3 3) (aq (bm (al ar (aj (dk d3 1)+14)) 16))) (aw 17) (aw 19) (aw 10) (cd true) (fun d5 m5=>(if 0<=bm (aj (dk d3 1)) 16/\bm (aj (dk d3 1)) 16<16 then(k4 [ax (dk d3 0) (aq (aj (dk d3 1))),aw (bm (aj (dk d3 1)) 16),dk d3 0,dk d3 1,dk d3 2,ct (dk d3 3) (aq (bm (aj (dk d3 1)) 16)) (aw (al cf (aj (ax (dk d3 3) (aq (bm (aj (dk d3 1)) 16)))+al cf (al cf (aj (dk d4 0)+aj (ax (dk d3 3) (aq (bm (al ar (aj (dk d3 1)+9)) 16))))+aj (dk d5 0))))),dk d3 4] [])else none)))else none)else none)))else none)else none)else(k4 [ax (dk d3 0) (aq (aj (dk d3 1))),aw (bm (aj (dk d3 1)) 16),dk d3 0,dk d3 1,dk d3 2,dk d3 3,dk d3 4] []))))else none)else(k2 [dk d3 2,dk d3 4] []))
def SW (k2:KD R):KD R->KD R:=fun k3 d1 m1=>(bif decide (aj (dk d1 0)<16)then(if 0<=al ar (4*aj (dk d1 0))/\al ar (4*aj (dk d1 0))<=64/\ja 64<=64 then(Ox N (bc (List.take (aq (64-al ar (4*aj (dk d1 0)))) (List.drop (aq (al ar (4*aj (dk d1 0)))) (ao (ax (dk d1 1) 1))))) (fun d2 m2=>(if 0<=aj (dk d1 0)/\aj (dk d1 0)<16 then(k3 [aw (al ar (aj (dk d1 0)+1)),dk d1 1,ct (dk d1 2) (aq (aj (dk d1 0))) (dk d2 0)] [])else none)))else none)else(k2 [dk d1 1,dk d1 2] []))
def fK (b0:C) (k1:KD R):Option R:=jn (fun d1 m1=>(Sa N (fun d2 m2=>(jn (fun d3 m3=>(jn (fun d4 m4=>(k1 [dk d4 0] [])) (fun k2=>(Ae N (SV N k2) [aw 0,dk d3 0,dk d3 1] [])))) (fun k2=>(Ae N (Ow N k2) [dk d2 0,aw 0,dk d1 0,dk d1 1,ax (dk d1 0) 0] [])))))) (fun k2=>(Ae N (SW N k2) [aw 0,b0,AJ (cq 16 (bn cf))] []))
def SX:=lid "" (@fK R N)
def z8 {R N b0 k}:@SX R N b0 k=fK N b0 k:=by unfold SX;rw[AW]
def q9n:OvG R:=Cf q9m q9p (fun ds ms=>SX N (dk ds 0)) fun ds ms K d1 m1=>K (V.tup []) [(Key.g (di 1),O.box (V.d Fy (dk d1 0)))]
theorem q9o:okX 154 (@q9n R N):=Cq (AH (q9B N) <| AH (q9x N) <| AH (q9z N) <| AZ) N [(154,[(12,[(46,7),(58,7)]),(15,[(91,7)]),(16,[(104,7)]),(4,[(22,8)])])] [(154,[([1,0,1],⟨[0,2],[],[.g (.l 1)],[],[],[]⟩),
  ([4,1,0,1],⟨[0,2],[(12,.d (.int .i64))],[.g (.l 1)],[],[],[]⟩),
  ([1,0,1,1,1],⟨[0,4],[],[.g (.l 1)],[],[],[]⟩),
  ([4,1,0,1,1,1],⟨[0,2,4,29],[(30,.d (.int .i64))],[.g (.l 1)],[],[],[]⟩),
  ([1,0,1,1,4,0,1,1,5,4,1,0,1,1,1],⟨[0,2,4,6,7,29,30],[],[.g (.l 1)],[],[],[]⟩),
  ([1,1,1,1,1],⟨[0],[],[.g (.l 1)],[],[],[]⟩),
  ([4,1,1,1,1,1],⟨[0,4],[(126,.d (.int .i64))],[.g (.l 1)],[],[],[]⟩),
  ([9],⟨[],[],[.g (.l 1)],[],[],[]⟩)])] (fun _ _ _=>z8)
def q9q:List Sh:=[.as (.ptr (.g (.l 1)) [] Fy),.d (.slice 1 (.int .u8))]
def q9s:List (Key × OSh):=[(.l 1,.box (.d Fy))]
def SY (k2:KD R):KD R->KD R:=fun k3 d1 m1=>(bif decide (0<(↑(ak (ao (dk d1 0))):Int))then(if 0<=bm (aj (ax (dk d1 1) 2)) 64/\bm (aj (ax (dk d1 1) 2)) 64<=64/\ja 64<=64 then(if 0<aq (64-bm (aj (ax (dk d1 1) 2)) 64)then(if 0<=(↑(min (ak (ao (dk d1 0))) (aq (64-bm (aj (ax (dk d1 1) 2)) 64))):Int)/\(↑(min (ak (ao (dk d1 0))) (aq (64-bm (aj (ax (dk d1 1) 2)) 64))):Int)<=(↑(ak (ao (dk d1 0))):Int)/\(↑(ak (ao (dk d1 0))):Int)<=(↑(ak (ao (dk d1 0))):Int)then(jn (fun d2 m2=>(k3 [dk d2 0,dk d2 1] [])) (fun k4=>(bif decide (bm (aj (ax (ct (ct (dk d1 1) 1 (dh (Ck (ao (ax (dk d1 1) 1)) (aq (bm (aj (ax (dk d1 1) 2)) 64)) (aq (64-bm (aj (ax (dk d1 1) 2)) 64)) (ao (dk d1 0))))) 2 (aw (al av (aj (ax (ct (dk d1 1) 1 (dh (Ck (ao (ax (dk d1 1) 1)) (aq (bm (aj (ax (dk d1 1) 2)) 64)) (aq (64-bm (aj (ax (dk d1 1) 2)) 64)) (ao (dk d1 0))))) 2)+al av (↑(min (ak (ao (dk d1 0))) (aq (64-bm (aj (ax (dk d1 1) 2)) 64))):Int))))) 2)) 64=0)then(SX N (ct (ct (dk d1 1) 1 (dh (Ck (ao (ax (dk d1 1) 1)) (aq (bm (aj (ax (dk d1 1) 2)) 64)) (aq (64-bm (aj (ax (dk d1 1) 2)) 64)) (ao (dk d1 0))))) 2 (aw (al av (aj (ax (ct (dk d1 1) 1 (dh (Ck (ao (ax (dk d1 1) 1)) (aq (bm (aj (ax (dk d1 1) 2)) 64)) (aq (64-bm (aj (ax (dk d1 1) 2)) 64)) (ao (dk d1 0))))) 2)+al av (↑(min (ak (ao (dk d1 0))) (aq (64-bm (aj (ax (dk d1 1) 2)) 64))):Int))))) (fun d2 m2=>(k4 [bc (cut (ao (dk d1 0)) (↑(min (ak (ao (dk d1 0))) (aq (64-bm (aj (ax (dk d1 1) 2)) 64))):Int) (↑(ak (ao (dk d1 0))):Int)),dk d2 0] [])))else(k4 [bc (cut (ao (dk d1 0)) (↑(min (ak (ao (dk d1 0))) (aq (64-bm (aj (ax (dk d1 1) 2)) 64))):Int) (↑(ak (ao (dk d1 0))):Int)),ct (ct (dk d1 1) 1 (dh (Ck (ao (ax (dk d1 1) 1)) (aq (bm (aj (ax (dk d1 1) 2)) 64)) (aq (64-bm (aj (ax (dk d1 1) 2)) 64)) (ao (dk d1 0))))) 2 (aw (al av (aj (ax (ct (dk d1 1) 1 (dh (Ck (ao (ax (dk d1 1) 1)) (aq (bm (aj (ax (dk d1 1) 2)) 64)) (aq (64-bm (aj (ax (dk d1 1) 2)) 64)) (ao (dk d1 0))))) 2)+al av (↑(min (ak (ao (dk d1 0))) (aq (64-bm (aj (ax (dk d1 1) 2)) 64))):Int))))] []))))else none)else none)else none)else(k2 [dk d1 1] []))
def fL (a0 b0:C) (k1:KD R):Option R:=jn (fun d1 m1=>(k1 [dk d1 0] [])) (fun k2=>(Ae N (SY N k2) [a0,b0] []))
def Mg:=lid "" (@fL R N)
def y4 {R N a0 b0 k}:@Mg R N a0 b0 k=fL N a0 b0 k:=by unfold Mg;rw[AW]
def q9r:OvG R:=Cf q9q q9s (fun ds ms=>Mg N (dk ds 0) (dk ds 1)) fun ds ms K d1 m1=>K (V.tup []) [(Key.g (di 1),O.box (V.d Fy (dk d1 0)))]
theorem z9:okX 144 (@q9r R N):=Cq (AH (q9o N) <| AZ) N [] [(144,[([],⟨[0],[],[.g (.l 1)],[],[],[]⟩),
  ([4],⟨[0],[(1,.d (.slice 1 (.int .u8)))],[.g (.l 1)],[],[],[]⟩),
  ([1,1,1,1,4,1,5,4],⟨[0,1],[],[.g (.l 1)],[],[],[]⟩),
  ([9],⟨[],[],[.g (.l 1)],[],[],[]⟩)])] (fun _ _ _=>y4)
def q9i:List Sh:=[.as (.ptr (.g (.l 1)) [] Fy),.d (.slice 24 (.slice 1 (.int .u8)))]
def q9l:List (Key × OSh):=[(.l 1,.box (.d Fy))]
def Wq (k2:KD R):KD R->KD R:=fun k3 d1 m1=>(bif decide (aj (dk d1 2)<aj (dk d1 1))then(if 0<=aj (dk d1 2)/\aj (dk d1 2)<(↑(ak (ao (dk d1 0))):Int)then(Mg N (bj (ao (dk d1 0)) (aq (aj (dk d1 2))) du) (dk d1 3) (fun d2 m2=>(k3 [dk d1 0,dk d1 1,aw (al ar (aj (dk d1 2)+1)),dk d2 0] [])))else none)else(k2 [dk d1 3] []))
def fJ (a0 b0:C) (k1:KD R):Option R:=jn (fun d1 m1=>(k1 [dk d1 0] [])) (fun k2=>(Ae N (Wq N k2) [a0,aw (↑(ak (ao a0)):Int),aw 0,b0] []))
def Ov:=lid "" (@fJ R N)
def z7 {R N a0 b0 k}:@Ov R N a0 b0 k=fJ N a0 b0 k:=by unfold Ov;rw[AW]
def q9j:OvG R:=Cf q9i q9l (fun ds ms=>Ov N (dk ds 0) (dk ds 1)) fun ds ms K d1 m1=>K (V.tup []) [(Key.g (di 1),O.box (V.d Fy (dk d1 0)))]
theorem q9k:okX 131 (@q9j R N):=Cq (AH (z9 N) <| AZ) N [] [(131,[([1,1],⟨[0],[],[.g (.l 1)],[],[],[]⟩),
  ([4,1,1],⟨[0,8,9],[(10,.d (.int .i64))],[.g (.l 1)],[],[],[]⟩),
  ([9],⟨[],[],[.g (.l 1)],[],[],[]⟩)])] (fun _ _ _=>z7)
def fO {R:Type} (N:Nat) (a0:C) (k1:KD R):Option R:=k1 [bc [aw (al bp (fw (aj a0) (2^min (aq 24) 32))),aw (al bp (fw (aj a0) (2^min (aq 16) 32))),aw (al bp (fw (aj a0) (2^min (aq 8) 32))),aw (al bp (aj a0))]] []
def LI:=lid "" (@fO R N)
def y7 {R N a0 k}:@LI R N a0 k=fO N a0 k:=by unfold LI;rw[AW]
def q9v:OvG R:=Af [.int .u32] (Bs (LI N)) fun a K d1 m1=>K (V.ts 1 (bn bp) (ao (dk d1 0))) []
theorem y6:okX 132 (@q9v R N):=Ai AZ N [(132,[(1,[(14,4)])])] [(132,[([9],(Ah [(2,.sl 1 (.int .u8) 5002)]))])] (fun _ _=>y7) fun a K=>(show _=jn (fun d1 m1=>(bif bw (ak (ao (dk d1 0))) (ak (ao (dk d1 0)))then
  (K (V.ts 1 (bn bp) (ao (dk d1 0))) [])
 else
  none)) _ by kernel_rfl).trans (congrArg (fun k=>jn k _) (funext fun _=>funext fun _=>by simp only[br,cond_true]))
def q9e:List Sh:=[.as (.ptr (.g (.l 1)) [] Fy)]
def q9h:List (Key × OSh):=[(.l 1,.box (.d Fy))]
def SS (k2:KD R):KD R->KD R:=fun k3 d5 m5=>(bif decide (aj (dk d5 1)<8)then(if 0<=aj (dk d5 1)/\aj (dk d5 1)<8 then(if 0<=al ar (4*aj (dk d5 1))/\al ar (4*aj (dk d5 1))<=32/\ja 32<=32 then(LI N (ax (dk d5 0) (aq (aj (dk d5 1)))) (fun d6 m6=>(if 0<aq (32-al ar (4*aj (dk d5 1)))then(k3 [dk d5 0,aw (al ar (aj (dk d5 1)+1)),dk d5 2,dk d5 3,dh (Ck (ao (dk d5 4)) (aq (al ar (4*aj (dk d5 1)))) (aq (32-al ar (4*aj (dk d5 1)))) (ao (dk d6 0)))] [])else none)))else none)else none)else(k2 [dk d5 2,dk d5 3,dk d5 4] []))
def fI (b0:C) (k1:KD R):Option R:=if 0<=al av (64-bm (al av (aj (ax b0 2)+8)) 64)/\al av (64-bm (al av (aj (ax b0 2)+8)) 64)<=al av (64-bm (al av (aj (ax b0 2)+8)) 64)/\al av (64-bm (al av (aj (ax b0 2)+8)) 64)<=9223372036854775807/\aq (al av (64-bm (al av (aj (ax b0 2)+8)) 64))*1<=140737488355328 then(if ja 0<=0/\0<(↑(aq (al av (64-bm (al av (aj (ax b0 2)+8)) 64))):Int)then(Mg N (bc (List.take (aq (al av (64-bm (al av (aj (ax b0 2)+8)) 64))) (List.drop 0 (List.set (ay (aq (al av (64-bm (al av (aj (ax b0 2)+8)) 64))) (AJ (bn bp))) 0 (aw 128))))) b0 (fun d1 m1=>(LI N (aw (al cf (fw (al av (aj (ax b0 2)*8)) (2^min (aq 32) 64)))) (fun d2 m2=>(LI N (aw (al cf (al av (aj (ax b0 2)*8)))) (fun d3 m3=>(bif bw (ak (ao (dk d2 0))) (ak (ao (dk d2 0)))then(if(ak (ao (dk d2 0))+ak (ao (dk d3 0)))*1<=140737488355328/\ak (ao (dk d2 0))+ak (ao (dk d3 0))<=9223372036854775807 then(Mg N (bc (ao (dk d2 0)++ao (dk d3 0))) (dk d1 0) (fun d4 m4=>(jn (fun d5 m5=>(k1 [dk d5 2,dk d5 0] [])) (fun k2=>(Ae N (SS N k2) [ax (dk d4 0) 0,aw 0,b0,AJ (cq 32 (bn bp)),AJ (cq 32 (bn bp))] [])))))else none)else none)))))))else none)else none
def SU:=lid "" (@fI R N)
def q8 {R N b0 k}:@SU R N b0 k=fI N b0 k:=by unfold SU;rw[AW]
def q9f:OvG R:=Cf q9e q9h (fun ds ms=>SU N (dk ds 0)) fun ds ms K d1 m1=>K (V.d (cq 32 (bn bp)) (dk d1 0)) [(Key.g (di 1),O.box (V.d Fy (dk d1 1)))]
def q9g:okX 133 (@q9f R N):=Cq (AH (y6 N) <| AH (z9 N) <| AZ) N [(133,[(7,[(27,100),(3,16)]),(8,[(3,16)])])] [(133,[([1,0,1,1,1,1,1,1,1,1,1],⟨[0,2,6],[],[.g (.l 1)],[],[],[]⟩),
  ([4,1,0,1,1,1,1,1,1,1,1,1],⟨[0,2,6,38],[(39,.d (.int .i64))],[.g (.l 1)],[],[],[]⟩),
  ([9],⟨[],[(2,.as (.ptr (.l 2) [] (.arr 32 (.int .u8))))],[.g (.l 1)],[(.l 2,.box (.d (.arr 32 (.int .u8))))],[],[]⟩)])] (fun _ _ _=>q8)
def Wp (k2:KD R):KD R->KD R:=fun k3 d3 m3=>(bif decide (aj (dk d3 2)<aj (dk d3 1))then(if 0<=aj (dk d3 2)/\aj (dk d3 2)<(↑(ak (ao (dk d3 0))):Int)then(LI N (aw (al cf (↑(ak (ao (bj (ao (dk d3 0)) (aq (aj (dk d3 2))) du))):Int))) (fun d4 m4=>(Ov N (bc [bc (ao (dk d4 0)),bj (ao (dk d3 0)) (aq (aj (dk d3 2))) du]) (dk d3 4) (fun d5 m5=>(k3 [dk d3 0,dk d3 1,aw (al ar (aj (dk d3 2)+1)),dk d3 3,dk d5 0] [])))))else none)else(k2 [dk d3 3,dk d3 4] []))
def fG (a0 a1:C) (k1:KD R):Option R:=SZ N (fun d1 m1=>(Ov N (bc [bc [a0,aw (al bp (↑(ak (ao a1)):Int))]]) (dk d1 0) (fun d2 m2=>(jn (fun d3 m3=>(SU N (dk d3 1) (fun d4 m4=>(k1 [dk d4 0] [])))) (fun k2=>(Ae N (Wp N k2) [a1,aw (↑(ak (ao a1)):Int),aw 0,AJ (cq 32 (bn bp)),dk d2 0] []))))))
def KG:=lid "" (@fG R N)
def ah {R N a0 a1 k}:@KG R N a0 a1 k=fG N a0 a1 k:=by unfold KG;rw[AW]
def q9b:OvG R:=Af [.int .u8,.slice 24 (.slice 1 (.int .u8))] (Bl (KG N)) (BD (cq 32 (bn bp)))
def SQ:okX 106 (@q9b R N):=Ai (AH (q9u N) <| AH (q9k N) <| AH (y6 N) <| AH (q9g N) <| AZ) N [(106,[(2,[(5,16)]),(6,[(5,16)]),(8,[(5,16)])])] [(106,[([1,0,1,1,1],(AY [4,5] [])),
  ([4,1,0,1,1,1],(AY [4,5,17,18] [(19,.d (.int .i64))])),
  ([9],⟨[],[(4,.as (.ptr (.l 4) [] (.arr 32 (.int .u8))))],[],[(.l 4,.box (.d (.arr 32 (.int .u8))))],[],[]⟩)])] (fun _ _=>ah)
def W64 (a:Int):Prop:=0<=a/\a<18446744073709551616
def wrap_u8 (x:Int):IntKind.u8.wrap x=x%256:=by simp[al,jc,ig]
def wrap_i64 {n:Int} (h: -9223372036854775808<=n) (h2:n<9223372036854775808):IntKind.i64.wrap n=n:=df _ (by omega)
def CT {l:List C} {i:Nat} (h:i<l.length):l.getD i .nil∈l:=by rw[bh,bg h];exact jx h
section
variable {R:Type} {N:Nat}
def fE {F:KD R->KD R->List C->List Es->Option R} (inv:Nat->List C->Prop) (P:List C->Prop)
  (step:∀n st,inv n st->(∃st' n',n'<n/\inv n' st'/\∀k rec:KD R,F k rec st []=rec st' [])\/(∃d,P d/\∀k rec:KD R,F k rec st []=k d [])):
  ∀(m n:Nat) (st:List C) (N:Nat),n<=m->inv n st->n<N->∃d,P d/\∀k:KD R,Ae N (F k) st []=k d []
 |m,n,st,N,hm,hi,hN=>by
  obtain⟨N,rfl⟩:∃a,N=a+1:=⟨N-1,by omega⟩;rcases step n st hi with⟨st',n',h1,h2,h3⟩|⟨d,h1,h2⟩
  ·match m with
   |0=>omega|m+1=>
    obtain⟨d,h4,h5⟩:=fE inv P step m n' st' N (by omega) h2 (by omega);exact⟨d,h4,fun k=>by rw[Bq,h3,h5]⟩
  ·exact⟨d,h1,fun k=>by rw[Bq,h2]⟩
def FV {F:KD R->KD R->List C->List Es->Option R} (n:Nat) (inv:Nat->List C->Prop) (P:List C->Prop)
  (step:∀i st,i<n->inv i st->∃st',inv (i+1) st'/\∀k rec:KD R,F k rec st []=rec st' [])
  (stop:∀st,inv n st->∃d,P d/\∀k rec:KD R,F k rec st []=k d [])
  {N:Nat} (hN:n<N) {st:List C} (h0:inv 0 st):∃d,P d/\∀k:KD R,Ae N (F k) st []=k d []:=by
 refine fE (fun m st=>∃i,i+m=n/\inv i st) P (fun m st hi=>?_) n n st N (bx n) ⟨0,by omega,h0⟩ hN;obtain⟨i,h1,h2⟩:=hi;by_cases e:i=n;{subst e;exact .inr (stop st h2)};{obtain⟨st',h3,h4⟩:=step i st (by omega) h2;exact .inl ⟨st',m-1,by omega,⟨i+1,by omega,h3⟩,h4⟩}
def z5n (x:Int):0<=IntKind.u64.wrap x/\IntKind.u64.wrap x<18446744073709551616:=by
 have:IntKind.u64.wrap x=x%18446744073709551616:=by simp[al,jc,ig]
 omega
def nM (x m:Int) (hx:0<=x) (hm:0<m):0<=bm x m/\bm x m<m:=⟨Int.tmod_nonneg _ hx,Int.tmod_lt_of_pos _ hm⟩
def Dig (c:C):Prop:=∃l:List C,c= .agg l/\l.length=32
end
section
variable {R:Type} {N:Nat}
abbrev W32:=BitVec 32
def wI (x:W32):C:=.int (x.toNat:Int)
def Gv (x:W32):(wI x).toInt=(x.toNat:Int):=rfl
def wrap_u32 (x:Int):IntKind.u32.wrap x=x%4294967296:=by simp[al,jc,ig]
def CN (x:W32):x.toNat<4294967296:=x.isLt
def PE (x:W32):dt 32 (x.toNat:Int)=x:=by rw[lb,BitVec.ofNat_toNat,BitVec.setWidth_eq]
def oI (x:W32):IntKind.u32.wrap (x.toNat:Int)=(x.toNat:Int):=by rw[wrap_u32];have:=CN x;omega
def Yt (x y:W32):Aj qo cf (x.toNat:Int) (y.toNat:Int)=((x|||y).toNat:Int):=by show IntKind.u32.wrap (((dt 32 (x.toNat:Int))|||(dt 32 (y.toNat:Int))).toNat:Int)=_;rw[PE,PE];exact oI _
def q2S (x y:W32):Aj dq cf (x.toNat:Int) (y.toNat:Int)=((x&&&y).toNat:Int):=by show IntKind.u32.wrap (((dt 32 (x.toNat:Int))&&&(dt 32 (y.toNat:Int))).toNat:Int)=_;rw[PE,PE];exact oI _
def Yu (x y:W32):Aj ej cf (x.toNat:Int) (y.toNat:Int)=((x^^^y).toNat:Int):=by show IntKind.u32.wrap (((dt 32 (x.toNat:Int))^^^(dt 32 (y.toNat:Int))).toNat:Int)=_;rw[PE,PE];exact oI _
def Ys (x y:W32):IntKind.u32.wrap ((x.toNat:Int)+(y.toNat:Int))=((x+y).toNat:Int):=by rw[wrap_u32,BitVec.toNat_add];omega
def q2T (x:W32) (k:Nat):IntKind.u32.wrap ((x.toNat:Int)*2^k)=((x <<< k).toNat:Int):=by
 rw[wrap_u32,su,xd];have:((x.toNat*2^k:Nat):Int)=(x.toNat:Int)*2^k:=by simp
 omega
def q2U (x:W32) (k:Nat):fw (x.toNat:Int) (2^k)=((x >>> k).toNat:Int):=by rw[mh,mr,Int.fdiv_eq_ediv_of_nonneg _ (Int.pow_nonneg (by omega))];simp
def FO (x:W32) (k:Nat):W32:=x <<< (32-k)|||x >>> k
def mG (x:W32) (a:Int) (s:Nat) (hs:Aj dq av (al av a) 31=((32-s:Nat):Int)) (h0:0<s) (h1:s<=32) (k:KD R):
  Mf N (wI x) (.int a) k=k [wI (FO x s)] []:=by
 have e1:IntKind.u64.wrap (32-((32-s:Nat):Int))=(s:Int):=by rw[wrap_u64 (by omega) (by omega)];omega
 have e2:min (32-s) 32=32-s:=by omega
 have e3:min s 32=s:=by omega
 rw[ab];unfold fF;simp only[AB,Gv,hs,e1,bf,e2,e3,q2T,q2U,Yt,bq,if_true];rfl
def Ul (x:W32) (a b c:Nat) (f:Bool):W32:=FO x a^^^FO x b^^^(if f then x >>> c else FO x c)
def Yh (x:W32) (a b c:Nat) (f:Bool) (ha:0<a/\a<=31) (hb:0<b/\b<=31) (hc:0<c/\c<=31) (k:KD R):
  IB N (wI x) (.int a) (.int b) (.int c) (.bool f) k=k [wI (Ul x a b c f)] []:=by
 have key:∀s:Nat,0<s/\s<=31->Aj dq av (al av (al ar (0-(s:Int)))) 31=((32-s:Nat):Int):=by
  intro s hs;have:∀s:Fin 32,0<s.val->Aj dq av (al av (al ar (0-(s.val:Int)))) 31=((32-s.val:Nat):Int):=by decide
  exact this ⟨s,by omega⟩ hs.1
 have ra:=fun k:KD R=>mG (N:=N) x (al ar (0-(a:Int))) a (key a ha) ha.1 (by omega) k;have rb:=fun k:KD R=>mG (N:=N) x (al ar (0-(b:Int))) b (key b hb) hb.1 (by omega) k;have rc:=fun k:KD R=>mG (N:=N) x (al ar (0-(c:Int))) c (key c hc) hc.1 (by omega) k;have e3:min c 32=c:=by omega
 rw[y9];unfold fQ;cases f;{simp only[AP,AF,AK,AO,AV,AB,Ag,ra,rb,rc,cond_false,Gv,Yu];rfl};{simp only[AP,AF,AK,AO,AV,AB,Ag,ra,rb,rc,AE,Gv,bq,bf,e3,q2U,Yu];rfl}
def JE (b:List C):W32:=b.foldl (fun n c=>n <<< 8|||dt 32 c.toInt) 0
end
def TZ {R:Type} (N:Nat) (k2:KD R):KD R->KD R:=fun k3 d1 m1=>(bif decide (aj (dk d1 4)<aj (dk d1 1))then(k3 [dk d1 0,dk d1 1,cd (cz (dk d1 2)),aw (al av (aj (dk d1 3)*2)),aw (al ar (aj (dk d1 4)+1))] [])else(k2 [dk d1 0,cd (cz (dk d1 2)),dk d1 3] []))
def jQ (a0 a1 a2:C) (k1:KD R):Option R:=jn (fun d1 m1=>(bif cz (dk d1 1)then(if aj (dk d1 2)≠0 then(if aj (dk d1 2)≠0 then(if aj (dk d1 2)≠0 then(k1 [aw (al av (al av (dx (aj (dk d1 0)) (aj (dk d1 2)))+al av (bm (aj (dk d1 0)) (aj (dk d1 2))*al av (dx 4294967296 (aj (dk d1 2))))))] [])else none)else none)else none)else(if aj (dk d1 2)≠0 then(k1 [aw (al av (dx (aj (dk d1 0)) (aj (dk d1 2))))] [])else none))) (fun k2=>(Ae N (TZ N k2) [a0,a1,cd (cz a2),aw 1,aw 0] []))
def Cg:=lid "" (@jQ R N)
def F4 {R N a0 a1 a2 k}:@Cg R N a0 a1 a2 k=jQ N a0 a1 a2 k:=by unfold Cg;rw[AW]
def z1M:OvG R:=Af [.int .u64,.int .i64,.bool] (Ds (Cg N)) (BD (bn av))
def z1N:okX 122 (@z1M R N):=Ai AZ N [] [(122,[([1,0,1,1],(AY [0,2] [(7,.d (.int .u64))])),
  ([4,1,0,1,1],(AY [0,1,2] [(7,.d (.int .u64)),(8,.d (.int .i64))])),
  ([9],(Ah [(6,.d (.int .u64))]))])] (fun _ _=>F4)
section
variable {R:Type} {N:Nat}
def z3E (x:W32) (n:Nat) (h1:n<=32):(FO x n).toNat=x.toNat / 2^n+x.toNat%2^n*2^(32-n):=by
 have hx:=CN x;have hb:x.toNat / 2^n<2^(32-n):=by rw[Nat.div_lt_iff_lt_mul (xu n),<-vj,show 32-n+n=32 by omega];exact hx
 have hm:x.toNat*2^(32-n)%4294967296=x.toNat%2^n*2^(32-n):=by rw[show(4294967296:Nat)=2^n*2^(32-n) by rw[<-vj,show n+(32-n)=32 by omega]];exact Nat.mul_mod_mul_right _ _ _
 unfold FO;rw[vl,su,mh,xd,mr];rw[show(2:Nat)^32=4294967296 by decide,hm,Nat.mul_comm (x.toNat%2^n)];rw[<-se hb];omega
def IL (x:W32) (n:Nat) (h0:0<n) (h1:n<=31) (f:Bool) (hN:100<N) (k:KD R):Cg N (wI x) (.int n) (.bool f) k=k [wI (if f then FO x n else x >>> n)] []:=by
 have lp:∀K:KD R,Ae N (TZ N K) [wI x,.int n,.bool f,.int 1,.int 0] []=K [wI x,.bool f,.int ((2^n:Nat):Int)] []:=fun K=>by
  refine DX (F:=TZ N K) (fun i=>[wI x,.int n,.bool f,.int ((2^i:Nat):Int),.int i]) (fun _=>[]) n _ ?_ ?_ (N:=N) (by omega)
  ·intro i hi rec;have e1:(i:Int)<(n:Int):=by omega
   have e2:2^i<=2^31:=Nat.pow_le_pow_right (by omega) (by omega);have e3:IntKind.u64.wrap (((2^i:Nat):Int)*2)=((2^(i+1):Nat):Int):=by rw[Nat.pow_succ];obtain⟨q,hq⟩:∃q:Nat,2^i=q:=⟨_,rfl⟩;rw[hq]at e2 ⊢;rw[wrap_u64 (by omega) (by omega)];omega
   unfold TZ;simp only[AF,AK,AO,AV,Ac,AB,Ag,e1,e3,AE,BK (show i<4611686018427387904 by omega)]
  ·intro rec;unfold TZ;simp only[AF,AK,AO,AV,Ac,AB,Ag,fa,AE]
 have hx:=CN x;obtain⟨p,hp⟩:∃p:Nat,2^n=p:=⟨_,rfl⟩;obtain⟨r,hr⟩:∃r:Nat,2^(32-n)=r:=⟨_,rfl⟩;have hp1:0<p:=by rw[<-hp];exact xu n
 have hpr:4294967296=p*r:=by rw[<-hp,<-hr,<-vj,show n+(32-n)=32 by omega]
 have td:∀a:Nat,dx (a:Int) (p:Int)=((a / p:Nat):Int):=fun a=>by rw[Int.tdiv_eq_ediv_of_nonneg (by omega)];omega
 have tm:bm (x.toNat:Int) (p:Int)=((x.toNat%p:Nat):Int):=by rw[dj (by omega)];omega
 have t2:dx 4294967296 (p:Int)=(r:Int):=by have:=td 4294967296;rw[show(4294967296 / p:Nat)=r by rw[hpr];exact Nat.mul_div_cancel_left r hp1]at this;exact this
 have hr31:r<=4294967296:=by rw[hpr];exact Nat.le_mul_of_pos_left r hp1
 have z6a:x.toNat%p<p:=Nat.mod_lt _ hp1;have z7Y:x.toNat%p*r<=4294967296:=by rw[hpr];exact Nat.mul_le_mul_right r (by omega)
 have hdiv:x.toNat / p<=x.toNat:=Nat.div_le_self _ _;have hne:((p:Nat):Int)≠0:=by omega
 have rot:=z3E x n (by omega);rw[hp,hr]at rot;rw[F4];unfold jQ;simp only[AP,Ag];rw[lp];cases f
 ·simp only[AF,AK,AO,Ag,AB,Gv,hp,td,cond_false];refine(if_pos hne).trans ?_;have e:IntKind.u64.wrap ((x.toNat / p:Nat):Int)=((x.toNat / p:Nat):Int):=wrap_u64 (bq _) (by generalize x.toNat / p=d at hdiv ⊢;omega);have e2:(x >>> n).toNat=x.toNat / p:=by rw[mh,mr,hp]
  rw[e];show k [.int ((x.toNat / p:Nat):Int)] []=k [.int ((x >>> n).toNat:Int)] [];rw[e2]
 ·simp only[AF,AK,AO,Ag,AB,Gv,hp,td,tm,t2,cond_true];refine(if_pos hne).trans ?_;refine(if_pos hne).trans ?_;refine(if_pos hne).trans ?_;have e:IntKind.u64.wrap ((x.toNat / p:Nat):Int)=((x.toNat / p:Nat):Int):=wrap_u64 (bq _) (by generalize x.toNat / p=d at hdiv ⊢;omega);have e3:IntKind.u64.wrap (r:Int)=(r:Int):=wrap_u64 (by omega) (by omega);have e4:IntKind.u64.wrap (((x.toNat%p:Nat):Int)*(r:Int))=((x.toNat%p*r:Nat):Int):=by rw[wrap_u64 (Int.mul_nonneg (by omega) (by omega)) (by rw[<-Int.natCast_mul];omega)];simp
  have e5:IntKind.u64.wrap (((x.toNat / p:Nat):Int)+((x.toNat%p*r:Nat):Int))=((FO x n).toNat:Int):=by rw[rot];generalize x.toNat / p=d at hdiv rot ⊢;generalize x.toNat%p*r=q at z7Y rot ⊢;rw[wrap_u64 (by omega) (by omega)];simp
  rw[e,e3,e4,e5];rfl
end
section
variable {R:Type} {N:Nat}
def ksW:List W32:=[1116352408,1899447441,3049323471,3921009573,961987163,1508970993,2453635748,2870763221,3624381080,310598401,607225278,1426881987,1925078388,2162078206,2614888103,3248222580,3835390401,4022224774,264347078,604807628,770255983,1249150122,1555081692,1996064986,2554220882,2821834349,2952996808,3210313671,3336571891,3584528711,113926993,338241895,666307205,773529912,1294757372,1396182291,1695183700,1986661051,2177026350,2456956037,2730485921,2820302411,3259730800,3345764771,3516065817,3600352804,4094571909,275423344,430227734,506948616,659060556,883997877,958139571,1322822218,1537002063,1747873779,1955562222,2024104815,2227730452,2361852424,2428436474,2756734187,3204031479,3329325298]
def z4E (k:KD R):Sa N k=k [.agg (ksW.map wI)] []:=by rw[y8];unfold fP;rfl
def HL {l:List W32} {i:Nat} (h:i<l.length):ax (.agg (l.map wI)) i=wI (l.getD i 0):=by show(l.map wI).getD i .nil=_;rw[bh,dg,bh,bg h];rfl
def q1L (l:List W32) (i:Nat) (x:W32):ct (.agg (l.map wI)) i (wI x)= .agg ((l.set i x).map wI):=by show dh ((l.map wI).set i (wI x))=_;rw[List.map_set]
def BQ (c:C):Prop:=c= .int c.toInt/\0<=c.toInt/\c.toInt<256
def q4d {c:C} (h:BQ c):IntKind.u32.wrap c.toInt=((dt 32 c.toInt).toNat:Int):=by obtain⟨_,h1,h2⟩:=h;obtain⟨n,hn⟩:=nk h1;rw[hn,wrap_u32];show _=((dt 32 (n:Int)).toNat:Int);rw[lb,uh];simp
def z5k (l:List C) (hl:4<=l.length) (hb:∀c∈l,BQ c) (hN:10<N) (k:KD R):Ox N (.slice l) k=k [wI (JE (l.take 4))] []:=by
 have hc:cut l 0 4=l.take 4:=by simp[cut]
 have hc4:(l.take 4).length=4:=by simp;omega
 have hb4:∀c∈l.take 4,BQ c:=fun c hc=>hb c (List.mem_of_mem_take hc);rw[x4];unfold fR;simp only[AI,hc,hc4,AP];refine(if_pos ⟨by decide,by decide,by omega⟩).trans ?_;generalize l.take 4=b at*;have key:=DX (F:=Wr N fun d1 m1=>k [dk d1 0] []) (fun i=>[.slice b,.int (4:Nat),wI (JE (b.take i)),.int i]) (fun _=>[]) 4 (k [wI (JE b)] []) ?_ ?_ (N:=N) (by omega);{exact key}
 ·intro i hi rec;have h1:(i:Int)<((4:Nat):Int):=by omega
  have h2:i<b.length:=by omega
  have hw:=q4d (hb4 _ (CT h2));have e8:min (aq 8) 32=8:=rfl;have et:b.take (i+1)=b.take i++[b.getD i .nil]:=by rw[lz,bg h2,bh,bg h2];rfl
  have ef:JE (b.take (i+1))=JE (b.take i) <<< 8|||dt 32 (b.getD i .nil).toInt:=by rw[et];unfold JE;rw[List.foldl_append];rfl
  unfold Wr;simp only[AF,AK,AO,AV,AB,AI,hc4,h1,e8,Gv,hw,q2T,Yt,AE,bq,and_self,bf,BK (show i<4611686018427387904 by omega),ef];rfl
 ·intro rec;have ht:b.take 4=b:=dr (by omega);unfold Wr;simp only[AF,AK,AO,AV,AB,fa,AE,ht]
def sg0 (x:W32):W32:=Ul x 7 18 3 true
def sg1 (x:W32):W32:=Ul x 17 19 10 true
def bs0 (x:W32):W32:=Ul x 2 13 22 false
def bs1 (x:W32):W32:=Ul x 6 11 25 false
def Gk (i:Nat) (yu:List W32):List W32:=
 if 16<=i then yu.set (i%16) (yu.getD (i%16) 0+(sg0 (yu.getD ((i+1)%16) 0)+yu.getD ((i+9)%16) 0+sg1 (yu.getD ((i+14)%16) 0)))else yu
def Lw (i:Nat) (yu s:List W32):W32:=
 s.getD 7 0+bs1 (s.getD 4 0)+(s.getD 6 0^^^(s.getD 4 0&&&(s.getD 5 0^^^s.getD 6 0)))+ksW.getD i 0+yu.getD (i%16) 0
def stepG (i:Nat) (p:List W32 × List W32):List W32 × List W32:=
 let yu:=Gk i p.1
 let s:=p.2
 let add:=Lw i yu s
 (yu,[add+bs0 (s.getD 0 0)+((s.getD 0 0&&&s.getD 1 0)|||(s.getD 2 0&&&(s.getD 0 0|||s.getD 1 0))),s.getD 0 0,s.getD 1 0,s.getD 2 0,s.getD 3 0+add,s.getD 4 0,s.getD 5 0,s.getD 6 0])
def CI (yu h:List W32):Nat->List W32 × List W32
 |0=>(yu,h)|i+1=>stepG i (CI yu h i)
def q9O (i:Nat) (l:List W32):(Gk i l).length=l.length:=by unfold Gk;split <;> simp
def QK {yu h:List W32} (hn:yu.length=16) (hh:h.length=8):∀i,(CI yu h i).1.length=16/\(CI yu h i).2.length=8
 |0=>⟨hn,hh⟩|i+1=>⟨by show(Gk i _).length=16;rw[q9O];exact(QK hn hh i).1,rfl⟩
def q7A:ksW.length=64:=rfl
end
section
variable {R:Type} {N:Nat}
def q2r (a b:Nat):bm (a:Int) (b:Int)=((a%b:Nat):Int):=by rw[dj (by omega)];omega
def mO (l:List W32) (i:Nat) (x:W32):ct (.agg (l.map wI)) i (.int (x.toNat:Int))= .agg ((l.set i x).map wI):=q1L l i x
def z3F (yu s:List W32) (w:C) (i:Nat) (hi:i<64) (hn:yu.length=16) (hs:s.length=8) (hN:100<N) (k rec:KD R):
  Ow N k rec [.agg (ksW.map wI),.int i,w,.agg (yu.map wI),.agg (s.map wI)] []=
   rec [.agg (ksW.map wI),.int ((i+1:Nat):Int),w,.agg ((stepG i (yu,s)).1.map wI),.agg ((stepG i (yu,s)).2.map wI)] []:=by
 have e1:(i:Int)<64:=by omega
 have e5:((i+1:Nat):Int)=(i:Int)+1:=by omega
 have q1:IntKind.i64.wrap ((i:Int)+1)=((i+1:Nat):Int):=by rw[wrap_i64 (by omega) (by omega)];omega
 have q9:IntKind.i64.wrap ((i:Int)+9)=((i+9:Nat):Int):=by rw[wrap_i64 (by omega) (by omega)];omega
 have q14:IntKind.i64.wrap ((i:Int)+14)=((i+14:Nat):Int):=by rw[wrap_i64 (by omega) (by omega)];omega
 have c16:∀a:Nat,bm (a:Int) 16=((a%16:Nat):Int):=fun a=>q2r a 16;have r16:∀a:Nat,((a%16:Nat):Int)<16:=fun a=>by omega
 have gk:ax (.agg (ksW.map wI)) i=wI (ksW.getD i 0):=HL (by rw[q7A];exact hi);have gn:∀(l:List W32),l.length=16->∀a:Nat,ax (.agg (l.map wI)) (a%16)=wI (l.getD (a%16) 0):=fun l hl a=>HL (by omega);have gs:∀a:Nat,a<8->ax (.agg (s.map wI)) a=wI (s.getD a 0):=fun a ha=>HL (by omega);have g0:=gs 0 (by omega);have g1:=gs 1 (by omega);have g2:=gs 2 (by omega);have g3:=gs 3 (by omega);have g4:=gs 4 (by omega);have g5:=gs 5 (by omega);have g6:=gs 6 (by omega);have g7:=gs 7 (by omega);have t0:aq 0=0:=rfl;have t1:aq 1=1:=rfl;have t2:aq 2=2:=rfl;have t3:aq 3=3:=rfl;have t4:aq 4=4:=rfl;have t5:aq 5=5:=rfl;have t6:aq 6=6:=rfl;have t7:aq 7=7:=rfl;have a1:∀k:KD R,IB N (wI (s.getD 4 0)) (.int 6) (.int 11) (.int 25) (.bool false) k=k [wI (bs1 (s.getD 4 0))] []:=fun k=>Yh (N:=N) (s.getD 4 0) 6 11 25 false (by omega) (by omega) (by omega) k;have a2:∀k:KD R,IB N (wI (s.getD 0 0)) (.int 2) (.int 13) (.int 22) (.bool false) k=k [wI (bs0 (s.getD 0 0))] []:=fun k=>Yh (N:=N) (s.getD 0 0) 2 13 22 false (by omega) (by omega) (by omega) k;have a3:∀k:KD R,IB N (wI (yu.getD ((i+1)%16) 0)) (.int 7) (.int 18) (.int 3) (.bool true) k=k [wI (sg0 (yu.getD ((i+1)%16) 0))] []:=fun k=>Yh (N:=N) (yu.getD ((i+1)%16) 0) 7 18 3 true (by omega) (by omega) (by omega) k;have a4:∀k:KD R,IB N (wI (yu.getD ((i+14)%16) 0)) (.int 17) (.int 19) (.int 10) (.bool true) k=k [wI (sg1 (yu.getD ((i+14)%16) 0))] []:=fun k=>Yh (N:=N) (yu.getD ((i+14)%16) 0) 17 19 10 true (by omega) (by omega) (by omega) k;unfold Ow;by_cases e2:16<=(i:Int)
 ·have e2n:16<=i:=by omega
  have hn2:(yu.set (i%16) (yu.getD (i%16) 0+(sg0 (yu.getD ((i+1)%16) 0)+yu.getD ((i+9)%16) 0+sg1 (yu.getD ((i+14)%16) 0)))).length=16:=by rw[List.length_set];exact hn
  have hG:Gk i yu=yu.set (i%16) (yu.getD (i%16) 0+(sg0 (yu.getD ((i+1)%16) 0)+yu.getD ((i+9)%16) 0+sg1 (yu.getD ((i+14)%16) 0))):=by unfold Gk;rw[if_pos e2n]
  simp only[AP,AF,AK,AO,AV,Ac,Av,BW,AB,e1,e2,q1,q9,q14,c16,r16,AE,bq,and_self,bf,t0,t1,t2,t3,t4,t5,t6,t7,gk,gn yu hn,g0,g1,g2,g3,g4,g5,g6,g7,a1,a2,a3,a4,Gv,Ys,mO];simp only[gn _ hn2,Gv,Ys,q2S,Yt,Yu,stepG,Lw,hG];rfl
 ·have e2n:¬16<=i:=by omega
  have hG:Gk i yu=yu:=by unfold Gk;rw[if_neg e2n]
  simp only[AP,AF,AK,AO,AV,Ac,Av,BW,AB,e1,e2,q1,c16,r16,AE,bq,and_self,bf,t0,t1,t2,t3,t4,t5,t6,t7,gk,gn yu hn,g0,g1,g2,g3,g4,g5,g6,g7,a1,a2,Gv,Ys,q2S,Yt,Yu];simp only[stepG,Lw,hG];rfl
end
end Go.Proofs.YtgdonkaoajbclaaGreatDoor
