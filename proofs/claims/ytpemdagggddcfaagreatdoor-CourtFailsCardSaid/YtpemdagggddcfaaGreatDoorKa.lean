/-
 What the functions on the way compute, part 1.
 Conditions: none.
-/
import Derived.Test.YtpemdagggddcfaaGreatDoorTf
import Derived.Laws.Externs
import Derived.Lib.Bytealg
set_option linter.all false
noncomputable section
set_option maxRecDepth 100000
set_option maxHeartbeats 4000000
open Array renaming getElem?_eq_getElem->ee
open BitVec renaming ofInt->jc
open Bool renaming false_eq_true->fj
open Go.BinOp renaming and->fv,or->rm,xor->nz
open Go.E.C renaming agg->eg,bool->dv,elems->bq,get->cd,int->bt,nil->gj,set->dp,slice->cz,toBool->ek,toInt->bp
open Go.E.Key renaming l->dg
open Go.E.Ty renaming arr->dc,bool->gd,int->cg
open Go.IntKind renaming bits->uq,i64->ca,signed->tw,u32->di,u64->bu,u8->df,wrap->bw
open Go.IntWalk renaming i64_in->je
open Int renaming eq_ofNat_of_zero_le->sc,fdiv->fp,lt_irrefl->fq,natCast_nonneg->dd,ofNat->jx,tmod->dz,toNat->bo,toNat_natCast->bx,toNat_of_nonneg->gy
open List renaming all_eq_true->eh,drop->fi,getD->dt,getD_eq_getElem?_getD->du,getElem?_eq_getElem->cq,getElem_mem->uh,length->bn,length_append->da,length_cons->dq,length_nil->dw,map_cons->ep,mem_append->ic,mem_singleton->ft,replicate->db,take->dy
open Nat renaming beq->dj,beq_refl->ct,le_refl->cn,mod_eq_of_lt->uw,zero_add->cf
open Option renaming ite_none_right_eq_some->br
namespace Go.Proofs.YtpemdagggddcfaaGreatDoor
open Go Go.E
variable {R:Type} (N:Nat)
section
variable {gl:Nat->Option (Ty × C)}
def Ep (l:List UInt8) (m c:Int):C:=.agg [.str l,.int m,.int c]
def Er:List C:=[Ep [104,97,108,116] 0 1,Ep [112,117,115,104] 8 1,Ep [108,111,97,100] 1 1,Ep [97,100,100] 0 1,Ep [115,117,98] 0 1,Ep [109,117,108] 0 3,
 Ep [108,101,115,115] 0 1,Ep [115,97,109,101] 0 1,Ep [110,111,116] 0 1,Ep [98,111,116,104] 0 1,Ep [97,110,121] 0 1,Ep [106,117,109,112] 2 1,Ep [105,102] 2 1,
 Ep [116,119,105,99,101] 0 1,Ep [115,119,97,112] 0 1,Ep [100,114,111,112] 0 1,Ep [112,97,105,100] 1 10,Ep [110,111,119] 0 1]
def GF (gl:Nat->Option (Ty × C)):Prop:=gl 0=some (.arr 18 Ef,.agg Er)
def CQ (o:Int):Nat:=if o=1 then 8 else if o=2\/o=16 then 1 else if o=11\/o=12 then 2 else 0
theorem rB (o:Int):CQ o<=8:=by unfold CQ;(repeat' split) <;> omega
theorem q1N:∀(o:Nat),o<18->(Er.getD o .nil).get 1= .int (CQ o):=by
 intro o h;have c:o=0\/o=1\/o=2\/o=3\/o=4\/o=5\/o=6\/o=7\/o=8\/o=9\/o=10\/o=11\/o=12\/o=13\/o=14\/o=15\/o=16\/o=17:=by omega
 rcases c with rfl|rfl|rfl|rfl|rfl|rfl|rfl|rfl|rfl|rfl|rfl|rfl|rfl|rfl|rfl|rfl|rfl|rfl <;> rfl
def bN (p:List C) (i:Nat):Int:=(p.getD i .nil).toInt
def EB (p:List C) (i:Nat):Nat->Int
 |0=>0|k+1=>EB p i k*256+bN p (i+k)
def Bi (p:List C) (i:Nat):Int:=
 if p.length<=i then 9 else if 18<=bN p i then 33 else if p.length<i+1+CQ (bN p i)then 9 else 0
theorem PW {p:List C} (h:C.wf (.slice 1 (.int .u8)) (.slice p)) {i:Nat} (hi:i<p.length):p.getD i .nil= .int (bN p i)/\0<=bN p i/\bN p i<=255:=by
 have:=C.q8t (i:=i) h hi;simp only[bq,C.wf]at this;have m1:IntKind.u8.min=0:=by decide
 have m2:IntKind.u8.max=255:=by decide
 exact⟨this.1,by unfold bN;omega,by unfold bN;omega⟩
theorem Wi {p:List C} (h:C.wf (.slice 1 (.int .u8)) (.slice p)) {i:Nat}:∀{k:Nat},i+k<=p.length->0<=EB p i k/\EB p i k<256^k
 |0,_=>by simp[EB]
 |k+1,hk=>by
  have ih:=Wi h (k:=k) (i:=i) (by omega);have hb:=PW h (i:=i+k) (by omega);simp only[EB];have e:(256:Int)^(k+1)=256^k*256:=by rw[Int.pow_succ]
  omega
theorem fU {p:List C} (h:C.wf (.slice 1 (.int .u8)) (.slice p)) {i k:Nat} (hk:i+k<=p.length) (h8:k<=8):0<=EB p i k/\EB p i k<=18446744073709551615/\(k<8->EB p i k<72057594037927936):=by
 obtain⟨h1,h2⟩:=Wi h hk;have c:k=0\/k=1\/k=2\/k=3\/k=4\/k=5\/k=6\/k=7\/k=8:=by omega
 rcases c with rfl|rfl|rfl|rfl|rfl|rfl|rfl|rfl|rfl <;> simp at h2 <;> omega
theorem q5n {a b:Int} (ha:0<=a) (ha2:a<72057594037927936) (hb:0<=b) (hb2:b<=255):CH .or .u64 (a*256) b=a*256+b:=by
 obtain⟨x,rfl⟩:=sc ha;obtain⟨y,rfl⟩:=sc hb;have hx:x<72057594037927936:=by omega
 have hy:y<256:=by omega
 have e1:((x:Int)*256)=((x*256:Nat):Int):=by omega
 have key:(x*256)|||y=x*256+y:=by have:=Nat.two_pow_add_eq_or_of_lt (i:=8) (b:=y) (by omega) x;rw[Nat.mul_comm x 256];exact this.symm
 rw[e1];show IntKind.u64.wrap (((jc 64 ((x*256:Nat):Int))|||(jc 64 ((y:Nat):Int))).toNat:Int)=_;simp only[BitVec.toNat_or,BitVec.ofInt_natCast,BitVec.toNat_ofNat];rw[uw (by omega),uw (by omega),key];have m1:IntKind.u64.min=0:=by decide
 have m2:IntKind.u64.max=18446744073709551615:=by decide
 exact(PL (by omega) (by omega)).trans (by omega)
def lS (p:List C) (i:Nat):V:=.tup [.d (.int .i64) (.int (if Bi p i=0 then bN p i else 0)),.d (.int .u64) (.int (if Bi p i=0 then EB p (i+1) (CQ (bN p i))else 0)),
 .d (.int .i64) (.int (if Bi p i=0 then((i+1+CQ (bN p i):Nat):Int)else 0)),.d (.int .i64) (.int (Bi p i))]
end
section
variable {gl:Nat->Option (Ty × C)}
theorem j6 (A:Key->Option O) (cs:List C):Bu (X0 gl) 31 [.d (.slice 1 (.int .u8)) (.slice cs)] A (.ts 1 (.int .u8) cs) []:=by
 refine Lk (n:=8) (ok0 gl) Tryz.func31 rfl rfl (by simp) ?_;intro A' hA;refine Ce (Da (ok0 gl) [] (by kernel_rfl) ?_);simp only[go_sem,↓CX,↓CW,↓CV,↓CU,↓CY,↓CN,↓CM,↓CK,↓CL,simprocAttr];refine Ce (Ce (Da (ok0 gl) [] (by kernel_rfl) ?_));cases cs with
 |nil=>
  simp only[go_sem,↓CX,↓CW,↓CV,↓CU,↓CY,↓CN,↓CM,↓CK,↓CL,simprocAttr];refine Xf rfl ?_ (IK ?_);{refine Ce (Da (ok0 gl) [] (by kernel_rfl) ?_);simp only[go_sem,↓CX,↓CW,↓CV,↓CU,↓CY,↓CN,↓CM,↓CK,↓CL,simprocAttr];refine Gb ⟨.inr rfl,?_⟩;simp only[Ff,go_sem,↓CX,↓CW,↓CV,↓CU,↓CY,↓CN,↓CM,↓CK,↓CL,simprocAttr,Tryz.f31]};{refine Ce (Da (ok0 gl) [] (by kernel_rfl) ?_);simp only[go_sem,↓CX,↓CW,↓CV,↓CU,↓CY,↓CN,↓CM,↓CK,↓CL,simprocAttr];refine Gb ⟨.inr rfl,?_⟩;simp only[Ff,go_sem,↓CX,↓CW,↓CV,↓CU,↓CY,↓CN,↓CM,↓CK,↓CL,simprocAttr,Tryz.f31]}
 |cons c cs=>
  simp only[go_sem,↓CX,↓CW,↓CV,↓CU,↓CY,↓CN,↓CM,↓CK,↓CL,simprocAttr];refine NR _ rfl (fun h=>by simp at h) (fun _=>IK ?_);refine Ce (Da (ok0 gl) [] (by kernel_rfl) ?_);simp only[go_sem,↓CX,↓CW,↓CV,↓CU,↓CY,↓CN,↓CM,↓CK,↓CL,simprocAttr];refine Gb ⟨.inr rfl,?_⟩;simp only[Ff,go_sem,↓CX,↓CW,↓CV,↓CU,↓CY,↓CN,↓CM,↓CK,↓CL,simprocAttr,Tryz.f31]
theorem Q2 (A:Key->Option O) (cs:List C) (hne:cs≠[]):Bu (X0 gl) 57 [.d (.slice 8 (.int .u64)) (.slice cs)] A (.sr (.l 7) [] 0 cs.length none 8 (.int .u64)) [(.l 7,.box (.d (.arr cs.length (.int .u64)) (.agg cs)))]:=by
 refine Lk (n:=8) (ok0 gl) Tryz.func57 rfl rfl (by simp) ?_;intro A' hA;refine Ce (Da (ok0 gl) [] (by kernel_rfl) ?_);simp only[go_sem,↓CX,↓CW,↓CV,↓CU,↓CY,↓CN,↓CM,↓CK,↓CL,simprocAttr];cases cs with
 |nil=>exact absurd rfl hne|cons c cs=>
  refine Ce (Ce (Da (ok0 gl) [] (by kernel_rfl) ?_));simp only[go_sem,↓CX,↓CW,↓CV,↓CU,↓CY,↓CN,↓CM,↓CK,↓CL,simprocAttr];refine NR _ rfl (fun h=>by simp at h) (fun _=>IK ?_);refine Ce (Da (ok0 gl) [(7,3)] (by kernel_rfl) ?_);simp only[go_sem,↓CX,↓CW,↓CV,↓CU,↓CY,↓CN,↓CM,↓CK,↓CL,simprocAttr];refine Gb ⟨.inr rfl,?_⟩;simp only[Ff,go_sem,↓CX,↓CW,↓CV,↓CU,↓CY,↓CN,↓CM,↓CK,↓CL,simprocAttr,Tryz.f57] <;> try rfl
theorem j8 (A:Key->Option O) (cs:List C):Bu (X0 gl) 59 [.d (.slice 32 (.arr 32 (.int .u8))) (.slice cs)] A (.ts 32 (.arr 32 (.int .u8)) cs) []:=by
 refine Lk (n:=8) (ok0 gl) Tryz.func59 rfl rfl (by simp) ?_;intro A' hA;refine Ce (Da (ok0 gl) [] (by kernel_rfl) ?_);simp only[go_sem,↓CX,↓CW,↓CV,↓CU,↓CY,↓CN,↓CM,↓CK,↓CL,simprocAttr];refine Ce (Ce (Da (ok0 gl) [] (by kernel_rfl) ?_));cases cs with
 |nil=>
  simp only[go_sem,↓CX,↓CW,↓CV,↓CU,↓CY,↓CN,↓CM,↓CK,↓CL,simprocAttr];refine Xf rfl ?_ (IK ?_);{refine Ce (Da (ok0 gl) [] (by kernel_rfl) ?_);simp only[go_sem,↓CX,↓CW,↓CV,↓CU,↓CY,↓CN,↓CM,↓CK,↓CL,simprocAttr];refine Gb ⟨.inr rfl,?_⟩;simp only[Ff,go_sem,↓CX,↓CW,↓CV,↓CU,↓CY,↓CN,↓CM,↓CK,↓CL,simprocAttr,Tryz.f59]};{refine Ce (Da (ok0 gl) [] (by kernel_rfl) ?_);simp only[go_sem,↓CX,↓CW,↓CV,↓CU,↓CY,↓CN,↓CM,↓CK,↓CL,simprocAttr];refine Gb ⟨.inr rfl,?_⟩;simp only[Ff,go_sem,↓CX,↓CW,↓CV,↓CU,↓CY,↓CN,↓CM,↓CK,↓CL,simprocAttr,Tryz.f59]}
 |cons c cs=>
  simp only[go_sem,↓CX,↓CW,↓CV,↓CU,↓CY,↓CN,↓CM,↓CK,↓CL,simprocAttr];refine NR _ rfl (fun h=>by simp at h) (fun _=>IK ?_);refine Ce (Da (ok0 gl) [] (by kernel_rfl) ?_);simp only[go_sem,↓CX,↓CW,↓CV,↓CU,↓CY,↓CN,↓CM,↓CK,↓CL,simprocAttr];refine Gb ⟨.inr rfl,?_⟩;simp only[Ff,go_sem,↓CX,↓CW,↓CV,↓CU,↓CY,↓CN,↓CM,↓CK,↓CL,simprocAttr,Tryz.f59]
theorem j7 (A:Key->Option O) (cs:List C):Bu (X0 gl) 76 [.d (.slice 64 Bz) (.slice cs)] A (.ts 64 Bz cs) []:=by
 refine Lk (n:=8) (ok0 gl) Tryz.func76 rfl rfl (by simp) ?_;intro A' hA;refine Ce (Da (ok0 gl) [] (by kernel_rfl) ?_);simp only[go_sem,↓CX,↓CW,↓CV,↓CU,↓CY,↓CN,↓CM,↓CK,↓CL,simprocAttr];refine Ce (Ce (Da (ok0 gl) [] (by kernel_rfl) ?_));cases cs with
 |nil=>
  simp only[go_sem,↓CX,↓CW,↓CV,↓CU,↓CY,↓CN,↓CM,↓CK,↓CL,simprocAttr];refine Xf rfl ?_ (IK ?_);{refine Ce (Da (ok0 gl) [] (by kernel_rfl) ?_);simp only[go_sem,↓CX,↓CW,↓CV,↓CU,↓CY,↓CN,↓CM,↓CK,↓CL,simprocAttr];refine Gb ⟨.inr rfl,?_⟩;simp only[Ff,go_sem,↓CX,↓CW,↓CV,↓CU,↓CY,↓CN,↓CM,↓CK,↓CL,simprocAttr,Tryz.f76]};{refine Ce (Da (ok0 gl) [] (by kernel_rfl) ?_);simp only[go_sem,↓CX,↓CW,↓CV,↓CU,↓CY,↓CN,↓CM,↓CK,↓CL,simprocAttr];refine Gb ⟨.inr rfl,?_⟩;simp only[Ff,go_sem,↓CX,↓CW,↓CV,↓CU,↓CY,↓CN,↓CM,↓CK,↓CL,simprocAttr,Tryz.f76]}
 |cons c cs=>
  simp only[go_sem,↓CX,↓CW,↓CV,↓CU,↓CY,↓CN,↓CM,↓CK,↓CL,simprocAttr];refine NR _ rfl (fun h=>by simp at h) (fun _=>IK ?_);refine Ce (Da (ok0 gl) [] (by kernel_rfl) ?_);simp only[go_sem,↓CX,↓CW,↓CV,↓CU,↓CY,↓CN,↓CM,↓CK,↓CL,simprocAttr];refine Gb ⟨.inr rfl,?_⟩;simp only[Ff,go_sem,↓CX,↓CW,↓CV,↓CU,↓CY,↓CN,↓CM,↓CK,↓CL,simprocAttr,Tryz.f76]
theorem Q0 (A:Key->Option O) (cs:List C) (hne:cs≠[]):Bu (X0 gl) 38 [.d (.slice 40 AX) (.slice cs)] A (.sr (.l 7) [] 0 cs.length none 40 AX) [(.l 7,.box (.d (.arr cs.length AX) (.agg cs)))]:=by
 refine Lk (n:=8) (ok0 gl) Tryz.func38 rfl rfl (by simp) ?_;intro A' hA;refine Ce (Da (ok0 gl) [] (by kernel_rfl) ?_);simp only[go_sem,↓CX,↓CW,↓CV,↓CU,↓CY,↓CN,↓CM,↓CK,↓CL,simprocAttr];cases cs with
 |nil=>exact absurd rfl hne|cons c cs=>
  refine Ce (Ce (Da (ok0 gl) [] (by kernel_rfl) ?_));simp only[go_sem,↓CX,↓CW,↓CV,↓CU,↓CY,↓CN,↓CM,↓CK,↓CL,simprocAttr];refine NR _ rfl (fun h=>by simp at h) (fun _=>IK ?_);refine Ce (Da (ok0 gl) [(7,3)] (by kernel_rfl) ?_);simp only[go_sem,↓CX,↓CW,↓CV,↓CU,↓CY,↓CN,↓CM,↓CK,↓CL,simprocAttr];refine Gb ⟨.inr rfl,?_⟩;simp only[Ff,go_sem,↓CX,↓CW,↓CV,↓CU,↓CY,↓CN,↓CM,↓CK,↓CL,simprocAttr,Tryz.f38] <;> try rfl
end
section
variable {gl:Nat->Option (Ty × C)}
theorem bg (a b:C):Mo (X0 gl) 96 [.d (.int .u64) a,.d (.int .u64) b,.d (.int .u64) (.int 0)] (.tup [.d (.int .u64) (.int ((a.toInt+b.toInt)%18446744073709551616)),.d (.int .u64) (.int ((a.toInt+b.toInt) / 18446744073709551616))]):=by
 intro Γ w args hl hr;have hs:args.size=3:=hl.symm;obtain⟨e1,_,l1,m1⟩:=Dk (hr 0 _ _ rfl (ee (by omega)));obtain⟨e2,_,l2,m2⟩:=Dk (hr 1 _ _ rfl (ee (by omega)));obtain⟨e3,_,_,_⟩:=Dk (hr 2 _ _ rfl (ee (by omega)));have ea:args=#[.int .u64 a.toInt,.int .u64 b.toInt,.int .u64 0]:=by
  apply Array.ext;{simpa using hs}
  ·intro i h1 h2
   match i with
   |0=>simpa using e1|1=>simpa using e2|2=>simpa[bp]using e3|i+3=>omega
 have z:IntKind.u64.min=0:=by decide
 have z':IntKind.u64.max=18446744073709551615:=by decide
 refine⟨.tuple #[.int .u64 ((a.toInt+b.toInt)%18446744073709551616),.int .u64 ((a.toInt+b.toInt) / 18446744073709551616)],?_,#[_,_],rfl,?_⟩;{have xm:=run_callFunc_extern (P:=(X0 gl).P) (f:=96) (fn:=Tryz.f96) (e:=add64Entry) Tryz.func96 (by decide) rfl (by kernel_rfl) (by kernel_rfl) args w;rw[xm,ea,run_add64 _ _ _ (by omega) (by omega) (by omega) (by omega)];simp}
 ·refine SG rfl fun i x u hx hu=>?_
  match i with
  |0=>simp at hx hu;subst hx;subst hu;exact⟨rfl,DV (by omega) (by omega)⟩|1=>simp at hx hu;subst hx;subst hu;exact⟨rfl,DV (by omega) (by omega)⟩|i+2=>simp at hx
end
def Js:List (Nat × Ty × C)->Nat->Option (Ty × C)
 | [],_=>none|(i,x)::l,g=>bif dj g i then some x else Js l g
theorem pN {gl:Nat->Option (Ty × C)}:∀{l:List (Nat × Ty × C)},l.map (fun p=>gl p.1)=l.map (fun p=>some p.2)->∀g x,Js l g=some x->gl g=some x
 | [],_,g,x,h=>by cases h
 |(i,y)::l,h0,g,x,h=>by
  simp only[ep,List.cons.injEq]at h0;simp only[Js]at h;cases hb:dj g i with
  |true=>
   rw[hb,cond_true]at h;cases h;rw[Nat.eq_of_beq_eq_true hb];exact h0.1
  |false=>
   rw[hb,cond_false]at h;exact pN h0.2 g x h
def Yd:List (Nat × Ty × C):=
 (0,.arr 18 Ef,.agg Er)::
 []
def gl0:Nat->Option (Ty × C):=Js Yd
theorem gf0:GF gl0:=rfl
theorem q11 (gl:Nat->Option (Ty × C)) (h:Yd.map (fun p=>gl p.1)=Yd.map (fun p=>some p.2)):∀g x,gl0 g=some x->gl g=some x:=pN h
def Wb:List V->Option V:=fun xs=>match xs with| [.d (.int .u64) a,.d (.int .u64) b,.d (.int .u64) (.int c)]=>if c=0 then some (.tup [.d (.int .u64) (.int ((a.toInt+b.toInt)%18446744073709551616)),.d (.int .u64) (.int ((a.toInt+b.toInt) / 18446744073709551616))])else none|_=>none
def YE:List (Nat × (List V->Option V)):=[]
 ++[(96,Wb)]
def Tv:Dm:=Tu YE
theorem q1F (gl:Nat->Option (Ty × C)):KN (X0 gl) YE:=by
 unfold YE
 repeat' refine KN.append ?_ ⟨?_,trivial⟩
 ·exact trivial
 ·intro xs v h;have h:Wb xs=some v:=h;show Mo (X0 gl) 96 xs v;unfold Wb at h;split at h;{simp only[br,Option.some.injEq]at h;obtain⟨rfl,rfl⟩:=h;exact bg _ _};{cases h}
theorem lL (gl:Nat->Option (Ty × C)):Hy (X0 gl) Tv:=lJ (q1F gl)
def noX:FuncId->Nat->List (Nat × Nat):=fun _ _=>[]
def k7 (_:Nat) {R:Type}:OvG R:=Pc 1 (.int .u8)
theorem TP (N:Nat) {R:Type}:GOk (X0 gl0) 31 (k7 N (R:=R)):=XI fun A cs=>j6 A cs
def k9 (_:Nat) {R:Type}:OvG R:=Pc 32 (.arr 32 (.int .u8))
theorem hR (N:Nat) {R:Type}:GOk (X0 gl0) 59 (k9 N (R:=R)):=XI fun A cs=>j8 A cs
def k8 (_:Nat) {R:Type}:OvG R:=Pc 64 Bz
theorem hM (N:Nat) {R:Type}:GOk (X0 gl0) 76 (k8 N (R:=R)):=XI fun A cs=>j7 A cs
def hU (_:Nat) {R:Type}:OvG R:=fun xs _ K=>match xs with| [.d (.slice eb e) (.slice (c::cs))]=>if eb=8/\e= .int .u64 then K (.sr (.l 7) [] 0 (c::cs).length none 8 (.int .u64)) [(.l 7,.box (.d (.arr (c::cs).length (.int .u64)) (.agg (c::cs))))]else none|_=>none
theorem iA (N:Nat) {R:Type}:GOk (X0 gl0) 57 (hU N (R:=R)):=by intro xs A Kr r hr;unfold hU at hr;split at hr;{simp only[br]at hr;obtain⟨⟨rfl,rfl⟩,hr⟩:=hr;exact⟨_,_,Q2 A _ (by simp),hr⟩};{cases hr}
section
variable {gl:Nat->Option (Ty × C)}
def FC (p:List C):Nat->Nat->List Nat->Int × List Nat
 |0,_,bs=>(0,bs)|f+1,i,bs=>if i<p.length then(if Bi p i=0 then FC p f (i+1+CQ (bN p i)) (bs++[i])else(Bi p i,bs))else(0,bs)
def OB (p:List C) (i:Nat):Bool:=decide (bN p i=11)||decide (bN p i=12)
def toN (p:List C) (i:Nat):Int:=EB p (i+1) (CQ (bN p i))
def Hh (p:List C) (bs:List Nat):List C:=(bs.filter (OB p)).map fun i=>.int (toN p i)
def IE (bs:List Nat) (c:C):C:=.bool (bs.any fun j=>decide (c=bt (j:Int)))
def Ej (p:List C):Int:=
 if 256<p.length then 1 else if(FC p p.length 0 []).1≠0 then(FC p p.length 0 []).1 else
  if(Hh p (FC p p.length 0 []).2).all (fun c=>(IE (FC p p.length 0 []).2 c).toBool)then 0 else 10
theorem q6L {p:List C} {i:Nat} {bs:List Nat} {r:Int × List Nat} (hi:i<p.length) (h:FC p (p.length-i) i bs=r):
  (Bi p i≠0->r=(Bi p i,bs))/\(Bi p i=0->i+1+CQ (bN p i)<=p.length/\FC p (p.length-(i+1+CQ (bN p i))) (i+1+CQ (bN p i)) (bs++[i])=r):=by
 have mono:∀(f g j:Nat) (bs:List Nat),p.length-j<=f->p.length-j<=g->FC p f j bs=FC p g j bs:=by
  intro f
  induction f with
  |zero=>
   intro g j bs h1 h2;cases g with
   |zero=>rfl|succ g=>simp only[FC];rw[if_neg (by omega)]
  |succ f ih=>
   intro g j bs h1 h2;cases g with
   |zero=>simp only[FC];rw[if_neg (by omega)]|succ g=>
    simp only[FC];split;{split;{exact ih _ _ _ (by omega) (by omega)};{rfl}};{rfl}
 obtain⟨f,hf⟩:∃f,p.length-i=f+1:=⟨p.length-i-1,by omega⟩;rw[hf]at h;simp only[FC]at h;rw[if_pos hi]at h;refine⟨fun he=>?_,fun he=>⟨?_,?_⟩⟩;{rw[if_neg he]at h;exact h.symm};{unfold Bi at he;rw[if_neg (by omega)]at he;split at he;{simp at he};{split at he;{simp at he};{omega}}};{rw[if_pos he]at h;rw[<-h];exact mono _ _ _ _ (by omega) (by omega)}
theorem q6K {p:List C} {i:Nat} {bs:List Nat} (hi:p.length<=i):FC p (p.length-i) i bs=(0,bs):=by rw[show p.length-i=0 by omega];rfl
theorem q3w (p:List C) (bs:List Nat) (i:Nat):Hh p (bs++[i])=if OB p i=true then Hh p bs++[.int (toN p i)]else Hh p bs:=by unfold Hh;rw[List.filter_append];by_cases h:OB p i=true;{rw[if_pos h];simp[h]};{rw[if_neg h];simp[h]}
theorem q3v (p:List C) (bs:List Nat):(Hh p bs).length<=bs.length:=by unfold Hh;rw[List.length_map];exact List.length_filter_le _ _
end
abbrev Cw {R:Type} (f:C->KD R->Option R):(Nat->C)->KD R->Option R:=fun a=>f (a 0)
abbrev DY {R:Type} (f:C->C->KD R->Option R):(Nat->C)->KD R->Option R:=fun a=>f (a 0) (a 1)
abbrev Ip {R:Type} (f:C->C->C->KD R->Option R):(Nat->C)->KD R->Option R:=fun a=>f (a 0) (a 1) (a 2)
def Ca (t:Ty) {R:Type}:(Nat->C)->(V->List (Key × O)->Option R)->KD R:=fun _ K d _=>K (V.d t (dk d 0)) []
def GN {R:Type}:(Nat->C)->(V->List (Key × O)->Option R)->KD R:=fun _ K d _=>K (V.d gd (dv (ek (dk d 0)))) []
def Bm (a:List Nat) (b:List (Nat × Sh)):Hint:=⟨a,b,[],[],[],[]⟩
def Bc (b:List (Nat × Sh)):Hint:=⟨[],b,[],[],[],[]⟩
abbrev okX (f:Nat) {R:Type} (g:OvG R):Prop:=GOk (X0 gl0) f g
def Ah:OvS (X0 gl0):=⟨fun _=>[],fun _ _ h=>nomatch h⟩
def AP {f:FuncId} {g:(R:Type)->OvG R} (h:∀{R:Type},GOk (X0 gl0) f (g R)) (o:OvS (X0 gl0)):OvS (X0 gl0):=⟨fun R=>(f,g R)::o.g R,fun R=>List.forall_mem_cons.2 ⟨h,o.ok R⟩⟩
def Sb {α:Type} (l:List (Nat × List α)) (f:Nat):List α:=(E.look l f).getD []
def dL (l:List (Nat × List (Nat × List (Nat × Nat)))) (f r:Nat):List (Nat × Nat):=Sb (Sb l f) r
def TY:List Ty->Nat->(Nat->C)->List V
 | [],_,_=>[]|t::ts,i,a=>.d t (a i)::TY ts (i+1) a
def Lj:List Ty->List V->Option (List C)
 | [],[]=>some []|t::ts,.d u c::xs=>if u=t then(match Lj ts xs with|some cs=>some (c::cs)|none=>none)else none|_,_=>none
theorem iV:∀(ts:List Ty) (xs:List V) (cs:List C) (i:Nat) (a:Nat->C),Lj ts xs=some cs->(∀j,j<cs.length->a (i+j)=cs.getD j .nil)->xs=TY ts i a
 | [],[],_,_,_,_,_=>rfl|t::ts,.d u c::xs,cs,i,a,h,ha=>by
  simp only[Lj]at h;split at h
  ·split at h
   ·rename_i hu _ cs' hcs;cases h;subst hu;have h0:=ha 0 (Nat.zero_lt_succ _);have ih:=iV ts xs cs' (i+1) a hcs fun j hj=>by have:=ha (j+1) (Nat.succ_lt_succ hj);rw[show i+1+j=i+(j+1) by omega,this];rfl
    show _=V.d u (a i)::_;rw[<-ih,show a i=c from h0]
   ·cases h
  ·cases h
def BS {R:Type} (ts:List Ty) (P:(Nat->C)->KD R->Option R) (F:(Nat->C)->(V->List (Key × O)->Option R)->KD R):OvG R:=fun xs _ K=>match Lj ts xs with|some cs=>P (dk cs) (F (dk cs) K)|none=>none
theorem iU {R:Type} {ts:List Ty} {P P0:(Nat->C)->KD R->Option R} {F:(Nat->C)->(V->List (Key × O)->Option R)->KD R} {f:Nat} (o:OvS (X0 gl0)) (N n m:Nat) (tb:List (Nat × List (Nat × List (Nat × Nat)))) (hs:List (Nat × Hints)) (e:∀a k,P a k=P0 a k)
  (h:∀a K,exF (X0 gl0) (o.ov R) Tv (dL tb) (Sb hs) N n m f (TY ts 0 a) A0 K=jn (F a K) (P0 a):=by intros;kernel_rfl):GOk (X0 gl0) f (BS ts P F):=by
 intro xs A Kr r hr;unfold BS at hr;split at hr;{rename_i cs hcs;rw[e,<-AZ (F (dk cs) Kr) (P0 (dk cs)),<-h]at hr;rw[iV ts xs cs 0 (dk cs) hcs fun j _=>by rw[cf];rfl];obtain⟨v,L,h1,h2⟩:=YD (ok0 gl0) (mo gl0) (o.tI _) (lL gl0) _ _ _ _ _ _ hr;exact⟨v,L,h1.mono (q3t fun _=>rfl),h2⟩};{cases hr}
theorem BW {R:Type} {ts:List Ty} {P P0:(Nat->C)->KD R->Option R} {F:(Nat->C)->(V->List (Key × O)->Option R)->KD R} {f:Nat} (o:OvS (X0 gl0)) (N:Nat) (tb:List (Nat × List (Nat × List (Nat × Nat)))) (hs:List (Nat × Hints)) (e:∀a k,P a k=P0 a k)
  (h:∀a K,exF (X0 gl0) (o.ov R) Tv (dL tb) (Sb hs) N 400 8 f (TY ts 0 a) A0 K=jn (F a K) (P0 a):=by intros;kernel_rfl):GOk (X0 gl0) f (BS ts P F):=iU o N 400 8 tb hs e h
def CP {R:Type} (sa:List Sh) (os:List (Key × OSh)) (P:List C->List Es->KD R->Option R) (F:List C->List Es->(V->List (Key × O)->Option R)->KD R):OvG R:=Ry sa os fun ds ms K=>P ds ms (F ds ms K)
theorem CT {R:Type} {sa:List Sh} {os:List (Key × OSh)} {P P0:List C->List Es->KD R->Option R} {F:List C->List Es->(V->List (Key × O)->Option R)->KD R} {f:Nat} (o:OvS (X0 gl0)) (N:Nat) (tb:List (Nat × List (Nat × List (Nat × Nat)))) (hs:List (Nat × Hints)) (e:∀ds ms k,P ds ms k=P0 ds ms k)
  (h:∀ds ms K,exF (X0 gl0) (o.ov R) Tv (dL tb) (Sb hs) N 400 8 f (Sh.EF sa 0 ds) (AK (Bp os (Sh.Gq sa) 0 ds ms)) K=jn (F ds ms K) (P0 ds ms):=by intros;kernel_rfl):GOk (X0 gl0) f (CP sa os P F):=by
 refine uI fun ds ms K r hr=>?_;rw[e,<-AZ (F ds ms K) (P0 ds ms),<-h]at hr;obtain⟨v,L,h1,h2⟩:=YD (ok0 gl0) (mo gl0) (o.tI _) (lL gl0) _ _ _ _ _ _ hr;exact⟨v,L,h1,h2⟩
def Tw {R:Type} (N:Nat) (k2:KD R):KD R->KD R:=fun k3 d1 m1=>(bif decide (bp (dk d1 5)<bp (dk d1 3))then(if 0<=bp (dk d1 5)/\bp (dk d1 5)<(↑(bn (bq (dk d1 2))):Int)then(k3 [dk d1 0,dk d1 1,dk d1 2,dk d1 3,bt (CH rm bu (bw bu (bp (dk d1 4)*2^min (bo 8) 64)) (bw bu (bp (dt (bq (dk d1 2)) (bo (bp (dk d1 5))) gj)))),bt (bw ca (bp (dk d1 5)+1))] [])else none)else(k2 [dk d1 0,dk d1 1,dk d1 4] []))
def YG (a0 a1:C) (k1:KD R):Option R:=bif decide ((↑(bn (bq a0)):Int)<=bp a1)then(k1 [bt 0,bt 0,bt 0,bt 9] [])else(if 0<=bp a1/\bp a1<(↑(bn (bq a0)):Int)then(bif decide (18<=bw ca (bp (dt (bq a0) (bo (bp a1)) gj)))then(k1 [bt 0,bt 0,bt 0,bt 33] [])else(if 0<=bw ca (bp (dt (bq a0) (bo (bp a1)) gj))/\bw ca (bp (dt (bq a0) (bo (bp a1)) gj))<18 then(bif decide ((↑(bn (bq a0)):Int)<bw ca (bw ca (bp a1+1)+bp (cd (cd (eg Er) (bo (bw ca (bp (dt (bq a0) (bo (bp a1)) gj))))) 1)))then(k1 [bt 0,bt 0,bt 0,bt 9] [])else(if 0<=bw ca (bp a1+1)/\bw ca (bp a1+1)<=bw ca (bw ca (bp a1+1)+bp (cd (cd (eg Er) (bo (bw ca (bp (dt (bq a0) (bo (bp a1)) gj))))) 1))/\bw ca (bw ca (bp a1+1)+bp (cd (cd (eg Er) (bo (bw ca (bp (dt (bq a0) (bo (bp a1)) gj))))) 1))<=(↑(bn (bq a0)):Int)then(jn (fun d1 m1=>(k1 [dk d1 0,dk d1 2,dk d1 1,bt 0] [])) (fun k2=>(BU N (Tw N k2) [bt (bw ca (bp (dt (bq a0) (bo (bp a1)) gj))),bt (bw ca (bw ca (bp a1+1)+bp (cd (cd (eg Er) (bo (bw ca (bp (dt (bq a0) (bo (bp a1)) gj))))) 1))),cz (cut (bq a0) (bw ca (bp a1+1)) (bw ca (bw ca (bp a1+1)+bp (cd (cd (eg Er) (bo (bw ca (bp (dt (bq a0) (bo (bp a1)) gj))))) 1)))),bt (↑(bn (cut (bq a0) (bw ca (bp a1+1)) (bw ca (bw ca (bp a1+1)+bp (cd (cd (eg Er) (bo (bw ca (bp (dt (bq a0) (bo (bp a1)) gj))))) 1))))):Int),bt 0,bt 0] [])))else none))else none))else none)
def QP:=lid "" (@YG R N)
theorem lQ {R N a0 a1 k}:@QP R N a0 a1 k=YG N a0 a1 k:=by unfold QP;rw[Ag]
def YF:OvG R:=BS [.slice 1 (.int .u8),.int .i64] (DY (QP N)) fun a K d1 m1=>K (V.tup
 [V.d (cg ca) (dk d1 0),V.d (cg bu) (dk d1 1),V.d (cg ca) (dk d1 2),
  V.d (cg ca) (dk d1 3)]) []
theorem lP:okX 145 (@YF R N):=BW Ah N [] [(145,[([1,0,1,1,1,1,1,1],(Bm [4,6] [(5,.d (.int .u64))])),
  ([4,1,0,1,1,1,1,1,1],(Bm [4,6,36,37] [(5,.d (.int .u64)),(38,.d (.int .i64))])),
  ([9],(Bc [(4,.d (.int .i64)),(5,.d (.int .u64)),(6,.d (.int .i64)),(7,.d (.int .i64))]))])] (fun _ _=>lQ)
section
variable {R:Type} {N:Nat}
theorem dH {i:Nat} (h:i<4611686018427387904):IntKind.i64.wrap ((i:Int)+1)=((i+1:Nat):Int):=by rw[je _ (by omega)];omega
theorem u7 {b:Int} (h0:0<=b) (h1:b<=255):IntKind.u64.wrap b=b:=by
 have m1:IntKind.u64.min=0:=by decide
 have m2:IntKind.u64.max=18446744073709551615:=by decide
 exact PL (by omega) (by omega)
theorem AG:(∀{α:Type} {a b:α},cond true a b=a)/\(∀{α:Type} {a b:α},cond false a b=b)/\(∀{h:Decidable True},@decide True h=true)/\(∀{h:Decidable False},@decide False h=false)/\(∀{α:Type} {_:Decidable True} {a b:α},(if True then a else b)=a)/\(∀{α:Type} {_:Decidable False} {a b:α},(if False then a else b)=b)/\(!true)=false/\(!false)=true:=⟨@fun _ _ _=>rfl,@fun _ _ _=>rfl,@fun _=>decide_true _,@fun _=>decide_false _,@fun _ _ _ _=>if_pos trivial,@fun _ _ _ _=>if_neg id,rfl,rfl⟩
theorem lN (p:List C) (hw:C.wf (.slice 1 (.int .u8)) (.slice p)) (i:Nat) (hl:p.length<=256) (hi:i<=100000) (hN:20<N) (k:KD R):QP N (.slice p) (.int i) k=
  k [.int (if Bi p i=0 then bN p i else 0),.int (if Bi p i=0 then EB p (i+1) (CQ (bN p i))else 0),.int (if Bi p i=0 then((i+1+CQ (bN p i):Nat):Int)else 0),.int (Bi p i)] []:=by
 rw[lQ];unfold YG;simp only[Ac,AF];by_cases h1:p.length<=i
 ·have h1':(p.length:Int)<=(i:Int):=by omega
  have e:Bi p i=9:=by unfold Bi;rw[if_pos h1]
  simp only[h1',e,AG,show ¬(9:Int)=0 by decide]
 have h1':¬(p.length:Int)<=(i:Int):=by omega
 have c1:0<=(i:Int)/\(i:Int)<(p.length:Int):=by omega
 obtain⟨b1,b2,b3⟩:=PW hw (i:=i) (by omega);have w1:IntKind.i64.wrap (bN p i)=bN p i:=je _ (by omega);simp only[h1',c1,and_self,AG,bx,b1,AF,w1];by_cases h2:18<=bN p i
 ·have e:Bi p i=33:=by unfold Bi;rw[if_neg h1,if_pos h2]
  simp only[h2,e,AG,show ¬(33:Int)=0 by decide]
 have hm:cd (cd (eg Er) (bN p i).toNat) 1= .int (CQ (bN p i)):=by
  have:=q1N (bN p i).toNat (by omega)
  rwa [gy b2]at this
 have m8:=rB (bN p i);have c2:0<=bN p i/\bN p i<18:=by omega
 simp only[h2,hm,c2,AF,and_self,AG];generalize hmm:CQ (bN p i)=m at hm m8;have w2:IntKind.i64.wrap ((i:Int)+1)=((i+1:Nat):Int):=dH (by omega);have w3:IntKind.i64.wrap (((i+1:Nat):Int)+(m:Int))=((i+1+m:Nat):Int):=by rw[je _ (by omega)];omega
 simp only[w2,w3];by_cases h3:p.length<i+1+m
 ·have h3':(p.length:Int)<((i+1+m:Nat):Int):=by omega
  have e:Bi p i=9:=by unfold Bi;rw[if_neg h1,if_neg h2,hmm,if_pos h3]
  simp only[h3',e,AG,show ¬(9:Int)=0 by decide]
 have h3':¬(p.length:Int)<((i+1+m:Nat):Int):=by omega
 have e:Bi p i=0:=by unfold Bi;rw[if_neg h1,if_neg h2,hmm,if_neg h3]
 have c3:0<=((i+1:Nat):Int)/\((i+1:Nat):Int)<=((i+1+m:Nat):Int)/\((i+1+m:Nat):Int)<=(p.length:Int):=by omega
 have hql:(cut p ((i+1:Nat):Int) ((i+1+m:Nat):Int)).length=m:=by unfold cut;simp;omega
 have hqe:∀j,j<m->(cut p ((i+1:Nat):Int) ((i+1+m:Nat):Int)).getD j .nil= .int (bN p (i+1+j)):=by intro j hj;rw[<-(PW hw (i:=i+1+j) (by omega)).1];unfold cut;simp[du,List.getElem?_drop,List.getElem?_take,hj]
 simp only[h3',c3,e,and_self,AG,AZ];generalize cut p ((i+1:Nat):Int) ((i+1+m:Nat):Int)=q at hql hqe;rw[hql];refine(Jt (F:=Tw N _) (fun j=>[.int (bN p i),.int ((i+1+m:Nat):Int),.slice q,.int m,.int (EB p (i+1) j),.int j]) (fun _=>[]) m _ (fun j hj rec=>?_) (fun rec=>?_) (N:=N) (by omega)).trans rfl
 ·obtain⟨a1,a2,a3⟩:=fU hw (i:=i+1) (k:=j) (by omega) (by omega);obtain⟨_,d2,d3⟩:=PW hw (i:=i+1+j) (by omega);have e1:(j:Int)<(m:Int):=by omega
  have e2:0<=(j:Int)/\(j:Int)<(q.length:Int):=by omega
  have e3:((2:Int)^min (bo 8) 64)=256:=by decide
  have e4:IntKind.u64.wrap (EB p (i+1) j*256)=EB p (i+1) j*256:=by
   have:=a3 (by omega);have m1:IntKind.u64.min=0:=by decide
   have m2:IntKind.u64.max=18446744073709551615:=by decide
   exact PL (by omega) (by omega)
  unfold Tw;simp only[AI,AQ,AR,AV,Aa,Aj,AF,Ac,e1,e2,AG,and_self,bx,hqe j hj,e3,e4,u7 d2 d3,q5n a1 (a3 (by omega)) d2 d3,dH (show j<4611686018427387904 by omega)]
  all_goals rfl
 ·unfold Tw;simp only[AI,AQ,AR,AV,Aa,Aj,AF,fq,AG]
  all_goals rfl
theorem Z6 (_:GF gl0) (A:Key->Option O) (p:List C) (at_:Nat) (hl:p.length<=256) (hat:at_<=100000):Bu (X0 gl0) 145 [.d (.slice 1 (.int .u8)) (.slice p),.d (.int .i64) (.int at_)] A (lS p at_) []:=by refine Xg (ts:=[.slice 1 (.int .u8),.int .i64]) (cs:=[.slice p,.int at_]) fun W=>?_;refine aR (lP 21) ?_;show YF 21 [.d (.slice 1 (.int .u8)) (.slice p),.d (.int .i64) (.int at_)] A kR=_;simp only[YF,BS,Lj,and_self,if_true,AI,AQ,AR,AV,Aa,Cw,DY,Ip,Ca,GN];rw[lN p (W 0 _ _ rfl rfl) at_ hl hat (by omega)];rfl
end
def XE {R:Type} (N:Nat) (k1:KD R) (k2:KD R):KD R->KD R:=fun k3 d2 m2=>(bif decide (bp (dk d2 2)<bp (dk d2 1))then(if 0<=bp (dk d2 2)/\bp (dk d2 2)<(↑(bn (bq (dk d2 0))):Int)then(bif De gd (dE gd (dm m2 0))then(bif IU (dE gd (dm m2 0)) (dt (bq (dk d2 0)) (bo (bp (dk d2 2))) gj)then(bif !ek (Kf (dE gd (dm m2 0)) (dt (bq (dk d2 0)) (bo (bp (dk d2 2))) gj))then(k1 [bt 10] [])else(if Ab gd (dE gd (dm m2 0))=true then(k3 [dk d2 0,dk d2 1,bt (bw ca (bp (dk d2 2)+1))] [unE (dE gd (dm m2 0))])else none))else(k1 [bt 10] []))else none)else none)else(k2 [] []))
def XF (k1:KD R) (k2:KD R):KD R->KD R:=fun k3 d1 m1=>(bif decide (bp (dk d1 2)<(↑(bn (bq (dk d1 0))):Int))then(QP N (dk d1 0) (dk d1 2) (fun d2 m2=>(bif !decide (bp (dk d2 3)=0)then(k1 [dk d2 3] [])else(jn (fun d3 m3=>(jn (fun d4 m4=>(bif dj (bn (bq (dk d4 2))) (bn (bq (dk d4 2)))then(if Ab gd (dE gd (dm m4 0))=true then(k3 [dk d4 0,cz (bq (dk d4 2)),dk d4 1] [unE (dE gd (dm m4 0))])else none)else none)) (fun k4=>(bif ek (dk d3 4)then(bif dj (bn (bq (dk d3 3))) (bn (bq (dk d3 3)))then(if(bn (bq (dk d3 3))+1)*8<=140737488355328/\bn (bq (dk d3 3))+1<=9223372036854775807 then(bif dj (bn (bq (dk d3 3))+1) (bn (bq (dk d3 3)++[dk d3 1]))then(if Ab gd (dE gd (dm m3 0))=true then(k4 [dk d3 0,dk d3 2,cz (bq (dk d3 3)++[dk d3 1])] [unE (dE gd (dm m3 0))])else none)else none)else none)else none)else(bif dj (bn (bq (dk d3 3))) (bn (bq (dk d3 3)))then(if Ab gd (dE gd (dm m3 0))=true then(k4 [dk d3 0,dk d3 2,cz (bq (dk d3 3))] [unE (dE gd (dm m3 0))])else none)else none))))) (fun k4=>(bif decide (bp (dk d2 0)=11)then(bif dj (bn (bq (dk d1 1))) (bn (bq (dk d1 1)))then(if Ab gd (GV (dE gd (dm m1 0)) (bt (bw bu (bp (dk d1 2)))) (V.d gd (dv true)))=true then(k4 [dk d1 0,dk d2 1,dk d2 2,cz (bq (dk d1 1)),dv true] [unE (GV (dE gd (dm m1 0)) (bt (bw bu (bp (dk d1 2)))) (V.d gd (dv true)))])else none)else none)else(bif dj (bn (bq (dk d1 1))) (bn (bq (dk d1 1)))then(if Ab gd (GV (dE gd (dm m1 0)) (bt (bw bu (bp (dk d1 2)))) (V.d gd (dv true)))=true then(k4 [dk d1 0,dk d2 1,dk d2 2,cz (bq (dk d1 1)),dv (decide (bp (dk d2 0)=12))] [unE (GV (dE gd (dm m1 0)) (bt (bw bu (bp (dk d1 2)))) (V.d gd (dv true)))])else none)else none)))))))else(bif dj (bn (bq (dk d1 1))) (bn (bq (dk d1 1)))then(if Ab gd (dE gd (dm m1 0))=true then(k2 [cz (bq (dk d1 1))] [unE (dE gd (dm m1 0))])else none)else none))
def XG (a0:C) (k1:KD R):Option R:=bif decide (256<(↑(bn (bq a0)):Int))then(k1 [bt 1] [])else(jn (fun d1 m1=>(jn (fun d2 m2=>(k1 [bt 0] [])) (fun k2=>(if Ab gd (dE gd (dm m1 0))=true then(BU N (XE N k1 k2) [cz (bq (dk d1 0)),bt (↑(bn (bq (dk d1 0))):Int),bt 0] [unE (dE gd (dm m1 0))])else none)))) (fun k2=>(BU N (XF N k1 k2) [a0,cz [],bt 0] [unE []])))
def TN:=lid "" (@XG R N)
theorem hG {R N a0 k}:@TN R N a0 k=XG N a0 k:=by unfold TN;rw[Ag]
def XD:OvG R:=BS [.slice 1 (.int .u8)] (Cw (TN N)) (Ca (cg ca))
theorem r8:okX 126 (@XD R N):=BW (AP (lP N) <| Ah) N [] [(126,[([1,0,1,1,1,1],(Bm [3] [(4,.sl 8 (.int .u64) 5004)])),
  ([4,1,0,1,1,1,1],(Bm [0,3] [(4,.sl 8 (.int .u64) 5004),(5,.d (.int .i64))])),
  ([0,0,1,1,1,4,1,5,4,1,0,1,1,1,1],(Bm [0,3,7,8] [(4,.sl 8 (.int .u64) 5004),(39,.d .bool)])),
  ([1,0,1,1,1,4,1,5,4,1,0,1,1,1,1],(Bm [0,3,8] [(4,.sl 8 (.int .u64) 5004)])),
  ([1,0,1,1,1,1,1],(Bc [])),
  ([4,1,0,1,1,1,1,1],(Bm [3,45,46] [(47,.d (.int .i64))])),
  ([9],(Bc [(2,.d (.int .i64))]))])] (fun _ _=>hG)
section
variable {R:Type} {N:Nat}
def bE (j:Nat):C × C:=(.int j,.bool true)
theorem gA (x:C) (j:Nat):C.beq x (.int j)=decide (x= .int (j:Int)):=by rw[Bool.eq_iff_iff,C.beq_iff,decide_eq_true_eq]
theorem Yg (c:C):∀bs:List Nat,FI (bs.map bE) c=(IE bs c).toBool
 | []=>rfl|j::bs=>by have ih:=Yg c bs;simp only[IE,ek]at ih;simp only[ep,bE,FI,IE,ek,List.any_cons,gA];rw[ih];cases decide (c= .int (j:Int)) <;> rfl
theorem mO (c:C):∀bs:List Nat,FI (bs.map bE) c=true->getM (bs.map bE) c= .bool true
 | [],h=>by cases h
 |j::bs,h=>by have ih:=mO c bs;simp only[ep,bE,FI,getM]at ih h ⊢;cases hb:C.beq c (.int j);{rw[hb]at h;simp only[cond_false]at h ⊢;exact ih h};{rfl}
theorem Va (i:Nat):∀bs:List Nat,i∉bs->GV (dE gd (bs.map bE)) (.int i) (V.d gd (.bool true))=dE gd ((bs++[i]).map bE)
 | [],_=>rfl|j::bs,h=>by
  have ih:=Va i bs fun x=>h (List.mem_cons_of_mem _ x);have e:C.beq (.int (i:Int)) (.int (j:Int))=false:=by rw[gA,decide_eq_false_iff_not];intro x;injection x with x;exact h (by rw[show i=j by omega];exact List.mem_cons_self)
  simp only[dE,ep,List.map_append,bE,GV,List.cons_append]at ih ⊢;rw[e];simp only[fj,if_false];rw[ih]
theorem eC {i:Nat} (h:i<=100000):IntKind.u64.wrap (i:Int)=i:=by
 have m1:IntKind.u64.min=0:=by decide
 have m2:IntKind.u64.max=18446744073709551615:=by decide
 exact PL (by omega) (by omega)
theorem NW (m:Es):dm [m] 0=m:=rfl
theorem p9 {p:List C} (h0:¬256<p.length) {bs:List Nat} (h:(0,bs)=FC p p.length 0 []):Ej p=if(Hh p bs).all (fun c=>(IE bs c).toBool)then 0 else 10:=by unfold Ej;rw[if_neg h0,<-h,if_neg (by simp)]
theorem p8 {p:List C} (h0:¬256<p.length) {bs:List Nat} {e:Int} (he:e≠0) (h:FC p p.length 0 []=(e,bs)):Ej p=e:=by unfold Ej;rw[if_neg h0,h,if_pos he]
theorem r7 (p:List C) (hw:C.wf (.slice 1 (.int .u8)) (.slice p)) (hN:1000<N) (k:KD R):TN N (.slice p) k=k [.int (Ej p)] []:=by
 rw[hG];unfold XG;simp only[Ac];by_cases h0:256<p.length
 ·have h0':(256:Int)<(p.length:Int):=by omega
  have e:Ej p=1:=by unfold Ej;rw[if_pos h0]
  simp only[h0',e,AG]
 have h0':¬(256:Int)<(p.length:Int):=by omega
 simp only[h0',AG,AZ]
 refine OE (F:=XF N k _) (fun x:Nat × List Nat=>[.slice p,.slice (Hh p x.2),.int x.1]) (fun x=>[x.2.map bE]) (fun x=>p.length-x.1)
  (fun x=>x.1<=p.length/\x.2.length<=x.1/\(∀j∈x.2,j<x.1)/\FC p (p.length-x.1) x.1 x.2=FC p p.length 0 []) (fun _=>k [.int (Ej p)] []) ?_ N (0,[]) ⟨Nat.zero_le _,cn _,(fun _ h=>nomatch h),rfl⟩ (by show p.length-0<N;omega)
 rintro⟨i,bs⟩ ⟨hi,hb,hj,hS⟩ rec ya;dsimp only at hi hb hj hS ya;have hln:=q3v p bs;unfold XF;by_cases hlt:i<p.length
 ·have xz:(i:Int)<(p.length:Int):=by omega
  obtain⟨s1,s2⟩:=q6L hlt hS;simp only[AI,AQ,AR,AV,AF,Ac,xz,AG,lN p hw i (show p.length<=256 by omega) (show i<=100000 by omega) (show 20<N by omega)];by_cases he:Bi p i=0
  ·obtain⟨q1,q2⟩:=s2 he;have hbi:i∉bs:=fun x=>Nat.lt_irrefl _ (hj _ x)
   have hr:=ya (i+1+CQ (bN p i),bs++[i]) ⟨q1,by show(bs++[i]).length<=i+1+CQ (bN p i);simp;omega,fun j h=>by
    show j<i+1+CQ (bN p i);rcases ic.1 h with h|h;{have:=hj _ h;omega}
    ·rw[ft.1 h];omega,q2⟩ (by show p.length-(i+1+CQ (bN p i))<p.length-i;omega)
   have g1:((Hh p bs).length+1)*8<=140737488355328/\(Hh p bs).length+1<=9223372036854775807:=by omega
   rw[q3w]at hr;by_cases l1:bN p i=11;{rw[if_pos (by simp[OB,l1])]at hr;simp only[he,AZ,l1,NW,eC (show i<=100000 by omega),Va i bs hbi,Ao,Aq,ct,AW,AF,Ac,AI,AQ,AR,AV,Aa,AG,g1,and_self,da,dq,dw,cf];rw[<-hr,l1];unfold toN;rw[l1]};{by_cases l2:bN p i=12;{rw[if_pos (by simp[OB,l2])]at hr;simp only[he,AZ,l2,show ¬(12:Int)=11 by decide,NW,eC (show i<=100000 by omega),Va i bs hbi,Ao,Aq,ct,AW,AF,Ac,AI,AQ,AR,AV,Aa,AG,g1,and_self,da,dq,dw,cf];rw[<-hr,l2];unfold toN;rw[l2]};{rw[if_neg (by simp[OB,l1,l2])]at hr;simp only[he,AZ,l1,l2,NW,eC (show i<=100000 by omega),Va i bs hbi,Ao,Aq,ct,AW,AF,Ac,AI,AQ,AR,AV,Aa,AG,hr]}}
  ·rw[p8 h0 he (s1 he)];simp only[he,AG]
 ·have xz:¬(i:Int)<(p.length:Int):=by omega
  obtain rfl:i=p.length:=by omega
  rw[q6K (cn _)]at hS;simp only[AI,AQ,AR,AF,Ac,xz,AG,ct,NW,Ao,Aq];rw[p9 h0 hS];generalize hL:Hh p bs=L at hln
  refine OE (F:=XE N k _) (fun j:Nat=>[.slice L,.int L.length,.int j]) (fun _=>[bs.map bE]) (fun j=>L.length-j) (fun j=>j<=L.length/\∀c∈L.take j,(IE bs c).toBool=true)
   (fun _=>k [.int (if L.all (fun c=>(IE bs c).toBool)then 0 else 10)] []) ?_ N 0 ⟨Nat.zero_le _,fun _ h=>by simp at h⟩ (by show L.length-0<N;omega)
  rintro j ⟨hj1,xh⟩ rec2 z5h;unfold XE;by_cases hjl:j<L.length
  ·have e1:(j:Int)<(L.length:Int):=by omega
   have e2:0<=(j:Int)/\(j:Int)<(L.length:Int):=by omega
   have z4n:L.getD j .nil∈L:=by rw[du,cq hjl];exact uh hjl
   by_cases hin:(IE bs (L.getD j .nil)).toBool=true
   ·have hh:FI (bs.map bE) (L.getD j .nil)=true:=(Yg _ _).trans hin
    have:=z5h (j+1) ⟨hjl,fun c hc=>by
     rw[List.take_add_one,ic]at hc;rcases hc with hc|hc;{exact xh c hc}
     ·rw[cq hjl]at hc;simp only[Option.toList_some,ft]at hc;subst hc;rw[du,cq hjl]at hin;exact hin⟩ (by omega)
    simp only[AI,AQ,AR,AF,Ac,e1,e2,AG,and_self,NW,Fm,Qg,mM,bx,hh,mO _ _ hh,AW,Ao,Aq,dH (show j<4611686018427387904 by omega),this]
   ·have hh:FI (bs.map bE) (L.getD j .nil)=false:=(Yg _ _).trans (by simpa using hin);have er:L.all (fun c=>(IE bs c).toBool)=false:=by cases h:L.all (fun c=>(IE bs c).toBool);{rfl};{exact absurd (eh.1 h _ z4n) hin}
    simp only[AI,AQ,AR,AF,Ac,e1,e2,AG,and_self,NW,Fm,Qg,bx,hh,er,fj]
  ·have e1:¬(j:Int)<(L.length:Int):=by omega
   rw[List.take_of_length_le (by omega)]at xh;have er:L.all (fun c=>(IE bs c).toBool)=true:=by rw[eh];exact xh
   simp only[AQ,AR,AF,e1,AG,er]
end
section
variable {R:Type} {N:Nat}
theorem Q8 (_:GF gl0) (A:Key->Option O) (p:List C):Bu (X0 gl0) 126 [.d (.slice 1 (.int .u8)) (.slice p)] A (.d (.int .i64) (.int (Ej p))) []:=by refine Xg (ts:=[.slice 1 (.int .u8)]) (cs:=[.slice p]) fun W=>?_;refine aR (r8 1001) ?_;show XD 1001 [.d (.slice 1 (.int .u8)) (.slice p)] A kR=_;simp only[XD,BS,Lj,and_self,if_true,AI,AQ,AR,AV,Aa,Cw,DY,Ip,Ca,GN];rw[r7 p (W 0 _ _ rfl rfl) (by omega)];rfl
end
theorem wQ {X:Cx} {f:FuncId} {eb:Nat} {e:Ty} {c:C} {A:Key->Option O} {v:V} {L:List (Key × O)} (h:Bu X f [.d (.slice eb e) (.slice c.elems)] A v L):Bu X f [.d (.slice eb e) c] A v L:=by intro A' Γ w args hA hg hc hn hr;have hs:args.size=1:=hn.symm;have h0:AE Γ (.d (.slice eb e) c) args[0]:=hr 0 _ _ rfl (ee (by omega:0<args.size));obtain⟨h2,_⟩:=(Bx rfl rfl).1 h0;simp only[AA,AH]at h2;obtain⟨_,_,_,cs,rfl,_⟩:=h2;exact h A' Γ w args hA hg hc hn hr
def hJ {R:Type}:OvG R:=fun xs _ K=>match xs with| [.d t c]=>if t= .slice 1 (.int .u8)then K (.d (.int .i64) (.int (Ej c.elems))) []else none|_=>none
def iG (_:Nat) {R:Type}:OvG R:=hJ
theorem Q9 (N:Nat) {R:Type}:GOk (X0 gl0) 126 (iG N (R:=R)):=by intro xs A Kr r hr;unfold iG hJ at hr;split at hr;{simp only[br]at hr;obtain⟨rfl,hr⟩:=hr;exact⟨_,_,wQ (Q8 gf0 A _),hr⟩};{cases hr}
theorem q6Y {X:Cx} {f:FuncId} {eb:Nat} {e:Ty} {c:C} {y:V} {A:Key->Option O} {v:V} {L:List (Key × O)} (h:Bu X f [.d (.slice eb e) (.slice c.elems),y] A v L):Bu X f [.d (.slice eb e) c,y] A v L:=by intro A' Γ w args hA hg hc hn hr;have hs:args.size=2:=hn.symm;have h0:AE Γ (.d (.slice eb e) c) args[0]:=hr 0 _ _ rfl (ee (by omega:0<args.size));obtain⟨h2,_⟩:=(Bx rfl rfl).1 h0;simp only[AA,AH]at h2;obtain⟨_,_,_,cs,rfl,_⟩:=h2;exact h A' Γ w args hA hg hc hn hr
theorem q2l {X:Cx} {f:FuncId} {k:IntKind} {c:C} {y:V} {A:Key->Option O} {v:V} {L:List (Key × O)} (h:Bu X f [y,.d (.int k) (.int c.toInt)] A v L):Bu X f [y,.d (.int k) c] A v L:=by
 intro A' Γ w args hA hg hc hn hr;have hs:args.size=2:=hn.symm;have h0:AE Γ (.d (.int k) c) args[1]:=hr 1 _ _ rfl (ee (by omega:1<args.size));obtain⟨h2,_⟩:=(Bx rfl rfl).1 h0;simp only[AA,AH]at h2;have hc':∃i,c= .int i:=by cases c <;> simp_all
 obtain⟨i,rfl⟩:=hc';exact h A' Γ w args hA hg hc hn hr
def lR {R:Type}:OvG R:=fun xs _ K=>match xs with
 | [.d t c,.d u i]=>if t= .slice 1 (.int .u8)/\u= .int .i64 then(if c.elems.length<=256/\0<=i.toInt/\i.toInt<=100000 then
   K (.tup [.d (.int .i64) (.int (if Bi c.elems i.toInt.toNat=0 then bN c.elems i.toInt.toNat else 0)),.d (.int .u64) (.int (if Bi c.elems i.toInt.toNat=0 then EB c.elems (i.toInt.toNat+1) (CQ (bN c.elems i.toInt.toNat))else 0)),.d (.int .i64) (.int (if Bi c.elems i.toInt.toNat=0 then((i.toInt.toNat+1+CQ (bN c.elems i.toInt.toNat):Nat):Int)else 0)),.d (.int .i64) (.int (Bi c.elems i.toInt.toNat))]) []else none)else none
 |_=>none
def iI (_:Nat) {R:Type}:OvG R:=lR
theorem Z7 (N:Nat) {R:Type}:GOk (X0 gl0) 145 (iI N (R:=R)):=by intro xs A Kr r hr;unfold iI lR at hr;split at hr;{simp only[br]at hr;obtain⟨⟨rfl,rfl⟩,⟨h1,h2,h3⟩,hr⟩:=hr;rename_i c i;refine⟨_,_,q6Y (q2l ?_),hr⟩;have:=Z6 gf0 A c.elems i.toInt.toNat h1 (by omega);rw[gy h2]at this;simpa only[lS]using this};{cases hr}
def Yz {R:Type} (N:Nat) (a0:C) (k1:KD R):Option R:=k1 [dp (dp (dp (dp (dp (eg [bt 0,bt 0,bt 0,eg (db 32 (bt 0)),bt 0]) 0 (cd a0 0)) 1 (cd a0 1)) 2 (cd a0 2)) 3 (cd a0 3)) 4 (cd a0 4)] []
def Qs:=lid "" (@Yz R N)
theorem oI {R N a0 k}:@Qs R N a0 k=Yz N a0 k:=by unfold Qs;rw[Ag]
def q26:OvG R:=BS [Bz] (Cw (Qs N)) (Ca Bz)
theorem q28:okX 77 (@q26 R N):=BW Ah N [(77,[(0,[(1,5)])])] [(77,[([9],⟨[],[(2,.as (.ptr (.l 2) [] Bz))],[],[(.l 2,.box (.d Bz))],[],[]⟩)])] (fun _ _=>oI)
def UZ (k2:KD R):KD R->KD R:=fun k3 d1 m1=>(bif decide (bp (dk d1 2)<bp (dk d1 1))then(if 0<=bp (dk d1 2)/\bp (dk d1 2)<(↑(bn (bq (dk d1 0))):Int)then(Qs N (dt (bq (dk d1 0)) (bo (bp (dk d1 2))) gj) (fun d2 m2=>(bif dj (bn (bq (dk d1 7))) (bn (bq (dk d1 7)))then(if(bn (bq (dk d1 7))+1)*64<=140737488355328/\bn (bq (dk d1 7))+1<=9223372036854775807 then(bif dj (bn (bq (dk d1 7))+1) (bn (bq (dk d1 7)++[dk d2 0]))then(k3 [dk d1 0,dk d1 1,bt (bw ca (bp (dk d1 2)+1)),dk d1 3,dk d1 4,dk d1 5,dk d1 6,cz (bq (dk d1 7)++[dk d2 0]),dk d1 8] [])else none)else none)else none)))else none)else(k2 [dk d1 3,dk d1 4,dk d1 5,dk d1 6,cz (bq (dk d1 7)),dk d1 8] []))
def ZB (a0:C) (k1:KD R):Option R:=jn (fun d1 m1=>(k1 [eg [dk d1 0,dk d1 1,dk d1 2,dk d1 3,cz (bq (dk d1 4))]] [])) (fun k2=>(BU N (UZ N k2) [cd a0 4,bt (↑(bn (bq (cd a0 4))):Int),bt 0,cd a0 0,cd a0 1,cd a0 2,cd a0 3,cz [],eg [AL (cg di),AL (cg bu),AL (dc 2 (cg bu)),AL (dc 2 (cg bu)),cz []]] []))
def Qu:=lid "" (@ZB R N)
theorem oL {R N a0 k}:@Qu R N a0 k=ZB N a0 k:=by unfold Qu;rw[Ag]
def q3c:OvG R:=BS [BV] (Cw (Qu N)) (Ca BV)
theorem q3e:okX 60 (@q3c R N):=BW (AP (q28 N) <| Ah) N [(60,[(0,[(1,5)]),(5,[(25,7),(5,6)])])] [(60,[([1,0,1,1],⟨[2,3],[],[],[(.l 3,.box (.agg BV [.d (.int .u32),.d (.int .u64),.d (.arr 2 (.int .u64)),.d (.arr 2 (.int .u64)),(.ts 64 Bz)]))],[],[]⟩),
  ([4,1,0,1,1],⟨[2,3,16,17],[(18,.d (.int .i64))],[],[(.l 3,.box (.agg BV [.d (.int .u32),.d (.int .u64),.d (.arr 2 (.int .u64)),.d (.arr 2 (.int .u64)),(.ts 64 Bz)]))],[],[]⟩),
  ([9],⟨[],[(2,.as (.ptr (.l 2) [] BV))],[],[(.l 2,.box (.d BV))],[],[]⟩)])] (fun _ _=>oL)
def UW {R:Type} (N:Nat) (k2:KD R):KD R->KD R:=fun k3 d1 m1=>(bif decide (bp (dk d1 1)<32)then(if 0<=bp (dk d1 1)/\bp (dk d1 1)<32 then(if 0<=bp (dk d1 1)/\bp (dk d1 1)<32 then(if 0<=bp (dk d1 1)/\bp (dk d1 1)<32 then(if 0<=bp (dk d1 1)/\bp (dk d1 1)<32 then(k3 [dk d1 0,bt (bw ca (bp (dk d1 1)+1)),dk d1 2,dp (dp (dk d1 3) 0 (dp (cd (dk d1 3) 0) (bo (bp (dk d1 1))) (cd (cd (dk d1 0) 0) (bo (bp (dk d1 1)))))) 1 (dp (cd (dp (dk d1 3) 0 (dp (cd (dk d1 3) 0) (bo (bp (dk d1 1))) (cd (cd (dk d1 0) 0) (bo (bp (dk d1 1)))))) 1) (bo (bp (dk d1 1))) (cd (cd (dk d1 0) 1) (bo (bp (dk d1 1)))))] [])else none)else none)else none)else none)else(k2 [dk d1 2,dk d1 3] []))
def Yw (a0:C) (k1:KD R):Option R:=jn (fun d1 m1=>(k1 [dk d1 1] [])) (fun k2=>(BU N (UW N k2) [a0,bt 0,eg [eg (db 32 (eg (db 16 (bt 0)))),eg (db 32 (eg (db 16 (bt 0))))],eg [eg (db 32 (eg (db 16 (bt 0)))),eg (db 32 (eg (db 16 (bt 0))))]] []))
def Qq:=lid "" (@Yw R N)
theorem oC {R N a0 k}:@Qq R N a0 k=Yw N a0 k:=by unfold Qq;rw[Ag]
def q2Y:OvG R:=BS [DI] (Cw (Qq N)) (Ca DI)
theorem q2Z:okX 78 (@q2Y R N):=BW Ah N [(78,[(0,[(1,5)])])] [(78,[([1,0,1,1],(Bm [2,3] [])),
  ([4,1,0,1,1],(Bm [1,2,3] [(5,.d (.int .i64))])),
  ([9],⟨[],[(2,.as (.ptr (.l 2) [] DI))],[],[(.l 2,.box (.d DI))],[],[]⟩)])] (fun _ _=>oC)
def UX {R:Type} (N:Nat) (k2:KD R):KD R->KD R:=fun k3 d2 m2=>(bif decide (bp (dk d2 2)<bp (dk d2 1))then(if 0<=bp (dk d2 2)/\bp (dk d2 2)<(↑(bn (bq (dk d2 0))):Int)then(bif dj (bn (bq (dk d2 5))) (bn (bq (dk d2 5)))then(if(bn (bq (dk d2 5))+1)*32<=140737488355328/\bn (bq (dk d2 5))+1<=9223372036854775807 then(bif dj (bn (bq (dk d2 5))+1) (bn (bq (dk d2 5)++[dt (bq (dk d2 0)) (bo (bp (dk d2 2))) gj]))then(k3 [dk d2 0,dk d2 1,bt (bw ca (bp (dk d2 2)+1)),dk d2 3,dk d2 4,cz (bq (dk d2 5)++[dt (bq (dk d2 0)) (bo (bp (dk d2 2))) gj]),dk d2 6] [])else none)else none)else none)else none)else(k2 [dk d2 3,dk d2 4,cz (bq (dk d2 5)),dk d2 6] []))
def Yx (a0:C) (k1:KD R):Option R:=Qq N (cd a0 0) (fun d1 m1=>(jn (fun d2 m2=>(k1 [eg [dk d2 0,dk d2 1,cz (bq (dk d2 2))]] [])) (fun k2=>(BU N (UX N k2) [cd a0 2,bt (↑(bn (bq (cd a0 2))):Int),bt 0,dk d1 0,cd a0 1,cz [],eg [eg [eg (db 32 (eg (db 16 (bt 0)))),eg (db 32 (eg (db 16 (bt 0))))],AL (cg di),cz []]] []))))
def Ny:=lid "" (@Yx R N)
theorem oD {R N a0 k}:@Ny R N a0 k=Yx N a0 k:=by unfold Ny;rw[Ag]
def q21:OvG R:=BS [Ci] (Cw (Ny N)) (Ca Ci)
theorem q22:okX 61 (@q21 R N):=BW (AP (q2Z N) <| Ah) N [(61,[(0,[(1,5)]),(1,[(8,7)])])] [(61,[([1,0,1,1],⟨[2,3],[],[],[(.l 3,.box (.agg Ci [.d DI,.d (.int .u32),(.ts 32 (.arr 32 (.int .u8)))]))],[],[]⟩),
  ([4,1,0,1,1],⟨[2,3,13,14],[(15,.d (.int .i64))],[],[(.l 3,.box (.agg Ci [.d DI,.d (.int .u32),(.ts 32 (.arr 32 (.int .u8)))]))],[],[]⟩),
  ([9],⟨[],[(2,.as (.ptr (.l 2) [] Ci))],[],[(.l 2,.box (.d Ci))],[],[]⟩)])] (fun _ _=>oD)
def ZC (a0:C) (k1:KD R):Option R:=Qu N (cd a0 0) (fun d1 m1=>(Ny N (cd (cd a0 1) (bo 0)) (fun d2 m2=>(Ny N (cd (cd a0 1) (bo 1)) (fun d3 m3=>(k1 [eg [dk d1 0,dp (dp (AL (dc 2 Ci)) 0 (dk d2 0)) 1 (dk d3 0)]] []))))))
def Nz:=lid "" (@ZC R N)
theorem oP {R N a0 k}:@Nz R N a0 k=ZC N a0 k:=by unfold Nz;rw[Ag]
def q3h:OvG R:=BS [Ch] (Cw (Nz N)) (Ca Ch)
theorem q3i:okX 34 (@q3h R N):=BW (AP (q3e N) <| AP (q22 N) <| Ah) N [(34,[(0,[(1,5)]),(1,[(5,7),(9,7),(13,7)])])] [(34,[([9],⟨[],[(2,.as (.ptr (.l 2) [] Ch))],[],[(.l 2,.box (.d Ch))],[],[]⟩)])] (fun _ _=>oP)
def Zm {R:Type} (N:Nat) (k1:KD R):Option R:=k1 [dp (eg [eg (db 8 (bt 0)),eg (db 64 (bt 0)),bt 0]) 0 (dp (dp (dp (dp (dp (dp (dp (dp (AL (dc 8 (cg di))) 0 (bt 1779033703)) 1 (bt 3144134277)) 2 (bt 1013904242)) 3 (bt 2773480762)) 4 (bt 1359893119)) 5 (bt 2600822924)) 6 (bt 528734635)) 7 (bt 1541459225))] []
def RR:=lid "" (@Zm R N)
theorem qR {R N k}:@RR R N k=Zm N k:=by unfold RR;rw[Ag]
def q4c:OvG R:=BS [] (fun a=>RR N) fun a K d1 m1=>K (V.ptr (dg 1) [] Cq) [(dg 1,O.box (V.d Cq (dk d1 0)))]
theorem q4d:okX 141 (@q4c R N):=BW Ah N [] [(141,[([9],⟨[],[(0,.as (.ptr (.l 1) [] Cq))],[],[(.l 1,.box (.d Cq))],[],[]⟩)])] (fun _ _=>qR)
def Ur {R:Type} (N:Nat) (k2:KD R):KD R->KD R:=fun k3 d1 m1=>(bif decide (bp (dk d1 3)<bp (dk d1 1))then(if 0<=bp (dk d1 3)/\bp (dk d1 3)<(↑(bn (bq (dk d1 0))):Int)then(k3 [dk d1 0,dk d1 1,bt (CH rm di (bw di (bp (dk d1 2)*2^min (bo 8) 32)) (bw di (bp (dt (bq (dk d1 0)) (bo (bp (dk d1 3))) gj)))),bt (bw ca (bp (dk d1 3)+1))] [])else none)else(k2 [dk d1 2] []))
def Zq (a0:C) (k1:KD R):Option R:=if jx 0<=0/\jx 0<=4/\4<=(↑(bn (bq a0)):Int)then(jn (fun d1 m1=>(k1 [dk d1 0] [])) (fun k2=>(BU N (Ur N k2) [cz (cut (bq a0) 0 4),bt (↑(bn (cut (bq a0) 0 4)):Int),bt 0,bt 0] [])))else none
def RT:=lid "" (@Zq R N)
theorem qV {R N a0 k}:@RT R N a0 k=Zq N a0 k:=by unfold RT;rw[Ag]
def q4j:OvG R:=BS [.slice 1 (.int .u8)] (Cw (RT N)) (Ca (cg di))
theorem q4k:okX 193 (@q4j R N):=BW Ah N [] [(193,[([1,0,1,1],(Bc [(3,.d (.int .u32))])),
  ([4,1,0,1,1],(Bm [7,8] [(3,.d (.int .u32)),(9,.d (.int .i64))])),
  ([9],(Bc [(2,.d (.int .u32))]))])] (fun _ _=>qV)
def Zo {R:Type} (N:Nat) (k1:KD R):Option R:=k1 [dp (dp (dp (dp (dp (dp (dp (dp (dp (dp (dp (dp (dp (dp (dp (dp (dp (dp (dp (dp (dp (dp (dp (dp (dp (dp (dp (dp (dp (dp (dp (dp (dp (dp (dp (dp (dp (dp (dp (dp (dp (dp (dp (dp (dp (dp (dp (dp (dp (dp (dp (dp (dp (dp (dp (dp (dp (dp (dp (dp (dp (dp (dp (dp (AL (dc 64 (cg di))) 0 (bt 1116352408)) 1 (bt 1899447441)) 2 (bt 3049323471)) 3 (bt 3921009573)) 4 (bt 961987163)) 5 (bt 1508970993)) 6 (bt 2453635748)) 7 (bt 2870763221)) 8 (bt 3624381080)) 9 (bt 310598401)) 10 (bt 607225278)) 11 (bt 1426881987)) 12 (bt 1925078388)) 13 (bt 2162078206)) 14 (bt 2614888103)) 15 (bt 3248222580)) 16 (bt 3835390401)) 17 (bt 4022224774)) 18 (bt 264347078)) 19 (bt 604807628)) 20 (bt 770255983)) 21 (bt 1249150122)) 22 (bt 1555081692)) 23 (bt 1996064986)) 24 (bt 2554220882)) 25 (bt 2821834349)) 26 (bt 2952996808)) 27 (bt 3210313671)) 28 (bt 3336571891)) 29 (bt 3584528711)) 30 (bt 113926993)) 31 (bt 338241895)) 32 (bt 666307205)) 33 (bt 773529912)) 34 (bt 1294757372)) 35 (bt 1396182291)) 36 (bt 1695183700)) 37 (bt 1986661051)) 38 (bt 2177026350)) 39 (bt 2456956037)) 40 (bt 2730485921)) 41 (bt 2820302411)) 42 (bt 3259730800)) 43 (bt 3345764771)) 44 (bt 3516065817)) 45 (bt 3600352804)) 46 (bt 4094571909)) 47 (bt 275423344)) 48 (bt 430227734)) 49 (bt 506948616)) 50 (bt 659060556)) 51 (bt 883997877)) 52 (bt 958139571)) 53 (bt 1322822218)) 54 (bt 1537002063)) 55 (bt 1747873779)) 56 (bt 1955562222)) 57 (bt 2024104815)) 58 (bt 2227730452)) 59 (bt 2361852424)) 60 (bt 2428436474)) 61 (bt 2756734187)) 62 (bt 3204031479)) 63 (bt 3329325298)] []
def RS:=lid "" (@Zo R N)
theorem qU {R N k}:@RS R N k=Zo N k:=by unfold RS;rw[Ag]
def q4f:OvG R:=BS [] (fun a=>RS N) (Ca (dc 64 (cg di)))
theorem q4g:okX 194 (@q4f R N):=BW Ah N [] [(194,[([9],⟨[],[(0,.as (.ptr (.l 0) [] (.arr 64 (.int .u32))))],[],[(.l 0,.box (.d (.arr 64 (.int .u32))))],[],[]⟩)])] (fun _ _=>qU)
def Ze {R:Type} (N:Nat) (a0 a1:C) (k1:KD R):Option R:=if 0<=bw bu (32-CH fv bu (bw bu (bp a1)) 31)then(k1 [bt (CH rm di (bw di (bp a0*2^min (bo (CH fv bu (bw bu (bp a1)) 31)) 32)) (fp (bp a0) (2^min (bo (bw bu (32-CH fv bu (bw bu (bp a1)) 31))) 32)))] [])else none
def MJ:=lid "" (@Ze R N)
theorem qG {R N a0 a1 k}:@MJ R N a0 a1 k=Ze N a0 a1 k:=by unfold MJ;rw[Ag]
def q3Q:OvG R:=BS [.int .u32,.int .i64] (DY (MJ N)) (Ca (cg di))
theorem q3R:okX 204 (@q3Q R N):=BW Ah N [] [(204,[([9],(Bc [(4,.d (.int .u32))]))])] (fun _ _=>qG)
def Uq (a0 a1 a2 a3 a4:C) (k1:KD R):Option R:=MJ N a0 (bt (bw ca (0-bp a3))) (fun d1 m1=>(jn (fun d2 m2=>(MJ N (dk d2 0) (bt (bw ca (0-bp (dk d2 1)))) (fun d3 m3=>(MJ N (dk d2 0) (bt (bw ca (0-bp (dk d2 2)))) (fun d4 m4=>(k1 [bt (CH nz di (CH nz di (bp (dk d3 0)) (bp (dk d4 0))) (bp (dk d2 3)))] [])))))) (fun k2=>(bif ek a4 then(if 0<=bp a3 then(k2 [a0,a1,a2,bt (fp (bp a0) (2^min (bo (bp a3)) 32))] [])else none)else(k2 [a0,a1,a2,dk d1 0] [])))))
def Ks:=lid "" (@Uq R N)
theorem Zp {R N a0 a1 a2 a3 a4 k}:@Ks R N a0 a1 a2 a3 a4 k=Uq N a0 a1 a2 a3 a4 k:=by unfold Ks;rw[Ag]
def q4h:OvG R:=BS [.int .u32,.int .i64,.int .i64,.int .i64,.bool] (fun a=>Ks N (a 0) (a 1) (a 2) (a 3) (a 4)) (Ca (cg di))
theorem q4i:okX 195 (@q4h R N):=BW (AP (q3R N) <| Ah) N [] [(195,[([1,0,1,1],(Bm [0,1,2] [(11,.d (.int .u32))])),
  ([9],(Bc [(10,.d (.int .u32))]))])] (fun _ _=>Zp)
def q35:List Sh:=[.as (.ptr (.g (.l 1)) [] Cq)]
def q38:List (Key × OSh):=[(.l 1,.box (.d Cq))]
def Um {R:Type} (N:Nat) (k2:KD R):KD R->KD R:=fun k3 d4 m4=>(bif decide (bp (dk d4 0)<8)then(if 0<=bp (dk d4 0)/\bp (dk d4 0)<8 then(if 0<=bp (dk d4 0)/\bp (dk d4 0)<8 then(if 0<=bp (dk d4 0)/\bp (dk d4 0)<8 then(k3 [bt (bw ca (bp (dk d4 0)+1)),dp (dk d4 1) 0 (dp (cd (dk d4 1) 0) (bo (bp (dk d4 0))) (bt (bw di (bp (cd (cd (dk d4 1) 0) (bo (bp (dk d4 0))))+bp (cd (dk d4 2) (bo (bp (dk d4 0)))))))),dk d4 2] [])else none)else none)else none)else(k2 [dk d4 1] []))
def RO (k2:KD R):KD R->KD R:=fun k3 d3 m3=>(bif decide (bp (dk d3 1)<64)then(if 0<=bp (dk d3 1)/\bp (dk d3 1)<64 then(jn (fun d4 m4=>(Ks N (cd (dk d4 6) (bo 4)) (bt 6) (bt 11) (bt 25) (dv false) (fun d5 m5=>(if 0<=bp (dk d4 1)/\bp (dk d4 1)<16 then(Ks N (cd (dk d4 6) (bo 0)) (bt 2) (bt 13) (bt 22) (dv false) (fun d6 m6=>(k3 [dk d4 2,bt (bw ca (bp (dk d4 3)+1)),dk d4 4,dk d4 5,dp (dp (dp (dp (dp (dp (dp (dp (AL (dc 8 (cg di))) 0 (bt (bw di (bw di (bw di (bw di (bw di (bw di (bp (cd (dk d4 6) (bo 7))+bp (dk d5 0))+CH nz di (bp (cd (dk d4 6) (bo 6))) (CH fv di (bp (cd (dk d4 6) (bo 4))) (CH nz di (bp (cd (dk d4 6) (bo 5))) (bp (cd (dk d4 6) (bo 6))))))+bp (dk d4 0))+bp (cd (dk d4 5) (bo (bp (dk d4 1)))))+bp (dk d6 0))+CH rm di (CH fv di (bp (cd (dk d4 6) (bo 0))) (bp (cd (dk d4 6) (bo 1)))) (CH fv di (bp (cd (dk d4 6) (bo 2))) (CH rm di (bp (cd (dk d4 6) (bo 0))) (bp (cd (dk d4 6) (bo 1))))))))) 1 (cd (dk d4 6) (bo 0))) 2 (cd (dk d4 6) (bo 1))) 3 (cd (dk d4 6) (bo 2))) 4 (bt (bw di (bp (cd (dk d4 6) (bo 3))+bw di (bw di (bw di (bw di (bp (cd (dk d4 6) (bo 7))+bp (dk d5 0))+CH nz di (bp (cd (dk d4 6) (bo 6))) (CH fv di (bp (cd (dk d4 6) (bo 4))) (CH nz di (bp (cd (dk d4 6) (bo 5))) (bp (cd (dk d4 6) (bo 6))))))+bp (dk d4 0))+bp (cd (dk d4 5) (bo (bp (dk d4 1))))))))) 5 (cd (dk d4 6) (bo 4))) 6 (cd (dk d4 6) (bo 5))) 7 (cd (dk d4 6) (bo 6))] [])))else none)))) (fun k4=>(bif decide (16<=bp (dk d3 1))then(if 0<=dz (bp (dk d3 1)) 16/\dz (bp (dk d3 1)) 16<16 then(if 0<=dz (bw ca (bp (dk d3 1)+1)) 16/\dz (bw ca (bp (dk d3 1)+1)) 16<16 then(Ks N (cd (dk d3 3) (bo (dz (bw ca (bp (dk d3 1)+1)) 16))) (bt 7) (bt 18) (bt 3) (dv true) (fun d4 m4=>(if 0<=dz (bw ca (bp (dk d3 1)+9)) 16/\dz (bw ca (bp (dk d3 1)+9)) 16<16 then(if 0<=dz (bw ca (bp (dk d3 1)+14)) 16/\dz (bw ca (bp (dk d3 1)+14)) 16<16 then(Ks N (cd (dk d3 3) (bo (dz (bw ca (bp (dk d3 1)+14)) 16))) (bt 17) (bt 19) (bt 10) (dv true) (fun d5 m5=>(if 0<=dz (bp (dk d3 1)) 16/\dz (bp (dk d3 1)) 16<16 then(k4 [cd (dk d3 0) (bo (bp (dk d3 1))),bt (dz (bp (dk d3 1)) 16),dk d3 0,dk d3 1,dk d3 2,dp (dk d3 3) (bo (dz (bp (dk d3 1)) 16)) (bt (bw di (bp (cd (dk d3 3) (bo (dz (bp (dk d3 1)) 16)))+bw di (bw di (bp (dk d4 0)+bp (cd (dk d3 3) (bo (dz (bw ca (bp (dk d3 1)+9)) 16))))+bp (dk d5 0))))),dk d3 4] [])else none)))else none)else none)))else none)else none)else(k4 [cd (dk d3 0) (bo (bp (dk d3 1))),bt (dz (bp (dk d3 1)) 16),dk d3 0,dk d3 1,dk d3 2,dk d3 3,dk d3 4] []))))else none)else(k2 [dk d3 2,dk d3 4] []))
def Uo (k2:KD R):KD R->KD R:=fun k3 d1 m1=>(bif decide (bp (dk d1 0)<16)then(if 0<=bw ca (4*bp (dk d1 0))/\bw ca (4*bp (dk d1 0))<=64/\jx 64<=64 then(RT N (cz (dy (bo (64-bw ca (4*bp (dk d1 0)))) (fi (bo (bw ca (4*bp (dk d1 0)))) (bq (cd (dk d1 1) 1))))) (fun d2 m2=>(if 0<=bp (dk d1 0)/\bp (dk d1 0)<16 then(k3 [bt (bw ca (bp (dk d1 0)+1)),dk d1 1,dp (dk d1 2) (bo (bp (dk d1 0))) (dk d2 0)] [])else none)))else none)else(k2 [dk d1 1,dk d1 2] []))
def Zk (b0:C) (k1:KD R):Option R:=jn (fun d1 m1=>(RS N (fun d2 m2=>(jn (fun d3 m3=>(jn (fun d4 m4=>(k1 [dk d4 0] [])) (fun k2=>(BU N (Um N k2) [bt 0,dk d3 0,dk d3 1] [])))) (fun k2=>(BU N (RO N k2) [dk d2 0,bt 0,dk d1 0,dk d1 1,cd (dk d1 0) 0] [])))))) (fun k2=>(BU N (Uo N k2) [bt 0,b0,AL (dc 16 (cg di))] []))
def RP:=lid "" (@Zk R N)
theorem qO {R N b0 k}:@RP R N b0 k=Zk N b0 k:=by unfold RP;rw[Ag]
def q36:OvG R:=CP q35 q38 (fun ds ms=>RP N (dk ds 0)) fun ds ms K d1 m1=>K (V.tup []) [(Key.g (dg 1),O.box (V.d Cq (dk d1 0)))]
theorem q37:okX 174 (@q36 R N):=CT (AP (q4k N) <| AP (q4g N) <| AP (q4i N) <| Ah) N [(174,[(12,[(46,7),(58,7)]),(15,[(91,7)]),(16,[(104,7)]),(4,[(22,8)])])] [(174,[([1,0,1],⟨[0,2],[],[.g (.l 1)],[],[],[]⟩),
  ([4,1,0,1],⟨[0,2],[(12,.d (.int .i64))],[.g (.l 1)],[],[],[]⟩),
  ([1,0,1,1,1],⟨[0,4],[],[.g (.l 1)],[],[],[]⟩),
  ([4,1,0,1,1,1],⟨[0,2,4,29],[(30,.d (.int .i64))],[.g (.l 1)],[],[],[]⟩),
  ([1,0,1,1,4,0,1,1,5,4,1,0,1,1,1],⟨[0,2,4,6,7,29,30],[],[.g (.l 1)],[],[],[]⟩),
  ([1,1,1,1,1],⟨[0],[],[.g (.l 1)],[],[],[]⟩),
  ([4,1,1,1,1,1],⟨[0,4],[(126,.d (.int .i64))],[.g (.l 1)],[],[],[]⟩),
  ([9],⟨[],[],[.g (.l 1)],[],[],[]⟩)])] (fun _ _ _=>qO)
def q39:List Sh:=[.as (.ptr (.g (.l 1)) [] Cq),.d (.slice 1 (.int .u8))]
def q4b:List (Key × OSh):=[(.l 1,.box (.d Cq))]
def RQ (k2:KD R):KD R->KD R:=fun k3 d1 m1=>(bif decide (0<(↑(bn (bq (dk d1 0))):Int))then(if 0<=dz (bp (cd (dk d1 1) 2)) 64/\dz (bp (cd (dk d1 1) 2)) 64<=64/\jx 64<=64 then(if 0<bo (64-dz (bp (cd (dk d1 1) 2)) 64)then(if 0<=(↑(min (bn (bq (dk d1 0))) (bo (64-dz (bp (cd (dk d1 1) 2)) 64))):Int)/\(↑(min (bn (bq (dk d1 0))) (bo (64-dz (bp (cd (dk d1 1) 2)) 64))):Int)<=(↑(bn (bq (dk d1 0))):Int)/\(↑(bn (bq (dk d1 0))):Int)<=(↑(bn (bq (dk d1 0))):Int)then(jn (fun d2 m2=>(k3 [dk d2 0,dk d2 1] [])) (fun k4=>(bif decide (dz (bp (cd (dp (dp (dk d1 1) 1 (eg (EZ (bq (cd (dk d1 1) 1)) (bo (dz (bp (cd (dk d1 1) 2)) 64)) (bo (64-dz (bp (cd (dk d1 1) 2)) 64)) (bq (dk d1 0))))) 2 (bt (bw bu (bp (cd (dp (dk d1 1) 1 (eg (EZ (bq (cd (dk d1 1) 1)) (bo (dz (bp (cd (dk d1 1) 2)) 64)) (bo (64-dz (bp (cd (dk d1 1) 2)) 64)) (bq (dk d1 0))))) 2)+bw bu (↑(min (bn (bq (dk d1 0))) (bo (64-dz (bp (cd (dk d1 1) 2)) 64))):Int))))) 2)) 64=0)then(RP N (dp (dp (dk d1 1) 1 (eg (EZ (bq (cd (dk d1 1) 1)) (bo (dz (bp (cd (dk d1 1) 2)) 64)) (bo (64-dz (bp (cd (dk d1 1) 2)) 64)) (bq (dk d1 0))))) 2 (bt (bw bu (bp (cd (dp (dk d1 1) 1 (eg (EZ (bq (cd (dk d1 1) 1)) (bo (dz (bp (cd (dk d1 1) 2)) 64)) (bo (64-dz (bp (cd (dk d1 1) 2)) 64)) (bq (dk d1 0))))) 2)+bw bu (↑(min (bn (bq (dk d1 0))) (bo (64-dz (bp (cd (dk d1 1) 2)) 64))):Int))))) (fun d2 m2=>(k4 [cz (cut (bq (dk d1 0)) (↑(min (bn (bq (dk d1 0))) (bo (64-dz (bp (cd (dk d1 1) 2)) 64))):Int) (↑(bn (bq (dk d1 0))):Int)),dk d2 0] [])))else(k4 [cz (cut (bq (dk d1 0)) (↑(min (bn (bq (dk d1 0))) (bo (64-dz (bp (cd (dk d1 1) 2)) 64))):Int) (↑(bn (bq (dk d1 0))):Int)),dp (dp (dk d1 1) 1 (eg (EZ (bq (cd (dk d1 1) 1)) (bo (dz (bp (cd (dk d1 1) 2)) 64)) (bo (64-dz (bp (cd (dk d1 1) 2)) 64)) (bq (dk d1 0))))) 2 (bt (bw bu (bp (cd (dp (dk d1 1) 1 (eg (EZ (bq (cd (dk d1 1) 1)) (bo (dz (bp (cd (dk d1 1) 2)) 64)) (bo (64-dz (bp (cd (dk d1 1) 2)) 64)) (bq (dk d1 0))))) 2)+bw bu (↑(min (bn (bq (dk d1 0))) (bo (64-dz (bp (cd (dk d1 1) 2)) 64))):Int))))] []))))else none)else none)else none)else(k2 [dk d1 1] []))
def Zl (a0 b0:C) (k1:KD R):Option R:=jn (fun d1 m1=>(k1 [dk d1 0] [])) (fun k2=>(BU N (RQ N k2) [a0,b0] []))
def MK:=lid "" (@Zl R N)
theorem qQ {R N a0 b0 k}:@MK R N a0 b0 k=Zl N a0 b0 k:=by unfold MK;rw[Ag]
def q4a:OvG R:=CP q39 q4b (fun ds ms=>MK N (dk ds 0) (dk ds 1)) fun ds ms K d1 m1=>K (V.tup []) [(Key.g (dg 1),O.box (V.d Cq (dk d1 0)))]
theorem qP:okX 159 (@q4a R N):=CT (AP (q37 N) <| Ah) N [] [(159,[([],⟨[0],[],[.g (.l 1)],[],[],[]⟩),
  ([4],⟨[0],[(1,.d (.slice 1 (.int .u8)))],[.g (.l 1)],[],[],[]⟩),
  ([1,1,1,1,4,1,5,4],⟨[0,1],[],[.g (.l 1)],[],[],[]⟩),
  ([9],⟨[],[],[.g (.l 1)],[],[],[]⟩)])] (fun _ _ _=>qQ)
def q31:List Sh:=[.as (.ptr (.g (.l 1)) [] Cq),.d (.slice 24 (.slice 1 (.int .u8)))]
def q34:List (Key × OSh):=[(.l 1,.box (.d Cq))]
def Ul (k2:KD R):KD R->KD R:=fun k3 d1 m1=>(bif decide (bp (dk d1 2)<bp (dk d1 1))then(if 0<=bp (dk d1 2)/\bp (dk d1 2)<(↑(bn (bq (dk d1 0))):Int)then(MK N (dt (bq (dk d1 0)) (bo (bp (dk d1 2))) gj) (dk d1 3) (fun d2 m2=>(k3 [dk d1 0,dk d1 1,bt (bw ca (bp (dk d1 2)+1)),dk d2 0] [])))else none)else(k2 [dk d1 3] []))
def Zj (a0 b0:C) (k1:KD R):Option R:=jn (fun d1 m1=>(k1 [dk d1 0] [])) (fun k2=>(BU N (Ul N k2) [a0,bt (↑(bn (bq a0)):Int),bt 0,b0] []))
def OH:=lid "" (@Zj R N)
theorem qN {R N a0 b0 k}:@OH R N a0 b0 k=Zj N a0 b0 k:=by unfold OH;rw[Ag]
def q32:OvG R:=CP q31 q34 (fun ds ms=>OH N (dk ds 0) (dk ds 1)) fun ds ms K d1 m1=>K (V.tup []) [(Key.g (dg 1),O.box (V.d Cq (dk d1 0)))]
theorem q33:okX 142 (@q32 R N):=CT (AP (qP N) <| Ah) N [] [(142,[([1,1],⟨[0],[],[.g (.l 1)],[],[],[]⟩),
  ([4,1,1],⟨[0,8,9],[(10,.d (.int .i64))],[.g (.l 1)],[],[],[]⟩),
  ([9],⟨[],[],[.g (.l 1)],[],[],[]⟩)])] (fun _ _ _=>qN)
def Zn {R:Type} (N:Nat) (a0:C) (k1:KD R):Option R:=k1 [cz [bt (bw df (fp (bp a0) (2^min (bo 24) 32))),bt (bw df (fp (bp a0) (2^min (bo 16) 32))),bt (bw df (fp (bp a0) (2^min (bo 8) 32))),bt (bw df (bp a0))]] []
def Kq:=lid "" (@Zn R N)
theorem qT {R N a0 k}:@Kq R N a0 k=Zn N a0 k:=by unfold Kq;rw[Ag]
def q4e:OvG R:=BS [.int .u32] (Cw (Kq N)) fun a K d1 m1=>K (V.ts 1 (cg df) (bq (dk d1 0))) []
theorem qS:okX 143 (@q4e R N):=BW Ah N [(143,[(1,[(14,4)])])] [(143,[([9],(Bc [(2,.sl 1 (.int .u8) 5002)]))])] (fun _ _=>qT) fun a K=>(show _=jn (fun d1 m1=>(bif dj (bn (bq (dk d1 0))) (bn (bq (dk d1 0)))then
  (K (V.ts 1 (cg df) (bq (dk d1 0))) [])
 else
  none)) _ by kernel_rfl).trans (congrArg (fun k=>jn k _) (funext fun _=>funext fun _=>by simp only[ct,cond_true]))
def q3X:List Sh:=[.as (.ptr (.g (.l 1)) [] Cq)]
def q30:List (Key × OSh):=[(.l 1,.box (.d Cq))]
def Uk (k2:KD R):KD R->KD R:=fun k3 d5 m5=>(bif decide (bp (dk d5 1)<8)then(if 0<=bp (dk d5 1)/\bp (dk d5 1)<8 then(if 0<=bw ca (4*bp (dk d5 1))/\bw ca (4*bp (dk d5 1))<=32/\jx 32<=32 then(Kq N (cd (dk d5 0) (bo (bp (dk d5 1)))) (fun d6 m6=>(if 0<bo (32-bw ca (4*bp (dk d5 1)))then(k3 [dk d5 0,bt (bw ca (bp (dk d5 1)+1)),dk d5 2,dk d5 3,eg (EZ (bq (dk d5 4)) (bo (bw ca (4*bp (dk d5 1)))) (bo (32-bw ca (4*bp (dk d5 1)))) (bq (dk d6 0)))] [])else none)))else none)else none)else(k2 [dk d5 2,dk d5 3,dk d5 4] []))
def Zi (b0:C) (k1:KD R):Option R:=if 0<=bw bu (64-dz (bw bu (bp (cd b0 2)+8)) 64)/\bw bu (64-dz (bw bu (bp (cd b0 2)+8)) 64)<=bw bu (64-dz (bw bu (bp (cd b0 2)+8)) 64)/\bw bu (64-dz (bw bu (bp (cd b0 2)+8)) 64)<=9223372036854775807/\bo (bw bu (64-dz (bw bu (bp (cd b0 2)+8)) 64))*1<=140737488355328 then(if jx 0<=0/\0<(↑(bo (bw bu (64-dz (bw bu (bp (cd b0 2)+8)) 64))):Int)then(MK N (cz (dy (bo (bw bu (64-dz (bw bu (bp (cd b0 2)+8)) 64))) (fi 0 (List.set (db (bo (bw bu (64-dz (bw bu (bp (cd b0 2)+8)) 64))) (AL (cg df))) 0 (bt 128))))) b0 (fun d1 m1=>(Kq N (bt (bw di (fp (bw bu (bp (cd b0 2)*8)) (2^min (bo 32) 64)))) (fun d2 m2=>(Kq N (bt (bw di (bw bu (bp (cd b0 2)*8)))) (fun d3 m3=>(bif dj (bn (bq (dk d2 0))) (bn (bq (dk d2 0)))then(if(bn (bq (dk d2 0))+bn (bq (dk d3 0)))*1<=140737488355328/\bn (bq (dk d2 0))+bn (bq (dk d3 0))<=9223372036854775807 then(MK N (cz (bq (dk d2 0)++bq (dk d3 0))) (dk d1 0) (fun d4 m4=>(jn (fun d5 m5=>(k1 [dk d5 2,dk d5 0] [])) (fun k2=>(BU N (Uk N k2) [cd (dk d4 0) 0,bt 0,b0,AL (dc 32 (cg df)),AL (dc 32 (cg df))] [])))))else none)else none)))))))else none)else none
def RN:=lid "" (@Zi R N)
theorem qM {R N b0 k}:@RN R N b0 k=Zi N b0 k:=by unfold RN;rw[Ag]
def q3Y:OvG R:=CP q3X q30 (fun ds ms=>RN N (dk ds 0)) fun ds ms K d1 m1=>K (V.d (dc 32 (cg df)) (dk d1 0)) [(Key.g (dg 1),O.box (V.d Cq (dk d1 1)))]
theorem q3Z:okX 144 (@q3Y R N):=CT (AP (qS N) <| AP (qP N) <| Ah) N [(144,[(7,[(27,100),(3,16)]),(8,[(3,16)])])] [(144,[([1,0,1,1,1,1,1,1,1,1,1],⟨[0,2,6],[],[.g (.l 1)],[],[],[]⟩),
  ([4,1,0,1,1,1,1,1,1,1,1,1],⟨[0,2,6,38],[(39,.d (.int .i64))],[.g (.l 1)],[],[],[]⟩),
  ([9],⟨[],[(2,.as (.ptr (.l 2) [] (.arr 32 (.int .u8))))],[.g (.l 1)],[(.l 2,.box (.d (.arr 32 (.int .u8))))],[],[]⟩)])] (fun _ _ _=>qM)
def Uj (k2:KD R):KD R->KD R:=fun k3 d3 m3=>(bif decide (bp (dk d3 2)<bp (dk d3 1))then(if 0<=bp (dk d3 2)/\bp (dk d3 2)<(↑(bn (bq (dk d3 0))):Int)then(Kq N (bt (bw di (↑(bn (bq (dt (bq (dk d3 0)) (bo (bp (dk d3 2))) gj))):Int))) (fun d4 m4=>(OH N (cz [cz (bq (dk d4 0)),dt (bq (dk d3 0)) (bo (bp (dk d3 2))) gj]) (dk d3 4) (fun d5 m5=>(k3 [dk d3 0,dk d3 1,bt (bw ca (bp (dk d3 2)+1)),dk d3 3,dk d5 0] [])))))else none)else(k2 [dk d3 3,dk d3 4] []))
def Zg (a0 a1:C) (k1:KD R):Option R:=RR N (fun d1 m1=>(OH N (cz [cz [a0,bt (bw df (↑(bn (bq a1)):Int))]]) (dk d1 0) (fun d2 m2=>(jn (fun d3 m3=>(RN N (dk d3 1) (fun d4 m4=>(k1 [dk d4 0] [])))) (fun k2=>(BU N (Uj N k2) [a1,bt (↑(bn (bq a1)):Int),bt 0,AL (dc 32 (cg df)),dk d2 0] []))))))
def Jv:=lid "" (@Zg R N)
theorem qK {R N a0 a1 k}:@Jv R N a0 a1 k=Zg N a0 a1 k:=by unfold Jv;rw[Ag]
def q3U:OvG R:=BS [.int .u8,.slice 24 (.slice 1 (.int .u8))] (DY (Jv N)) (Ca (dc 32 (cg df)))
theorem RL:okX 125 (@q3U R N):=BW (AP (q4d N) <| AP (q33 N) <| AP (qS N) <| AP (q3Z N) <| Ah) N [(125,[(2,[(5,16)]),(6,[(5,16)]),(8,[(5,16)])])] [(125,[([1,0,1,1,1],(Bm [4,5] [])),
  ([4,1,0,1,1,1],(Bm [4,5,17,18] [(19,.d (.int .i64))])),
  ([9],⟨[],[(4,.as (.ptr (.l 4) [] (.arr 32 (.int .u8))))],[],[(.l 4,.box (.d (.arr 32 (.int .u8))))],[],[]⟩)])] (fun _ _=>qK)
def W64 (a:Int):Prop:=0<=a/\a<18446744073709551616
theorem wrap_u8 (x:Int):IntKind.u8.wrap x=x%256:=by simp[bw,uq,tw]
theorem wrap_i64 {n:Int} (h: -9223372036854775808<=n) (h2:n<9223372036854775808):IntKind.i64.wrap n=n:=je _ (by omega)
theorem Hd {l:List C} {i:Nat} (h:i<l.length):l.getD i .nil∈l:=by rw[du,cq h];exact uh h
section
variable {R:Type} {N:Nat}
theorem Zd {F:KD R->KD R->List C->List Es->Option R} (inv:Nat->List C->Prop) (P:List C->Prop)
  (step:∀n st,inv n st->(∃st' n',n'<n/\inv n' st'/\∀k rec:KD R,F k rec st []=rec st' [])\/(∃d,P d/\∀k rec:KD R,F k rec st []=k d [])):
  ∀(m n:Nat) (st:List C) (N:Nat),n<=m->inv n st->n<N->∃d,P d/\∀k:KD R,BU N (F k) st []=k d []
 |m,n,st,N,hm,hi,hN=>by
  obtain⟨N,rfl⟩:∃a,N=a+1:=⟨N-1,by omega⟩;rcases step n st hi with⟨st',n',h1,h2,h3⟩|⟨d,h1,h2⟩
  ·match m with
   |0=>omega|m+1=>
    obtain⟨d,h4,h5⟩:=Zd inv P step m n' st' N (by omega) h2 (by omega);exact⟨d,h4,fun k=>by rw[Eb,h3,h5]⟩
  ·exact⟨d,h1,fun k=>by rw[Eb,h2]⟩
theorem Gp {F:KD R->KD R->List C->List Es->Option R} (n:Nat) (inv:Nat->List C->Prop) (P:List C->Prop)
  (step:∀i st,i<n->inv i st->∃st',inv (i+1) st'/\∀k rec:KD R,F k rec st []=rec st' [])
  (stop:∀st,inv n st->∃d,P d/\∀k rec:KD R,F k rec st []=k d [])
  {N:Nat} (hN:n<N) {st:List C} (h0:inv 0 st):∃d,P d/\∀k:KD R,BU N (F k) st []=k d []:=by
 refine Zd (fun m st=>∃i,i+m=n/\inv i st) P (fun m st hi=>?_) n n st N (cn n) ⟨0,by omega,h0⟩ hN;obtain⟨i,h1,h2⟩:=hi;by_cases e:i=n;{subst e;exact .inr (stop st h2)};{obtain⟨st',h3,h4⟩:=step i st (by omega) h2;exact .inl ⟨st',m-1,by omega,⟨i+1,by omega,h3⟩,h4⟩}
theorem eV (x:Int):0<=IntKind.u64.wrap x/\IntKind.u64.wrap x<18446744073709551616:=by
 have:IntKind.u64.wrap x=x%18446744073709551616:=by simp[bw,uq,tw]
 omega
theorem cJ (x:C) (k:Int):∃n:Int,∀k':KD R,MJ N x (.int k) k'=k' [.int n] []:=
 ⟨_,fun k'=>by
  rw[qG];unfold Ze;rw[if_pos (eV _).1]⟩
theorem WD (x:C) (a b c:Int) (f:Bool) (hc:0<=c):∃n:Int,∀k:KD R,Ks N x (.int a) (.int b) (.int c) (.bool f) k=k [.int n] []:=by
 obtain⟨n1,h1⟩:=cJ (R:=R) (N:=N) x (bw ca (0-c));obtain⟨n2,h2⟩:=cJ (R:=R) (N:=N) x (bw ca (0-a));obtain⟨n3,h3⟩:=cJ (R:=R) (N:=N) x (bw ca (0-b));cases f
 ·refine⟨?v1,fun k=>?eq1⟩
  case eq1=>
   rw[Zp];unfold Uq;simp only[AZ,AI,AQ,AR,AV,AF,AW,h1,h2,h3,cond_false];rfl
 ·refine⟨?v2,fun k=>?eq2⟩
  case eq2=>
   rw[Zp];unfold Uq;simp only[AZ,AI,AQ,AR,AV,AF,AW,h1,h2,h3,cond_true,if_pos hc];rfl
theorem q8v (l:List C) (hl:4<=l.length) (hN:10<N):∃n:Int,∀k:KD R,RT N (.slice l) k=k [.int n] []:=by
 have hc:(cut l 0 4).length=4:=by simp[cut];omega
 have key:=Gp (R:=R) (F:=fun k2=>Ur N k2) 4 (fun i st=>∃x:Int,st=[.slice (cut l 0 4),.int 4,.int x,.int i]) (fun d=>∃n:Int,d=[.int n]) ?_ ?_ (N:=N) (by omega) (st:=[.slice (cut l 0 4),.int 4,.int 0,.int (0:Nat)]) ⟨0,rfl⟩
 ·obtain⟨d,⟨n,rfl⟩,h⟩:=key;refine⟨n,fun k=>?_⟩;rw[qV];unfold Zq;have h4:(4:Int)<=(l.length:Int):=by omega
  simp only[Ac,hc,h4,AZ];rw[if_pos ⟨by decide,by decide,trivial⟩];exact h _
 ·rintro i st hi ⟨x,rfl⟩;refine⟨_,⟨?x3,rfl⟩,fun k rec=>?eq3⟩
  case eq3=>
   have h1:(i:Int)<4:=by omega
   have h2:(i:Int)<((4:Nat):Int):=by omega
   unfold Ur;simp only[AI,AQ,AR,AV,AF,Ac,hc,h1,h2,AG,dd,and_self,Ck (show i<4611686018427387904 by omega)];rfl
 ·rintro st ⟨x,rfl⟩;refine⟨_,⟨x,rfl⟩,fun k rec=>?_⟩;unfold Ur;have h:¬((4:Nat):Int)<4:=by decide
  simp only[AI,AQ,AR,AV,AF,h,AG]
theorem JR (x m:Int) (hx:0<=x) (hm:0<m):0<=dz x m/\dz x m<m:=⟨Int.tmod_nonneg _ hx,Int.tmod_lt_of_pos _ hm⟩
theorem q15 (s n:C) (w:List C) (hw:w.length=64) (hN:100<N):∃s',∀k:KD R,RP N (.agg [s,.agg w,n]) k=k [.agg [s',.agg w,n]] []:=by
 obtain⟨d1,⟨x1,rfl⟩,h1⟩:=Gp (R:=R) (F:=fun k2=>Uo N k2) 16 (fun i st=>∃x:C,st=[.int i,.agg [s,.agg w,n],x]) (fun d=>∃x:C,d=[.agg [s,.agg w,n],x])
  (fun i st hi hst=>by
   obtain⟨x,rfl⟩:=hst;have e1:(i:Int)<16:=by omega
   have e2:IntKind.i64.wrap (4*(i:Int))=4*i:=wrap_i64 (by omega) (by omega);have c1:0<=4*(i:Int)/\4*(i:Int)<=64/\jx 64<=64:=⟨by omega,by omega,by decide⟩;obtain⟨v,hv⟩:=q8v (R:=R) (N:=N) (dy (64-4*(i:Int)).toNat (fi (4*(i:Int)).toNat w)) (by simp;omega) (by omega);refine⟨_,⟨?x4,rfl⟩,fun k rec=>?eq4⟩
   case eq4=>
    unfold Uo;simp only[AI,AQ,AR,AF,e1,e2,AG,dd,and_self,Kg,Ap,hv,c1,Ck (show i<4611686018427387904 by omega)];rfl)
  (fun st hst=>by
   obtain⟨x,rfl⟩:=hst;refine⟨_,⟨x,rfl⟩,fun k rec=>?_⟩;unfold Uo;have h:¬((16:Nat):Int)<16:=by decide
   simp only[AI,AQ,AR,AF,h,AG])
  (N:=N) (by omega) (st:=[.int (0:Nat),.agg [s,.agg w,n],AL (.arr 16 (.int .u32))]) ⟨_,rfl⟩
 obtain⟨st0,z5G⟩:∃x:C,∀k:KD R,RS N k=k [x] []:=⟨_,fun k=>by rw[qU];unfold Zo;rfl⟩
 obtain⟨d2,⟨x2,rfl⟩,h2⟩:=Gp (R:=R) (F:=fun k2=>RO N k2) 64 (fun i st=>∃x y:C,st=[st0,.int i,.agg [s,.agg w,n],x,y]) (fun d=>∃y:C,d=[.agg [s,.agg w,n],y])
  (fun i st hi hst=>by
   obtain⟨x,y,rfl⟩:=hst;have e1:(i:Int)<64:=by omega
   have r0:=JR (i:Int) 16 (by omega) (by omega);have q1:IntKind.i64.wrap ((i:Int)+1)=i+1:=wrap_i64 (by omega) (by omega);have q9:IntKind.i64.wrap ((i:Int)+9)=i+9:=wrap_i64 (by omega) (by omega);have q14:IntKind.i64.wrap ((i:Int)+14)=i+14:=wrap_i64 (by omega) (by omega);have r1:=JR ((i:Int)+1) 16 (by omega) (by omega);have r9:=JR ((i:Int)+9) 16 (by omega) (by omega);have r14:=JR ((i:Int)+14) 16 (by omega) (by omega);obtain⟨a1,ha1⟩:=WD (R:=R) (N:=N) (cd y (bo 4)) 6 11 25 false (by omega);obtain⟨a2,ha2⟩:=WD (R:=R) (N:=N) (cd y (bo 0)) 2 13 22 false (by omega);obtain⟨a3,ha3⟩:=WD (R:=R) (N:=N) (cd x (bo (dz ((i:Int)+1) 16))) 7 18 3 true (by omega);obtain⟨a4,ha4⟩:=WD (R:=R) (N:=N) (cd x (bo (dz ((i:Int)+14) 16))) 17 19 10 true (by omega);have e5:((i+1:Nat):Int)=(i:Int)+1:=by omega
   by_cases e2:16<=(i:Int)
   ·refine⟨_,⟨?x5,?y5,rfl⟩,fun k rec=>?eq5⟩
    case eq5=>
     unfold RO;simp only[AZ,AI,AQ,AR,AV,Aa,Aj,Ak,AF,e1,e2,q1,q9,q14,r0,r1,r9,r14,AG,dd,and_self,ha1,ha2,ha3,ha4,e5];rfl
   ·refine⟨_,⟨?x6,?y6,rfl⟩,fun k rec=>?eq6⟩
    case eq6=>
     unfold RO;simp only[AZ,AI,AQ,AR,AV,Aa,Aj,Ak,AF,e1,e2,q1,r0,AG,dd,and_self,ha1,ha2,e5];rfl)
  (fun st hst=>by
   obtain⟨x,y,rfl⟩:=hst;refine⟨_,⟨y,rfl⟩,fun k rec=>?_⟩;unfold RO;have h:¬((64:Nat):Int)<64:=by decide
   simp only[AI,AQ,AR,AV,Aa,AF,h,AG])
  (N:=N) (by omega) (st:=[st0,.int (0:Nat),.agg [s,.agg w,n],x1,s]) ⟨_,_,rfl⟩
 obtain⟨d3,⟨x3,rfl⟩,h3⟩:=Gp (R:=R) (F:=fun k2=>Um N k2) 8 (fun i st=>∃x:C,st=[.int i,.agg [x,.agg w,n],x2]) (fun d=>∃x:C,d=[.agg [x,.agg w,n]])
  (fun i st hi hst=>by
   obtain⟨x,rfl⟩:=hst;have e1:(i:Int)<8:=by omega
   refine⟨_,⟨?x7,rfl⟩,fun k rec=>?eq7⟩
   case eq7=>
    unfold Um;simp only[AI,AQ,AR,AF,e1,AG,dd,and_self,Ow,Ck (show i<4611686018427387904 by omega)];rfl)
  (fun st hst=>by
   obtain⟨x,rfl⟩:=hst;refine⟨_,⟨x,rfl⟩,fun k rec=>?_⟩;unfold Um;have h:¬((8:Nat):Int)<8:=by decide
   simp only[AI,AQ,AR,AF,h,AG])
  (N:=N) (by omega) (st:=[.int (0:Nat),.agg [s,.agg w,n],x2]) ⟨_,rfl⟩
 refine⟨x3,fun k=>?_⟩;rw[qO];unfold Zk;simp only[AZ];refine(h1 _).trans ?_;simp only[z5G,AI,AQ,JC];refine(h2 _).trans ?_;simp only[AI,AQ];exact(h3 _).trans rfl
def HB (m:C):Prop:=∃(s:C) (w:List C) (n:Int),m= .agg [s,.agg w,.int n]/\w.length=64/\W64 n
theorem bR (l:List C) (m:C) (hm:HB m) (hN:l.length+100<N):∃m',HB m'/\∀k:KD R,MK N (.slice l) m k=k [m'] []:=by
 obtain⟨d,⟨m',h1,rfl⟩,h⟩:=Zd (R:=R) (F:=fun k2=>RQ N k2) (fun n st=>∃(l:List C) (m:C),st=[.slice l,m]/\HB m/\l.length<=n) (fun d=>∃m',HB m'/\d=[m'])
  (fun n st hst=>by
   obtain⟨l,m,rfl,⟨s,w,a,rfl,hw,ha⟩,hl⟩:=hst;by_cases e:0<(l.length:Int)
   ·left;have r:=JR a 64 ha.1 (by omega);generalize hq:dz a 64=q at*;have cw:(EZ w q.toNat (64-q).toNat l).length=64:=by rw[XX (by omega)];exact hw
    have c1:0<(64-q).toNat:=by omega
    generalize hp:min l.length (64-q).toNat=p at*;have c2:0<=(p:Int)/\(p:Int)<=(l.length:Int)/\(l.length:Int)<=(l.length:Int):=by omega
    have c3:0<=q/\q<=64/\jx 64<=64:=⟨r.1,by omega,by decide⟩;obtain⟨s',hs'⟩:=q15 (R:=R) (N:=N) s (.int (IntKind.u64.wrap (a+IntKind.u64.wrap (p:Int)))) _ cw (by omega);have wn:=eV (a+IntKind.u64.wrap (p:Int));have cl:(cut l (p:Int) (l.length:Int)).length<l.length:=by simp[cut];omega
    by_cases z:dz (IntKind.u64.wrap (a+IntKind.u64.wrap (p:Int))) 64=0
    ·refine⟨_,(cut l (p:Int) (l.length:Int)).length,by omega,⟨cut l (p:Int) (l.length:Int),_,rfl,⟨?s8,_,_,rfl,cw,wn⟩,cn _⟩,fun k rec=>?eq8⟩
     case eq8=>
      unfold RQ;simp only[AZ,AI,AQ,AF,Ac,Ap,JC,Kg,Qc,Ow,Vt,Vu,e,hq,hp,c1,c2,c3,z,AG,and_self,hs'];rfl
    ·refine⟨_,(cut l (p:Int) (l.length:Int)).length,by omega,⟨cut l (p:Int) (l.length:Int),_,rfl,⟨?s9,_,_,rfl,cw,wn⟩,cn _⟩,fun k rec=>?eq9⟩
     case eq9=>
      unfold RQ;simp only[AZ,AI,AQ,AF,Ac,Ap,JC,Kg,Qc,Ow,Vt,Vu,e,hq,hp,c1,c2,c3,z,AG,and_self];rfl
   ·right;refine⟨_,⟨_,⟨s,w,a,rfl,hw,ha⟩,rfl⟩,fun k rec=>?_⟩;unfold RQ;simp only[AI,AQ,Ac,e,AG])
  l.length l.length [.slice l,m] N (cn _) ⟨l,m,rfl,hm,cn _⟩ (by omega)
 refine⟨m',h1,fun k=>?_⟩;rw[qQ];unfold Zl;simp only[AZ];exact(h _).trans rfl
theorem zF (l:List C) (m:C) (hm:HB m) (B:Nat) (hb:∀x∈l,∃y:List C,x= .slice y/\y.length<=B) (hl:l.length<N) (hN:B+100<N) (hN2:N<4611686018427387904):∃m',HB m'/\∀k:KD R,OH N (.slice l) m k=k [m'] []:=by
 obtain⟨d,⟨m',h1,rfl⟩,h⟩:=Gp (R:=R) (F:=fun k2=>Ul N k2) l.length (fun i st=>∃m:C,HB m/\st=[.slice l,.int l.length,.int i,m]) (fun d=>∃m',HB m'/\d=[m'])
  (fun i st hi hst=>by
   obtain⟨m,hm,rfl⟩:=hst;have e1:(i:Int)<(l.length:Int):=by omega
   obtain⟨y,hy,hyl⟩:=hb _ (Hd hi);obtain⟨m2,h2,h3⟩:=bR (R:=R) (N:=N) y m hm (by omega);refine⟨_,⟨m2,h2,rfl⟩,fun k rec=>?_⟩;unfold Ul;simp only[AI,AQ,AR,AV,AF,Ac,e1,AG,dd,and_self,bx,hy,h3,Ck (show i<4611686018427387904 by omega)])
  (fun st hst=>by
   obtain⟨m,hm,rfl⟩:=hst;refine⟨_,⟨m,hm,rfl⟩,fun k rec=>?_⟩;unfold Ul;simp only[AI,AQ,AR,AV,AF,fq,AG])
  (N:=N) (by omega) (st:=[.slice l,.int l.length,.int (0:Nat),m]) ⟨m,hm,rfl⟩
 refine⟨m',h1,fun k=>?_⟩;rw[qN];unfold Zj;simp only[AZ,Ac];exact(h _).trans rfl
def Dig (c:C):Prop:=∃l:List C,c= .agg l/\l.length=32
theorem Tx (n:C):∃x:List C,x.length=4/\∀k:KD R,Kq N n k=k [.slice x] []:=
 ⟨[bt (bw df (fp (bp n) (2^min (bo 24) 32))),bt (bw df (fp (bp n) (2^min (bo 16) 32))),bt (bw df (fp (bp n) (2^min (bo 8) 32))),bt (bw df (bp n))],rfl,fun k=>by rw[qT];unfold Zn;rfl⟩
theorem q7p (m:C) (hm:HB m) (hN:1000<N):∃c,Dig c/\∀k:KD R,RN N m k=k [c,m] []:=by
 obtain⟨s,w,a,rfl,hw,ha⟩:=hm;have r:=JR (IntKind.u64.wrap (a+8)) 64 (eV _).1 (by omega);generalize hq:dz (IntKind.u64.wrap (a+8)) 64=q at r;have e1:IntKind.u64.wrap (64-q)=64-q:=wrap_u64 (by omega) (by omega);obtain⟨m1,hm1,h1⟩:=bR (R:=R) (N:=N) (dy (64-q).toNat (fi 0 (List.set (db (64-q).toNat (AL (cg df))) 0 (bt 128)))) (.agg [s,.agg w,.int a]) ⟨s,w,a,rfl,hw,ha⟩ (by simp;omega);obtain⟨f1,hf1,g1⟩:=Tx (R:=R) (N:=N) (bt (bw di (fp (bw bu (a*8)) (2^min (bo 32) 64))));obtain⟨f2,hf2,g2⟩:=Tx (R:=R) (N:=N) (bt (bw di (bw bu (a*8))));obtain⟨m2,hm2,h2⟩:=bR (R:=R) (N:=N) (f1++f2) m1 hm1 (by simp;omega)
 obtain⟨d,⟨z,hz,rfl⟩,h3⟩:=Gp (R:=R) (F:=fun k2=>Uk N k2) 8 (fun i st=>∃z:C,Dig z/\st=[m2.get 0,.int i,.agg [s,.agg w,.int a],AL (.arr 32 (.int .u8)),z]) (fun d=>∃z,Dig z/\d=[.agg [s,.agg w,.int a],AL (.arr 32 (.int .u8)),z])
  (fun i st hi hst=>by
   obtain⟨z,⟨zl,rfl,hzl⟩,rfl⟩:=hst;have e1:(i:Int)<8:=by omega
   have e2:IntKind.i64.wrap (4*(i:Int))=4*i:=wrap_i64 (by omega) (by omega);obtain⟨f,hf,g⟩:=Tx (R:=R) (N:=N) (cd (m2.get 0) i);have c1:0<(32-4*(i:Int)).toNat:=by omega
   refine⟨_,⟨_,⟨_,rfl,by rw[XX (cs:=zl) (lo:=(4*(i:Int)).toNat) (n:=(32-4*(i:Int)).toNat) (ys:=f) (by omega)];exact hzl⟩,rfl⟩,fun k rec=>?_⟩;unfold Uk;have c2:0<=4*(i:Int)/\4*(i:Int)<=32/\jx 32<=32:=⟨by omega,by omega,by decide⟩;simp only[AI,AQ,AR,AV,Aa,AF,Ac,Ap,e1,e2,c1,c2,AG,dd,and_self,bx,g,Ck (show i<4611686018427387904 by omega)])
  (fun st hst=>by
   obtain⟨z,hz,rfl⟩:=hst;refine⟨_,⟨z,hz,rfl⟩,fun k rec=>?_⟩;unfold Uk;have h:¬((8:Nat):Int)<8:=by decide
   simp only[AI,AQ,AR,AV,Aa,AF,h,AG])
  (N:=N) (by omega) (st:=[m2.get 0,.int (0:Nat),.agg [s,.agg w,.int a],AL (.arr 32 (.int .u8)),AL (.arr 32 (.int .u8))]) ⟨_,⟨_,rfl,by decide⟩,rfl⟩
 refine⟨z,hz,fun k=>?_⟩;rw[qM];unfold Zi;simp only[Qc,AF,hq,e1];rw[if_pos (by omega),if_pos (by constructor <;> simp <;> omega),h1];simp only[AI,g1,g2,Ac,ct,cond_true,hf1,hf2];rw[if_pos (by omega),h2];simp only[AZ,AI];exact(h3 _).trans rfl
theorem PO (a0:C) (l:List C) (B:Nat) (hb:∀x∈l,∃y:List C,x= .slice y/\y.length<=B) (hl:l.length+1000<N) (hN:B+1000<N) (hN2:N<4611686018427387904):∃c,Dig c/\∀k:KD R,Jv N a0 (.slice l) k=k [c] []:=by
 obtain⟨m0,hm0,h0⟩:∃m,HB m/\∀k:KD R,RR N k=k [m] []:=⟨_,⟨_,db 64 (.int 0),0,by rfl,by simp,by unfold W64;omega⟩,fun k=>by rw[qR];unfold Zm;rfl⟩;obtain⟨m1,hm1,h1⟩:=zF (R:=R) (N:=N) [cz [a0,bt (bw df (l.length:Int))]] m0 hm0 10 (fun x hx=>⟨_,ft.1 hx,by simp⟩) (by simp;omega) (by omega) hN2
 obtain⟨d,⟨m2,hm2,rfl⟩,h2⟩:=Gp (R:=R) (F:=fun k2=>Uj N k2) l.length (fun i st=>∃m:C,HB m/\st=[.slice l,.int l.length,.int i,AL (.arr 32 (.int .u8)),m]) (fun d=>∃m',HB m'/\d=[AL (.arr 32 (.int .u8)),m'])
  (fun i st hi hst=>by
   obtain⟨m,hm,rfl⟩:=hst;have e1:(i:Int)<(l.length:Int):=by omega
   obtain⟨y,hy,hyl⟩:=hb _ (Hd hi);obtain⟨f,hf,g⟩:=Tx (R:=R) (N:=N) (bt (bw di (y.length:Int)))
   obtain⟨m2,h2,h3⟩:=zF (R:=R) (N:=N) [cz f,cz y] m hm (B+4) (fun x hx=>by
    simp only[List.mem_cons,List.not_mem_nil,or_false]at hx;rcases hx with rfl|rfl;{exact⟨_,rfl,by omega⟩}
    ·exact⟨_,rfl,by omega⟩) (by simp;omega) (by omega) hN2
   refine⟨_,⟨m2,h2,rfl⟩,fun k rec=>?_⟩;unfold Uj;simp only[AI,AQ,AR,AV,Aa,AF,Ac,e1,AG,dd,and_self,bx,hy,g,h3,Ck (show i<4611686018427387904 by omega)])
  (fun st hst=>by
   obtain⟨m,hm,rfl⟩:=hst;refine⟨_,⟨m,hm,rfl⟩,fun k rec=>?_⟩;unfold Uj;simp only[AI,AQ,AR,AV,Aa,AF,fq,AG])
  (N:=N) (by omega) (st:=[.slice l,.int l.length,.int (0:Nat),AL (.arr 32 (.int .u8)),m1]) ⟨m1,hm1,rfl⟩
 obtain⟨c,hc,h3⟩:=q7p (R:=R) (N:=N) m2 hm2 (by omega);refine⟨c,hc,fun k=>?_⟩;rw[qK];unfold Zg;simp only[h0,AI,Ac,h1,AZ];refine(h2 _).trans ?_;simp only[AQ,h3,AI]
end
def q5c:List Sh:=[.ts 1 (.int .u8),.d (.int .u64),.d (.int .i64)]
def q5e:List (Key × OSh):=[]
def Rk {R:Type} (N:Nat) (k2:KD R):KD R->KD R:=fun k3 d1 m1=>(bif decide (0<=bp (dk d1 2))then(if 0<=bw ca (8*bp (dk d1 2))then(bif dj (bn (bq (dk d1 1))) (bn (bq (dk d1 1)))then(if(bn (bq (dk d1 1))+1)*1<=140737488355328/\bn (bq (dk d1 1))+1<=9223372036854775807 then(bif dj (bn (bq (dk d1 1))+1) (bn (bq (dk d1 1)++[bt (bw df (fp (bp (dk d1 0)) (2^min (bo (bw ca (8*bp (dk d1 2)))) 64)))]))then(k3 [dk d1 0,cz (bq (dk d1 1)++[bt (bw df (fp (bp (dk d1 0)) (2^min (bo (bw ca (8*bp (dk d1 2)))) 64)))]),bt (bw ca (bp (dk d1 2)-1))] [])else none)else none)else none)else none)else(bif dj (bn (bq (dk d1 1))) (bn (bq (dk d1 1)))then(k2 [cz (bq (dk d1 1))] [])else none))
def aQ (a0 a1 a2:C) (k1:KD R):Option R:=jn (fun d1 m1=>(bif dj (bn (bq (dk d1 0))) (bn (bq (dk d1 0)))then(k1 [cz (bq (dk d1 0))] [])else none)) (fun k2=>(bif dj (bn (bq a0)) (bn (bq a0))then(BU N (Rk N k2) [a1,cz (bq a0),bt (bw ca (bp a2-1))] [])else none))
def OM:=lid "" (@aQ R N)
theorem sG {R N a0 a1 a2 k}:@OM R N a0 a1 a2 k=aQ N a0 a1 a2 k:=by unfold OM;rw[Ag]
def q5d:OvG R:=CP q5c q5e (fun ds ms=>OM N (dk ds 0) (dk ds 1) (dk ds 2)) fun ds ms K d1 m1=>K (V.ts 1 (cg df) (bq (dk d1 0))) []
theorem sE:okX 208 (@q5d R N):=CT Ah N [] [(208,[([1,0,1],(Bc [(0,.sl 1 (.int .u8) 5000)])),
  ([4,1,0,1],(Bm [1] [(0,.sl 1 (.int .u8) 5000),(7,.d (.int .i64))])),
  ([9],(Bc [(6,.sl 1 (.int .u8) 5006)]))])] (fun _ _ _=>sG) fun ds ms K=>(show _=jn (fun d1 m1=>(bif dj (bn (bq (dk d1 0))) (bn (bq (dk d1 0)))then
  (K (V.ts 1 (cg df) (bq (dk d1 0))) [])
 else
  none)) _ by kernel_rfl).trans (congrArg (fun k=>jn k _) (funext fun _=>funext fun _=>by simp only[ct,cond_true]))
def q4Z:List Sh:=[.ts 1 (.int .u8),.d (.slice 8 (.int .u64))]
def q41:List (Key × OSh):=[]
def VF (k2:KD R):KD R->KD R:=fun k3 d1 m1=>(bif decide (bp (dk d1 3)<bp (dk d1 1))then(if 0<=bp (dk d1 3)/\bp (dk d1 3)<(↑(bn (bq (dk d1 0))):Int)then(bif dj (bn (bq (dk d1 2))) (bn (bq (dk d1 2)))then(OM N (cz (bq (dk d1 2))) (dt (bq (dk d1 0)) (bo (bp (dk d1 3))) gj) (bt 8) (fun d2 m2=>(bif dj (bn (bq (dk d2 0))) (bn (bq (dk d2 0)))then(k3 [dk d1 0,dk d1 1,cz (bq (dk d2 0)),bt (bw ca (bp (dk d1 3)+1))] [])else none)))else none)else none)else(bif dj (bn (bq (dk d1 2))) (bn (bq (dk d1 2)))then(k2 [cz (bq (dk d1 2))] [])else none))
def aK (a0 a1:C) (k1:KD R):Option R:=jn (fun d1 m1=>(bif dj (bn (bq (dk d1 0))) (bn (bq (dk d1 0)))then(k1 [cz (bq (dk d1 0))] [])else none)) (fun k2=>(bif dj (bn (bq a0)) (bn (bq a0))then(BU N (VF N k2) [a1,bt (↑(bn (bq a1)):Int),cz (bq a0),bt 0] [])else none))
def Jz:=lid "" (@aK R N)
theorem rW {R N a0 a1 k}:@Jz R N a0 a1 k=aK N a0 a1 k:=by unfold Jz;rw[Ag]
def q40:OvG R:=CP q4Z q41 (fun ds ms=>Jz N (dk ds 0) (dk ds 1)) fun ds ms K d1 m1=>K (V.ts 1 (cg df) (bq (dk d1 0))) []
theorem rV:okX 209 (@q40 R N):=CT (AP (sE N) <| Ah) N [(209,[(4,[(15,1)])])] [(209,[([1,0,1],(Bc [(0,.sl 1 (.int .u8) 5000)])),
  ([4,1,0,1],(Bm [7,8] [(0,.sl 1 (.int .u8) 5000),(9,.d (.int .i64))])),
  ([9],(Bc [(4,.sl 1 (.int .u8) 5004)]))])] (fun _ _ _=>rW) fun ds ms K=>(show _=jn (fun d1 m1=>(bif dj (bn (bq (dk d1 0))) (bn (bq (dk d1 0)))then
  (K (V.ts 1 (cg df) (bq (dk d1 0))) [])
 else
  none)) _ by kernel_rfl).trans (congrArg (fun k=>jn k _) (funext fun _=>funext fun _=>by simp only[ct,cond_true]))
def q45:List Sh:=[.ts 1 (.int .u8),.d (.slice 1 (.int .u8))]
def q47:List (Key × OSh):=[]
def aO {R:Type} (N:Nat) (a0 a1:C) (k1:KD R):Option R:=bif dj (bn (bq a0)) (bn (bq a0))then(if(bn (bq a0)+bn (bq a1))*1<=140737488355328/\bn (bq a0)+bn (bq a1)<=9223372036854775807 then(bif dj (bn (bq a0)+bn (bq a1)) (bn (bq a0++bq a1))then(k1 [cz (bq a0++bq a1)] [])else none)else none)else none
def MM:=lid "" (@aO R N)
theorem sA {R N a0 a1 k}:@MM R N a0 a1 k=aO N a0 a1 k:=by unfold MM;rw[Ag]
def q46:OvG R:=CP q45 q47 (fun ds ms=>MM N (dk ds 0) (dk ds 1)) fun ds ms K d1 m1=>K (V.ts 1 (cg df) (bq (dk d1 0))) []
theorem rZ:okX 210 (@q46 R N):=CT Ah N [] [(210,[([9],(Bc [(4,.sl 1 (.int .u8) 5004)]))])] (fun _ _ _=>sA) fun ds ms K=>(show _=jn (fun d1 m1=>(bif dj (bn (bq (dk d1 0))) (bn (bq (dk d1 0)))then
  (K (V.ts 1 (cg df) (bq (dk d1 0))) [])
 else
  none)) _ by kernel_rfl).trans (congrArg (fun k=>jn k _) (funext fun _=>funext fun _=>by simp only[ct,cond_true]))
def q42:List Sh:=[.ts 1 (.int .u8),.d (.slice 4 (.int .u32))]
def q44:List (Key × OSh):=[]
def VG (k2:KD R):KD R->KD R:=fun k3 d1 m1=>(bif decide (bp (dk d1 3)<bp (dk d1 1))then(if 0<=bp (dk d1 3)/\bp (dk d1 3)<(↑(bn (bq (dk d1 0))):Int)then(bif dj (bn (bq (dk d1 2))) (bn (bq (dk d1 2)))then(OM N (cz (bq (dk d1 2))) (bt (bw bu (bp (dt (bq (dk d1 0)) (bo (bp (dk d1 3))) gj)))) (bt 4) (fun d2 m2=>(bif dj (bn (bq (dk d2 0))) (bn (bq (dk d2 0)))then(k3 [dk d1 0,dk d1 1,cz (bq (dk d2 0)),bt (bw ca (bp (dk d1 3)+1))] [])else none)))else none)else none)else(bif dj (bn (bq (dk d1 2))) (bn (bq (dk d1 2)))then(k2 [cz (bq (dk d1 2))] [])else none))
def aL (a0 a1:C) (k1:KD R):Option R:=jn (fun d1 m1=>(bif dj (bn (bq (dk d1 0))) (bn (bq (dk d1 0)))then(k1 [cz (bq (dk d1 0))] [])else none)) (fun k2=>(bif dj (bn (bq a0)) (bn (bq a0))then(BU N (VG N k2) [a1,bt (↑(bn (bq a1)):Int),cz (bq a0),bt 0] [])else none))
def Kw:=lid "" (@aL R N)
theorem rY {R N a0 a1 k}:@Kw R N a0 a1 k=aL N a0 a1 k:=by unfold Kw;rw[Ag]
def q43:OvG R:=CP q42 q44 (fun ds ms=>Kw N (dk ds 0) (dk ds 1)) fun ds ms K d1 m1=>K (V.ts 1 (cg df) (bq (dk d1 0))) []
theorem rX:okX 199 (@q43 R N):=CT (AP (sE N) <| Ah) N [(199,[(4,[(16,1)])])] [(199,[([1,0,1],(Bc [(0,.sl 1 (.int .u8) 5000)])),
  ([4,1,0,1],(Bm [7,8] [(0,.sl 1 (.int .u8) 5000),(9,.d (.int .i64))])),
  ([9],(Bc [(4,.sl 1 (.int .u8) 5004)]))])] (fun _ _ _=>rY) fun ds ms K=>(show _=jn (fun d1 m1=>(bif dj (bn (bq (dk d1 0))) (bn (bq (dk d1 0)))then
  (K (V.ts 1 (cg df) (bq (dk d1 0))) [])
 else
  none)) _ by kernel_rfl).trans (congrArg (fun k=>jn k _) (funext fun _=>funext fun _=>by simp only[ct,cond_true]))
end Go.Proofs.YtpemdagggddcfaaGreatDoor
