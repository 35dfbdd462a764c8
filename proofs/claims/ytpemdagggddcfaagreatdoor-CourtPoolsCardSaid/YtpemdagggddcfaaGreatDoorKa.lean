/-
 What the functions on the way compute, part 1.
 Conditions: none.
-/
import Derived.Test.YtpemdagggddcfaaGreatDoorTf
import Derived.Laws.Externs
import Derived.Lib.Bytealg
set_option linter.all false
noncomputable section
set_option maxRecDepth 100000
set_option maxHeartbeats 4000000
open Array renaming getElem?_eq_getElem->dz
open BitVec renaming ofInt->jc
open Bool renaming false_eq_true->fk
open Go.BinOp renaming and->fv,or->rm,xor->nz
open Go.E.C renaming agg->fh,bool->dw,elems->bq,get->cd,int->br,nil->gm,set->dt,slice->cz,toBool->ez,toInt->bp
open Go.E.Key renaming l->df
open Go.E.Ty renaming arr->dc,bool->dv,int->cg
open Go.IntKind renaming bits->uq,i64->ca,signed->tw,u32->dj,u64->bw,u8->de,wrap->bu
open Go.IntWalk renaming i64_in->je
open Int renaming eq_ofNat_of_zero_le->se,fdiv->ft,lt_irrefl->fw,natCast_nonneg->db,ofNat->kq,tmod->ee,toNat->bo,toNat_natCast->bx,toNat_of_nonneg->gy
open List renaming all_eq_true->eh,drop->fm,getD->dr,getD_eq_getElem?_getD->du,getElem?_eq_getElem->cr,getElem_mem->uh,length->bn,length_append->da,length_cons->dp,length_nil->dx,map_cons->ek,mem_append->ic,mem_singleton->gh,replicate->dh,take->ed
open Nat renaming beq->di,beq_refl->cm,le_refl->cn,mod_eq_of_lt->uw,zero_add->cf
open Option renaming ite_none_right_eq_some->bt
namespace Go.Proofs.YtpemdagggddcfaaGreatDoor
open Go Go.E
variable {R:Type} (N:Nat)
section
variable {gl:Nat->Option (Ty × C)}
def Er (l:List UInt8) (m c:Int):C:=.agg [.str l,.int m,.int c]
def Eu:List C:=[Er [104,97,108,116] 0 1,Er [112,117,115,104] 8 1,Er [108,111,97,100] 1 1,Er [97,100,100] 0 1,Er [115,117,98] 0 1,Er [109,117,108] 0 3,
 Er [108,101,115,115] 0 1,Er [115,97,109,101] 0 1,Er [110,111,116] 0 1,Er [98,111,116,104] 0 1,Er [97,110,121] 0 1,Er [106,117,109,112] 2 1,Er [105,102] 2 1,
 Er [116,119,105,99,101] 0 1,Er [115,119,97,112] 0 1,Er [100,114,111,112] 0 1,Er [112,97,105,100] 1 10,Er [110,111,119] 0 1]
def GF (gl:Nat->Option (Ty × C)):Prop:=gl 0=some (.arr 18 Eg,.agg Eu)
def CX (o:Int):Nat:=if o=1 then 8 else if o=2\/o=16 then 1 else if o=11\/o=12 then 2 else 0
theorem qK (o:Int):CX o<=8:=by unfold CX;(repeat' split) <;> omega
theorem q01:∀(o:Nat),o<18->(Eu.getD o .nil).get 1= .int (CX o):=by
 intro o h;have c:o=0\/o=1\/o=2\/o=3\/o=4\/o=5\/o=6\/o=7\/o=8\/o=9\/o=10\/o=11\/o=12\/o=13\/o=14\/o=15\/o=16\/o=17:=by omega
 rcases c with rfl|rfl|rfl|rfl|rfl|rfl|rfl|rfl|rfl|rfl|rfl|rfl|rfl|rfl|rfl|rfl|rfl|rfl <;> rfl
def bN (p:List C) (i:Nat):Int:=(p.getD i .nil).toInt
def EB (p:List C) (i:Nat):Nat->Int
 |0=>0|k+1=>EB p i k*256+bN p (i+k)
def Bj (p:List C) (i:Nat):Int:=
 if p.length<=i then 9 else if 18<=bN p i then 33 else if p.length<i+1+CX (bN p i)then 9 else 0
theorem PL {p:List C} (h:C.wf (.slice 1 (.int .u8)) (.slice p)) {i:Nat} (hi:i<p.length):p.getD i .nil= .int (bN p i)/\0<=bN p i/\bN p i<=255:=by
 have:=C.q7m (i:=i) h hi;simp only[bq,C.wf]at this;have m1:IntKind.u8.min=0:=by decide
 have m2:IntKind.u8.max=255:=by decide
 exact⟨this.1,by unfold bN;omega,by unfold bN;omega⟩
theorem WY {p:List C} (h:C.wf (.slice 1 (.int .u8)) (.slice p)) {i:Nat}:∀{k:Nat},i+k<=p.length->0<=EB p i k/\EB p i k<256^k
 |0,_=>by simp[EB]
 |k+1,hk=>by
  have ih:=WY h (k:=k) (i:=i) (by omega);have hb:=PL h (i:=i+k) (by omega);simp only[EB];have e:(256:Int)^(k+1)=256^k*256:=by rw[Int.pow_succ]
  omega
theorem fD {p:List C} (h:C.wf (.slice 1 (.int .u8)) (.slice p)) {i k:Nat} (hk:i+k<=p.length) (h8:k<=8):0<=EB p i k/\EB p i k<=18446744073709551615/\(k<8->EB p i k<72057594037927936):=by
 obtain⟨h1,h2⟩:=WY h hk;have c:k=0\/k=1\/k=2\/k=3\/k=4\/k=5\/k=6\/k=7\/k=8:=by omega
 rcases c with rfl|rfl|rfl|rfl|rfl|rfl|rfl|rfl|rfl <;> simp at h2 <;> omega
theorem q4q {a b:Int} (ha:0<=a) (ha2:a<72057594037927936) (hb:0<=b) (hb2:b<=255):CU .or .u64 (a*256) b=a*256+b:=by
 obtain⟨x,rfl⟩:=se ha;obtain⟨y,rfl⟩:=se hb;have hx:x<72057594037927936:=by omega
 have hy:y<256:=by omega
 have e1:((x:Int)*256)=((x*256:Nat):Int):=by omega
 have key:(x*256)|||y=x*256+y:=by have:=Nat.two_pow_add_eq_or_of_lt (i:=8) (b:=y) (by omega) x;rw[Nat.mul_comm x 256];exact this.symm
 rw[e1];show IntKind.u64.wrap (((jc 64 ((x*256:Nat):Int))|||(jc 64 ((y:Nat):Int))).toNat:Int)=_;simp only[BitVec.toNat_or,BitVec.ofInt_natCast,BitVec.toNat_ofNat];rw[uw (by omega),uw (by omega),key];have m1:IntKind.u64.min=0:=by decide
 have m2:IntKind.u64.max=18446744073709551615:=by decide
 exact(Oy (by omega) (by omega)).trans (by omega)
def lB (p:List C) (i:Nat):V:=.tup [.d (.int .i64) (.int (if Bj p i=0 then bN p i else 0)),.d (.int .u64) (.int (if Bj p i=0 then EB p (i+1) (CX (bN p i))else 0)),
 .d (.int .i64) (.int (if Bj p i=0 then((i+1+CX (bN p i):Nat):Int)else 0)),.d (.int .i64) (.int (Bj p i))]
end
section
variable {gl:Nat->Option (Ty × C)}
theorem w6 (A:Key->Option O) (cs:List C) (hne:cs≠[]):Bn (X0 gl) 35 [.d (.slice 2368 tTx) (.slice cs)] A (.sr (.l 7) [] 0 cs.length none 2368 tTx) [(.l 7,.box (.d (.arr cs.length tTx) (.agg cs)))]:=by
 refine JZ (n:=8) (ok0 gl) Tryz.func35 rfl rfl (by simp) ?_;intro A' hA;refine CM (Cs (ok0 gl) [] (by kernel_rfl) ?_);simp only[go_sem,↓CG,↓CF,↓CE,↓CD,↓CH,↓Bu,↓Bt,↓Br,↓Bs,simprocAttr];cases cs with
 |nil=>exact absurd rfl hne|cons c cs=>
  refine CM (CM (Cs (ok0 gl) [] (by kernel_rfl) ?_));simp only[go_sem,↓CG,↓CF,↓CE,↓CD,↓CH,↓Bu,↓Bt,↓Br,↓Bs,simprocAttr];refine KV _ rfl (fun h=>by simp at h) (fun _=>Gf ?_);refine CM (Cs (ok0 gl) [(7,3)] (by kernel_rfl) ?_);simp only[go_sem,↓CG,↓CF,↓CE,↓CD,↓CH,↓Bu,↓Bt,↓Br,↓Bs,simprocAttr];refine Fs ⟨.inr rfl,?_⟩;simp only[FE,go_sem,↓CG,↓CF,↓CE,↓CD,↓CH,↓Bu,↓Bt,↓Br,↓Bs,simprocAttr,Tryz.f35] <;> try rfl
theorem y4 (A:Key->Option O) (cs:List C):Bn (X0 gl) 31 [.d (.slice 1 (.int .u8)) (.slice cs)] A (.ts 1 (.int .u8) cs) []:=by
 refine JZ (n:=8) (ok0 gl) Tryz.func31 rfl rfl (by simp) ?_;intro A' hA;refine CM (Cs (ok0 gl) [] (by kernel_rfl) ?_);simp only[go_sem,↓CG,↓CF,↓CE,↓CD,↓CH,↓Bu,↓Bt,↓Br,↓Bs,simprocAttr];refine CM (CM (Cs (ok0 gl) [] (by kernel_rfl) ?_));cases cs with
 |nil=>
  simp only[go_sem,↓CG,↓CF,↓CE,↓CD,↓CH,↓Bu,↓Bt,↓Br,↓Bs,simprocAttr];refine XX rfl ?_ (Gf ?_);{refine CM (Cs (ok0 gl) [] (by kernel_rfl) ?_);simp only[go_sem,↓CG,↓CF,↓CE,↓CD,↓CH,↓Bu,↓Bt,↓Br,↓Bs,simprocAttr];refine Fs ⟨.inr rfl,?_⟩;simp only[FE,go_sem,↓CG,↓CF,↓CE,↓CD,↓CH,↓Bu,↓Bt,↓Br,↓Bs,simprocAttr,Tryz.f31]};{refine CM (Cs (ok0 gl) [] (by kernel_rfl) ?_);simp only[go_sem,↓CG,↓CF,↓CE,↓CD,↓CH,↓Bu,↓Bt,↓Br,↓Bs,simprocAttr];refine Fs ⟨.inr rfl,?_⟩;simp only[FE,go_sem,↓CG,↓CF,↓CE,↓CD,↓CH,↓Bu,↓Bt,↓Br,↓Bs,simprocAttr,Tryz.f31]}
 |cons c cs=>
  simp only[go_sem,↓CG,↓CF,↓CE,↓CD,↓CH,↓Bu,↓Bt,↓Br,↓Bs,simprocAttr];refine KV _ rfl (fun h=>by simp at h) (fun _=>Gf ?_);refine CM (Cs (ok0 gl) [] (by kernel_rfl) ?_);simp only[go_sem,↓CG,↓CF,↓CE,↓CD,↓CH,↓Bu,↓Bt,↓Br,↓Bs,simprocAttr];refine Fs ⟨.inr rfl,?_⟩;simp only[FE,go_sem,↓CG,↓CF,↓CE,↓CD,↓CH,↓Bu,↓Bt,↓Br,↓Bs,simprocAttr,Tryz.f31]
theorem w8 (A:Key->Option O) (cs:List C) (hne:cs≠[]):Bn (X0 gl) 57 [.d (.slice 8 (.int .u64)) (.slice cs)] A (.sr (.l 7) [] 0 cs.length none 8 (.int .u64)) [(.l 7,.box (.d (.arr cs.length (.int .u64)) (.agg cs)))]:=by
 refine JZ (n:=8) (ok0 gl) Tryz.func57 rfl rfl (by simp) ?_;intro A' hA;refine CM (Cs (ok0 gl) [] (by kernel_rfl) ?_);simp only[go_sem,↓CG,↓CF,↓CE,↓CD,↓CH,↓Bu,↓Bt,↓Br,↓Bs,simprocAttr];cases cs with
 |nil=>exact absurd rfl hne|cons c cs=>
  refine CM (CM (Cs (ok0 gl) [] (by kernel_rfl) ?_));simp only[go_sem,↓CG,↓CF,↓CE,↓CD,↓CH,↓Bu,↓Bt,↓Br,↓Bs,simprocAttr];refine KV _ rfl (fun h=>by simp at h) (fun _=>Gf ?_);refine CM (Cs (ok0 gl) [(7,3)] (by kernel_rfl) ?_);simp only[go_sem,↓CG,↓CF,↓CE,↓CD,↓CH,↓Bu,↓Bt,↓Br,↓Bs,simprocAttr];refine Fs ⟨.inr rfl,?_⟩;simp only[FE,go_sem,↓CG,↓CF,↓CE,↓CD,↓CH,↓Bu,↓Bt,↓Br,↓Bs,simprocAttr,Tryz.f57] <;> try rfl
theorem y8 (A:Key->Option O) (cs:List C):Bn (X0 gl) 59 [.d (.slice 32 (.arr 32 (.int .u8))) (.slice cs)] A (.ts 32 (.arr 32 (.int .u8)) cs) []:=by
 refine JZ (n:=8) (ok0 gl) Tryz.func59 rfl rfl (by simp) ?_;intro A' hA;refine CM (Cs (ok0 gl) [] (by kernel_rfl) ?_);simp only[go_sem,↓CG,↓CF,↓CE,↓CD,↓CH,↓Bu,↓Bt,↓Br,↓Bs,simprocAttr];refine CM (CM (Cs (ok0 gl) [] (by kernel_rfl) ?_));cases cs with
 |nil=>
  simp only[go_sem,↓CG,↓CF,↓CE,↓CD,↓CH,↓Bu,↓Bt,↓Br,↓Bs,simprocAttr];refine XX rfl ?_ (Gf ?_);{refine CM (Cs (ok0 gl) [] (by kernel_rfl) ?_);simp only[go_sem,↓CG,↓CF,↓CE,↓CD,↓CH,↓Bu,↓Bt,↓Br,↓Bs,simprocAttr];refine Fs ⟨.inr rfl,?_⟩;simp only[FE,go_sem,↓CG,↓CF,↓CE,↓CD,↓CH,↓Bu,↓Bt,↓Br,↓Bs,simprocAttr,Tryz.f59]};{refine CM (Cs (ok0 gl) [] (by kernel_rfl) ?_);simp only[go_sem,↓CG,↓CF,↓CE,↓CD,↓CH,↓Bu,↓Bt,↓Br,↓Bs,simprocAttr];refine Fs ⟨.inr rfl,?_⟩;simp only[FE,go_sem,↓CG,↓CF,↓CE,↓CD,↓CH,↓Bu,↓Bt,↓Br,↓Bs,simprocAttr,Tryz.f59]}
 |cons c cs=>
  simp only[go_sem,↓CG,↓CF,↓CE,↓CD,↓CH,↓Bu,↓Bt,↓Br,↓Bs,simprocAttr];refine KV _ rfl (fun h=>by simp at h) (fun _=>Gf ?_);refine CM (Cs (ok0 gl) [] (by kernel_rfl) ?_);simp only[go_sem,↓CG,↓CF,↓CE,↓CD,↓CH,↓Bu,↓Bt,↓Br,↓Bs,simprocAttr];refine Fs ⟨.inr rfl,?_⟩;simp only[FE,go_sem,↓CG,↓CF,↓CE,↓CD,↓CH,↓Bu,↓Bt,↓Br,↓Bs,simprocAttr,Tryz.f59]
theorem y7 (A:Key->Option O) (cs:List C):Bn (X0 gl) 76 [.d (.slice 64 CV) (.slice cs)] A (.ts 64 CV cs) []:=by
 refine JZ (n:=8) (ok0 gl) Tryz.func76 rfl rfl (by simp) ?_;intro A' hA;refine CM (Cs (ok0 gl) [] (by kernel_rfl) ?_);simp only[go_sem,↓CG,↓CF,↓CE,↓CD,↓CH,↓Bu,↓Bt,↓Br,↓Bs,simprocAttr];refine CM (CM (Cs (ok0 gl) [] (by kernel_rfl) ?_));cases cs with
 |nil=>
  simp only[go_sem,↓CG,↓CF,↓CE,↓CD,↓CH,↓Bu,↓Bt,↓Br,↓Bs,simprocAttr];refine XX rfl ?_ (Gf ?_);{refine CM (Cs (ok0 gl) [] (by kernel_rfl) ?_);simp only[go_sem,↓CG,↓CF,↓CE,↓CD,↓CH,↓Bu,↓Bt,↓Br,↓Bs,simprocAttr];refine Fs ⟨.inr rfl,?_⟩;simp only[FE,go_sem,↓CG,↓CF,↓CE,↓CD,↓CH,↓Bu,↓Bt,↓Br,↓Bs,simprocAttr,Tryz.f76]};{refine CM (Cs (ok0 gl) [] (by kernel_rfl) ?_);simp only[go_sem,↓CG,↓CF,↓CE,↓CD,↓CH,↓Bu,↓Bt,↓Br,↓Bs,simprocAttr];refine Fs ⟨.inr rfl,?_⟩;simp only[FE,go_sem,↓CG,↓CF,↓CE,↓CD,↓CH,↓Bu,↓Bt,↓Br,↓Bs,simprocAttr,Tryz.f76]}
 |cons c cs=>
  simp only[go_sem,↓CG,↓CF,↓CE,↓CD,↓CH,↓Bu,↓Bt,↓Br,↓Bs,simprocAttr];refine KV _ rfl (fun h=>by simp at h) (fun _=>Gf ?_);refine CM (Cs (ok0 gl) [] (by kernel_rfl) ?_);simp only[go_sem,↓CG,↓CF,↓CE,↓CD,↓CH,↓Bu,↓Bt,↓Br,↓Bs,simprocAttr];refine Fs ⟨.inr rfl,?_⟩;simp only[FE,go_sem,↓CG,↓CF,↓CE,↓CD,↓CH,↓Bu,↓Bt,↓Br,↓Bs,simprocAttr,Tryz.f76]
theorem x8 (A:Key->Option O) (cs:List C) (hne:cs≠[]):Bn (X0 gl) 38 [.d (.slice 40 AZ) (.slice cs)] A (.sr (.l 7) [] 0 cs.length none 40 AZ) [(.l 7,.box (.d (.arr cs.length AZ) (.agg cs)))]:=by
 refine JZ (n:=8) (ok0 gl) Tryz.func38 rfl rfl (by simp) ?_;intro A' hA;refine CM (Cs (ok0 gl) [] (by kernel_rfl) ?_);simp only[go_sem,↓CG,↓CF,↓CE,↓CD,↓CH,↓Bu,↓Bt,↓Br,↓Bs,simprocAttr];cases cs with
 |nil=>exact absurd rfl hne|cons c cs=>
  refine CM (CM (Cs (ok0 gl) [] (by kernel_rfl) ?_));simp only[go_sem,↓CG,↓CF,↓CE,↓CD,↓CH,↓Bu,↓Bt,↓Br,↓Bs,simprocAttr];refine KV _ rfl (fun h=>by simp at h) (fun _=>Gf ?_);refine CM (Cs (ok0 gl) [(7,3)] (by kernel_rfl) ?_);simp only[go_sem,↓CG,↓CF,↓CE,↓CD,↓CH,↓Bu,↓Bt,↓Br,↓Bs,simprocAttr];refine Fs ⟨.inr rfl,?_⟩;simp only[FE,go_sem,↓CG,↓CF,↓CE,↓CD,↓CH,↓Bu,↓Bt,↓Br,↓Bs,simprocAttr,Tryz.f38] <;> try rfl
end
section
variable {gl:Nat->Option (Ty × C)}
theorem zP (a b:C):Mj (X0 gl) 96 [.d (.int .u64) a,.d (.int .u64) b,.d (.int .u64) (.int 0)] (.tup [.d (.int .u64) (.int ((a.toInt+b.toInt)%18446744073709551616)),.d (.int .u64) (.int ((a.toInt+b.toInt) / 18446744073709551616))]):=by
 intro Γ w args hl hr;have hs:args.size=3:=hl.symm;obtain⟨e1,_,l1,m1⟩:=Dk (hr 0 _ _ rfl (dz (by omega)));obtain⟨e2,_,l2,m2⟩:=Dk (hr 1 _ _ rfl (dz (by omega)));obtain⟨e3,_,_,_⟩:=Dk (hr 2 _ _ rfl (dz (by omega)));have ea:args=#[.int .u64 a.toInt,.int .u64 b.toInt,.int .u64 0]:=by
  apply Array.ext;{simpa using hs}
  ·intro i h1 h2
   match i with
   |0=>simpa using e1|1=>simpa using e2|2=>simpa[bp]using e3|i+3=>omega
 have z:IntKind.u64.min=0:=by decide
 have z':IntKind.u64.max=18446744073709551615:=by decide
 refine⟨.tuple #[.int .u64 ((a.toInt+b.toInt)%18446744073709551616),.int .u64 ((a.toInt+b.toInt) / 18446744073709551616)],?_,#[_,_],rfl,?_⟩;{have xo:=run_callFunc_extern (P:=(X0 gl).P) (f:=96) (fn:=Tryz.f96) (e:=add64Entry) Tryz.func96 (by decide) rfl (by kernel_rfl) (by kernel_rfl) args w;rw[xo,ea,run_add64 _ _ _ (by omega) (by omega) (by omega) (by omega)];simp}
 ·refine Rx rfl fun i x u hx hu=>?_
  match i with
  |0=>simp at hx hu;subst hx;subst hu;exact⟨rfl,DV (by omega) (by omega)⟩|1=>simp at hx hu;subst hx;subst hu;exact⟨rfl,DV (by omega) (by omega)⟩|i+2=>simp at hx
end
def Js:List (Nat × Ty × C)->Nat->Option (Ty × C)
 | [],_=>none|(i,x)::l,g=>bif di g i then some x else Js l g
theorem oT {gl:Nat->Option (Ty × C)}:∀{l:List (Nat × Ty × C)},l.map (fun p=>gl p.1)=l.map (fun p=>some p.2)->∀g x,Js l g=some x->gl g=some x
 | [],_,g,x,h=>by cases h
 |(i,y)::l,h0,g,x,h=>by
  simp only[ek,List.cons.injEq]at h0;simp only[Js]at h;cases hb:di g i with
  |true=>
   rw[hb,cond_true]at h;cases h;rw[Nat.eq_of_beq_eq_true hb];exact h0.1
  |false=>
   rw[hb,cond_false]at h;exact oT h0.2 g x h
def YU:List (Nat × Ty × C):=
 (0,.arr 18 Eg,.agg Eu)::
 []
def gl0:Nat->Option (Ty × C):=Js YU
theorem gf0:GF gl0:=rfl
theorem q1c (gl:Nat->Option (Ty × C)) (h:YU.map (fun p=>gl p.1)=YU.map (fun p=>some p.2)):∀g x,gl0 g=some x->gl g=some x:=oT h
def WS:List V->Option V:=fun xs=>match xs with| [.d (.int .u64) a,.d (.int .u64) b,.d (.int .u64) (.int c)]=>if c=0 then some (.tup [.d (.int .u64) (.int ((a.toInt+b.toInt)%18446744073709551616)),.d (.int .u64) (.int ((a.toInt+b.toInt) / 18446744073709551616))])else none|_=>none
def Xw:List (Nat × (List V->Option V)):=[]
 ++[(96,WS)]
def Tk:Dm:=Tj Xw
theorem q0T (gl:Nat->Option (Ty × C)):KM (X0 gl) Xw:=by
 unfold Xw
 repeat' refine KM.append ?_ ⟨?_,trivial⟩
 ·exact trivial
 ·intro xs v h;have h:WS xs=some v:=h;show Mj (X0 gl) 96 xs v;unfold WS at h;split at h;{simp only[bt,Option.some.injEq]at h;obtain⟨rfl,rfl⟩:=h;exact zP _ _};{cases h}
theorem kU (gl:Nat->Option (Ty × C)):IA (X0 gl) Tk:=kS (q0T gl)
def noX:FuncId->Nat->List (Nat × Nat):=fun _ _=>[]
def z6 (_:Nat) {R:Type}:OvG R:=PR 1 (.int .u8)
theorem TF (N:Nat) {R:Type}:GOk (X0 gl0) 31 (z6 N (R:=R)):=XB fun A cs=>y4 A cs
def z8 (_:Nat) {R:Type}:OvG R:=PR 32 (.arr 32 (.int .u8))
theorem gK (N:Nat) {R:Type}:GOk (X0 gl0) 59 (z8 N (R:=R)):=XB fun A cs=>y8 A cs
def z7 (_:Nat) {R:Type}:OvG R:=PR 64 CV
theorem gJ (N:Nat) {R:Type}:GOk (X0 gl0) 76 (z7 N (R:=R)):=XB fun A cs=>y7 A cs
def gL (_:Nat) {R:Type}:OvG R:=fun xs _ K=>match xs with| [.d (.slice eb e) (.slice (c::cs))]=>if eb=8/\e= .int .u64 then K (.sr (.l 7) [] 0 (c::cs).length none 8 (.int .u64)) [(.l 7,.box (.d (.arr (c::cs).length (.int .u64)) (.agg (c::cs))))]else none|_=>none
theorem gM (N:Nat) {R:Type}:GOk (X0 gl0) 57 (gL N (R:=R)):=by intro xs A Kr r hr;unfold gL at hr;split at hr;{simp only[bt]at hr;obtain⟨⟨rfl,rfl⟩,hr⟩:=hr;exact⟨_,_,w8 A _ (by simp),hr⟩};{cases hr}
section
variable {gl:Nat->Option (Ty × C)}
def FF (p:List C):Nat->Nat->List Nat->Int × List Nat
 |0,_,bs=>(0,bs)|f+1,i,bs=>if i<p.length then(if Bj p i=0 then FF p f (i+1+CX (bN p i)) (bs++[i])else(Bj p i,bs))else(0,bs)
def Nw (p:List C) (i:Nat):Bool:=decide (bN p i=11)||decide (bN p i=12)
def toN (p:List C) (i:Nat):Int:=EB p (i+1) (CX (bN p i))
def Hj (p:List C) (bs:List Nat):List C:=(bs.filter (Nw p)).map fun i=>.int (toN p i)
def II (bs:List Nat) (c:C):C:=.bool (bs.any fun j=>decide (c=br (j:Int)))
def Ek (p:List C):Int:=
 if 256<p.length then 1 else if(FF p p.length 0 []).1≠0 then(FF p p.length 0 []).1 else
  if(Hj p (FF p p.length 0 []).2).all (fun c=>(II (FF p p.length 0 []).2 c).toBool)then 0 else 10
theorem q5I {p:List C} {i:Nat} {bs:List Nat} {r:Int × List Nat} (hi:i<p.length) (h:FF p (p.length-i) i bs=r):
  (Bj p i≠0->r=(Bj p i,bs))/\(Bj p i=0->i+1+CX (bN p i)<=p.length/\FF p (p.length-(i+1+CX (bN p i))) (i+1+CX (bN p i)) (bs++[i])=r):=by
 have mono:∀(f g j:Nat) (bs:List Nat),p.length-j<=f->p.length-j<=g->FF p f j bs=FF p g j bs:=by
  intro f
  induction f with
  |zero=>
   intro g j bs h1 h2;cases g with
   |zero=>rfl|succ g=>simp only[FF];rw[if_neg (by omega)]
  |succ f ih=>
   intro g j bs h1 h2;cases g with
   |zero=>simp only[FF];rw[if_neg (by omega)]|succ g=>
    simp only[FF];split;{split;{exact ih _ _ _ (by omega) (by omega)};{rfl}};{rfl}
 obtain⟨f,hf⟩:∃f,p.length-i=f+1:=⟨p.length-i-1,by omega⟩;rw[hf]at h;simp only[FF]at h;rw[if_pos hi]at h;refine⟨fun he=>?_,fun he=>⟨?_,?_⟩⟩;{rw[if_neg he]at h;exact h.symm};{unfold Bj at he;rw[if_neg (by omega)]at he;split at he;{simp at he};{split at he;{simp at he};{omega}}};{rw[if_pos he]at h;rw[<-h];exact mono _ _ _ _ (by omega) (by omega)}
theorem q5H {p:List C} {i:Nat} {bs:List Nat} (hi:p.length<=i):FF p (p.length-i) i bs=(0,bs):=by rw[show p.length-i=0 by omega];rfl
theorem q2A (p:List C) (bs:List Nat) (i:Nat):Hj p (bs++[i])=if Nw p i=true then Hj p bs++[.int (toN p i)]else Hj p bs:=by unfold Hj;rw[List.filter_append];by_cases h:Nw p i=true;{rw[if_pos h];simp[h]};{rw[if_neg h];simp[h]}
theorem q2z (p:List C) (bs:List Nat):(Hj p bs).length<=bs.length:=by unfold Hj;rw[List.length_map];exact List.length_filter_le _ _
end
abbrev DR {R:Type} (f:C->KD R->Option R):(Nat->C)->KD R->Option R:=fun a=>f (a 0)
abbrev De {R:Type} (f:C->C->KD R->Option R):(Nat->C)->KD R->Option R:=fun a=>f (a 0) (a 1)
abbrev Io {R:Type} (f:C->C->C->KD R->Option R):(Nat->C)->KD R->Option R:=fun a=>f (a 0) (a 1) (a 2)
def Cf (t:Ty) {R:Type}:(Nat->C)->(V->List (Key × O)->Option R)->KD R:=fun _ K d _=>K (V.d t (dk d 0)) []
def HY {R:Type}:(Nat->C)->(V->List (Key × O)->Option R)->KD R:=fun _ K d _=>K (V.d dv (dw (ez (dk d 0)))) []
def Bv (a:List Nat) (b:List (Nat × Sh)):Hint:=⟨a,b,[],[],[],[]⟩
def Bh (b:List (Nat × Sh)):Hint:=⟨[],b,[],[],[],[]⟩
abbrev okX (f:Nat) {R:Type} (g:OvG R):Prop:=GOk (X0 gl0) f g
def Aq:OvS (X0 gl0):=⟨fun _=>[],fun _ _ h=>nomatch h⟩
def AR {f:FuncId} {g:(R:Type)->OvG R} (h:∀{R:Type},GOk (X0 gl0) f (g R)) (o:OvS (X0 gl0)):OvS (X0 gl0):=⟨fun R=>(f,g R)::o.g R,fun R=>List.forall_mem_cons.2 ⟨h,o.ok R⟩⟩
def SR {α:Type} (l:List (Nat × List α)) (f:Nat):List α:=(E.look l f).getD []
def cV (l:List (Nat × List (Nat × List (Nat × Nat)))) (f r:Nat):List (Nat × Nat):=SR (SR l f) r
def TP:List Ty->Nat->(Nat->C)->List V
 | [],_,_=>[]|t::ts,i,a=>.d t (a i)::TP ts (i+1) a
def Lh:List Ty->List V->Option (List C)
 | [],[]=>some []|t::ts,.d u c::xs=>if u=t then(match Lh ts xs with|some cs=>some (c::cs)|none=>none)else none|_,_=>none
theorem iA:∀(ts:List Ty) (xs:List V) (cs:List C) (i:Nat) (a:Nat->C),Lh ts xs=some cs->(∀j,j<cs.length->a (i+j)=cs.getD j .nil)->xs=TP ts i a
 | [],[],_,_,_,_,_=>rfl|t::ts,.d u c::xs,cs,i,a,h,ha=>by
  simp only[Lh]at h;split at h
  ·split at h
   ·rename_i hu _ cs' hcs;cases h;subst hu;have h0:=ha 0 (Nat.zero_lt_succ _);have ih:=iA ts xs cs' (i+1) a hcs fun j hj=>by have:=ha (j+1) (Nat.succ_lt_succ hj);rw[show i+1+j=i+(j+1) by omega,this];rfl
    show _=V.d u (a i)::_;rw[<-ih,show a i=c from h0]
   ·cases h
  ·cases h
def BW {R:Type} (ts:List Ty) (P:(Nat->C)->KD R->Option R) (F:(Nat->C)->(V->List (Key × O)->Option R)->KD R):OvG R:=fun xs _ K=>match Lh ts xs with|some cs=>P (dk cs) (F (dk cs) K)|none=>none
theorem hU {R:Type} {ts:List Ty} {P P0:(Nat->C)->KD R->Option R} {F:(Nat->C)->(V->List (Key × O)->Option R)->KD R} {f:Nat} (o:OvS (X0 gl0)) (N n m:Nat) (tb:List (Nat × List (Nat × List (Nat × Nat)))) (hs:List (Nat × Hints)) (e:∀a k,P a k=P0 a k)
  (h:∀a K,exF (X0 gl0) (o.ov R) Tk (cV tb) (SR hs) N n m f (TP ts 0 a) A0 K=jn (F a K) (P0 a):=by intros;kernel_rfl):GOk (X0 gl0) f (BW ts P F):=by
 intro xs A Kr r hr;unfold BW at hr;split at hr;{rename_i cs hcs;rw[e,<-AY (F (dk cs) Kr) (P0 (dk cs)),<-h]at hr;rw[iA ts xs cs 0 (dk cs) hcs fun j _=>by rw[cf];rfl];obtain⟨v,L,h1,h2⟩:=Xv (ok0 gl0) (mo gl0) (o.sQ _) (kU gl0) _ _ _ _ _ _ hr;exact⟨v,L,h1.mono (q2x fun _=>rfl),h2⟩};{cases hr}
theorem Bf {R:Type} {ts:List Ty} {P P0:(Nat->C)->KD R->Option R} {F:(Nat->C)->(V->List (Key × O)->Option R)->KD R} {f:Nat} (o:OvS (X0 gl0)) (N:Nat) (tb:List (Nat × List (Nat × List (Nat × Nat)))) (hs:List (Nat × Hints)) (e:∀a k,P a k=P0 a k)
  (h:∀a K,exF (X0 gl0) (o.ov R) Tk (cV tb) (SR hs) N 400 8 f (TP ts 0 a) A0 K=jn (F a K) (P0 a):=by intros;kernel_rfl):GOk (X0 gl0) f (BW ts P F):=hU o N 400 8 tb hs e h
def Ca {R:Type} (sa:List Sh) (os:List (Key × OSh)) (P:List C->List Es->KD R->Option R) (F:List C->List Es->(V->List (Key × O)->Option R)->KD R):OvG R:=Rq sa os fun ds ms K=>P ds ms (F ds ms K)
theorem Cc {R:Type} {sa:List Sh} {os:List (Key × OSh)} {P P0:List C->List Es->KD R->Option R} {F:List C->List Es->(V->List (Key × O)->Option R)->KD R} {f:Nat} (o:OvS (X0 gl0)) (N:Nat) (tb:List (Nat × List (Nat × List (Nat × Nat)))) (hs:List (Nat × Hints)) (e:∀ds ms k,P ds ms k=P0 ds ms k)
  (h:∀ds ms K,exF (X0 gl0) (o.ov R) Tk (cV tb) (SR hs) N 400 8 f (Sh.EF sa 0 ds) (AK (Bo os (Sh.Gr sa) 0 ds ms)) K=jn (F ds ms K) (P0 ds ms):=by intros;kernel_rfl):GOk (X0 gl0) f (Ca sa os P F):=by
 refine bD fun ds ms K r hr=>?_;rw[e,<-AY (F ds ms K) (P0 ds ms),<-h]at hr;obtain⟨v,L,h1,h2⟩:=Xv (ok0 gl0) (mo gl0) (o.sQ _) (kU gl0) _ _ _ _ _ _ hr;exact⟨v,L,h1,h2⟩
def Tl {R:Type} (N:Nat) (k2:KD R):KD R->KD R:=fun k3 d1 m1=>(bif decide (bp (dk d1 5)<bp (dk d1 3))then(if 0<=bp (dk d1 5)/\bp (dk d1 5)<(↑(bn (bq (dk d1 2))):Int)then(k3 [dk d1 0,dk d1 1,dk d1 2,dk d1 3,br (CU rm bw (bu bw (bp (dk d1 4)*2^min (bo 8) 64)) (bu bw (bp (dr (bq (dk d1 2)) (bo (bp (dk d1 5))) gm)))),br (bu ca (bp (dk d1 5)+1))] [])else none)else(k2 [dk d1 0,dk d1 1,dk d1 4] []))
def Xy (a0 a1:C) (k1:KD R):Option R:=bif decide ((↑(bn (bq a0)):Int)<=bp a1)then(k1 [br 0,br 0,br 0,br 9] [])else(if 0<=bp a1/\bp a1<(↑(bn (bq a0)):Int)then(bif decide (18<=bu ca (bp (dr (bq a0) (bo (bp a1)) gm)))then(k1 [br 0,br 0,br 0,br 33] [])else(if 0<=bu ca (bp (dr (bq a0) (bo (bp a1)) gm))/\bu ca (bp (dr (bq a0) (bo (bp a1)) gm))<18 then(bif decide ((↑(bn (bq a0)):Int)<bu ca (bu ca (bp a1+1)+bp (cd (cd (fh Eu) (bo (bu ca (bp (dr (bq a0) (bo (bp a1)) gm))))) 1)))then(k1 [br 0,br 0,br 0,br 9] [])else(if 0<=bu ca (bp a1+1)/\bu ca (bp a1+1)<=bu ca (bu ca (bp a1+1)+bp (cd (cd (fh Eu) (bo (bu ca (bp (dr (bq a0) (bo (bp a1)) gm))))) 1))/\bu ca (bu ca (bp a1+1)+bp (cd (cd (fh Eu) (bo (bu ca (bp (dr (bq a0) (bo (bp a1)) gm))))) 1))<=(↑(bn (bq a0)):Int)then(jn (fun d1 m1=>(k1 [dk d1 0,dk d1 2,dk d1 1,br 0] [])) (fun k2=>(BP N (Tl N k2) [br (bu ca (bp (dr (bq a0) (bo (bp a1)) gm))),br (bu ca (bu ca (bp a1+1)+bp (cd (cd (fh Eu) (bo (bu ca (bp (dr (bq a0) (bo (bp a1)) gm))))) 1))),cz (cut (bq a0) (bu ca (bp a1+1)) (bu ca (bu ca (bp a1+1)+bp (cd (cd (fh Eu) (bo (bu ca (bp (dr (bq a0) (bo (bp a1)) gm))))) 1)))),br (↑(bn (cut (bq a0) (bu ca (bp a1+1)) (bu ca (bu ca (bp a1+1)+bp (cd (cd (fh Eu) (bo (bu ca (bp (dr (bq a0) (bo (bp a1)) gm))))) 1))))):Int),br 0,br 0] [])))else none))else none))else none)
def QI:=lid "" (@Xy R N)
theorem kY {R N a0 a1 k}:@QI R N a0 a1 k=Xy N a0 a1 k:=by unfold QI;rw[Ao]
def Xx:OvG R:=BW [.slice 1 (.int .u8),.int .i64] (De (QI N)) fun a K d1 m1=>K (V.tup
 [V.d (cg ca) (dk d1 0),V.d (cg bw) (dk d1 1),V.d (cg ca) (dk d1 2),
  V.d (cg ca) (dk d1 3)]) []
theorem kX:okX 145 (@Xx R N):=Bf Aq N [] [(145,[([1,0,1,1,1,1,1,1],(Bv [4,6] [(5,.d (.int .u64))])),
  ([4,1,0,1,1,1,1,1,1],(Bv [4,6,36,37] [(5,.d (.int .u64)),(38,.d (.int .i64))])),
  ([9],(Bh [(4,.d (.int .i64)),(5,.d (.int .u64)),(6,.d (.int .i64)),(7,.d (.int .i64))]))])] (fun _ _=>kY)
section
variable {R:Type} {N:Nat}
theorem cR {i:Nat} (h:i<4611686018427387904):IntKind.i64.wrap ((i:Int)+1)=((i+1:Nat):Int):=by rw[je _ (by omega)];omega
theorem aw {b:Int} (h0:0<=b) (h1:b<=255):IntKind.u64.wrap b=b:=by
 have m1:IntKind.u64.min=0:=by decide
 have m2:IntKind.u64.max=18446744073709551615:=by decide
 exact Oy (by omega) (by omega)
theorem AG:(∀{α:Type} {a b:α},cond true a b=a)/\(∀{α:Type} {a b:α},cond false a b=b)/\(∀{h:Decidable True},@decide True h=true)/\(∀{h:Decidable False},@decide False h=false)/\(∀{α:Type} {_:Decidable True} {a b:α},(if True then a else b)=a)/\(∀{α:Type} {_:Decidable False} {a b:α},(if False then a else b)=b)/\(!true)=false/\(!false)=true:=⟨@fun _ _ _=>rfl,@fun _ _ _=>rfl,@fun _=>decide_true _,@fun _=>decide_false _,@fun _ _ _ _=>if_pos trivial,@fun _ _ _ _=>if_neg id,rfl,rfl⟩
theorem kW (p:List C) (hw:C.wf (.slice 1 (.int .u8)) (.slice p)) (i:Nat) (hl:p.length<=256) (hi:i<=100000) (hN:20<N) (k:KD R):QI N (.slice p) (.int i) k=
  k [.int (if Bj p i=0 then bN p i else 0),.int (if Bj p i=0 then EB p (i+1) (CX (bN p i))else 0),.int (if Bj p i=0 then((i+1+CX (bN p i):Nat):Int)else 0),.int (Bj p i)] []:=by
 rw[kY];unfold Xy;simp only[Ac,AF];by_cases h1:p.length<=i
 ·have h1':(p.length:Int)<=(i:Int):=by omega
  have e:Bj p i=9:=by unfold Bj;rw[if_pos h1]
  simp only[h1',e,AG,show ¬(9:Int)=0 by decide]
 have h1':¬(p.length:Int)<=(i:Int):=by omega
 have c1:0<=(i:Int)/\(i:Int)<(p.length:Int):=by omega
 obtain⟨b1,b2,b3⟩:=PL hw (i:=i) (by omega);have w1:IntKind.i64.wrap (bN p i)=bN p i:=je _ (by omega);simp only[h1',c1,and_self,AG,bx,b1,AF,w1];by_cases h2:18<=bN p i
 ·have e:Bj p i=33:=by unfold Bj;rw[if_neg h1,if_pos h2]
  simp only[h2,e,AG,show ¬(33:Int)=0 by decide]
 have hm:cd (cd (fh Eu) (bN p i).toNat) 1= .int (CX (bN p i)):=by
  have:=q01 (bN p i).toNat (by omega)
  rwa [gy b2]at this
 have m8:=qK (bN p i);have c2:0<=bN p i/\bN p i<18:=by omega
 simp only[h2,hm,c2,AF,and_self,AG];generalize hmm:CX (bN p i)=m at hm m8;have w2:IntKind.i64.wrap ((i:Int)+1)=((i+1:Nat):Int):=cR (by omega);have w3:IntKind.i64.wrap (((i+1:Nat):Int)+(m:Int))=((i+1+m:Nat):Int):=by rw[je _ (by omega)];omega
 simp only[w2,w3];by_cases h3:p.length<i+1+m
 ·have h3':(p.length:Int)<((i+1+m:Nat):Int):=by omega
  have e:Bj p i=9:=by unfold Bj;rw[if_neg h1,if_neg h2,hmm,if_pos h3]
  simp only[h3',e,AG,show ¬(9:Int)=0 by decide]
 have h3':¬(p.length:Int)<((i+1+m:Nat):Int):=by omega
 have e:Bj p i=0:=by unfold Bj;rw[if_neg h1,if_neg h2,hmm,if_neg h3]
 have c3:0<=((i+1:Nat):Int)/\((i+1:Nat):Int)<=((i+1+m:Nat):Int)/\((i+1+m:Nat):Int)<=(p.length:Int):=by omega
 have hql:(cut p ((i+1:Nat):Int) ((i+1+m:Nat):Int)).length=m:=by unfold cut;simp;omega
 have hqe:∀j,j<m->(cut p ((i+1:Nat):Int) ((i+1+m:Nat):Int)).getD j .nil= .int (bN p (i+1+j)):=by intro j hj;rw[<-(PL hw (i:=i+1+j) (by omega)).1];unfold cut;simp[du,List.getElem?_drop,List.getElem?_take,hj]
 simp only[h3',c3,e,and_self,AG,AY];generalize cut p ((i+1:Nat):Int) ((i+1+m:Nat):Int)=q at hql hqe;rw[hql];refine(Km (F:=Tl N _) (fun j=>[.int (bN p i),.int ((i+1+m:Nat):Int),.slice q,.int m,.int (EB p (i+1) j),.int j]) (fun _=>[]) m _ (fun j hj rec=>?_) (fun rec=>?_) (N:=N) (by omega)).trans rfl
 ·obtain⟨a1,a2,a3⟩:=fD hw (i:=i+1) (k:=j) (by omega) (by omega);obtain⟨_,d2,d3⟩:=PL hw (i:=i+1+j) (by omega);have e1:(j:Int)<(m:Int):=by omega
  have e2:0<=(j:Int)/\(j:Int)<(q.length:Int):=by omega
  have e3:((2:Int)^min (bo 8) 64)=256:=by decide
  have e4:IntKind.u64.wrap (EB p (i+1) j*256)=EB p (i+1) j*256:=by
   have:=a3 (by omega);have m1:IntKind.u64.min=0:=by decide
   have m2:IntKind.u64.max=18446744073709551615:=by decide
   exact Oy (by omega) (by omega)
  unfold Tl;simp only[AI,AL,AP,AU,Aa,Ag,AF,Ac,e1,e2,AG,and_self,bx,hqe j hj,e3,e4,aw d2 d3,q4q a1 (a3 (by omega)) d2 d3,cR (show j<4611686018427387904 by omega)]
  all_goals rfl
 ·unfold Tl;simp only[AI,AL,AP,AU,Aa,Ag,AF,fw,AG]
  all_goals rfl
theorem u7 (_:GF gl0) (A:Key->Option O) (p:List C) (at_:Nat) (hl:p.length<=256) (hat:at_<=100000):Bn (X0 gl0) 145 [.d (.slice 1 (.int .u8)) (.slice p),.d (.int .i64) (.int at_)] A (lB p at_) []:=by refine XY (ts:=[.slice 1 (.int .u8),.int .i64]) (cs:=[.slice p,.int at_]) fun W=>?_;refine aC (kX 21) ?_;show Xx 21 [.d (.slice 1 (.int .u8)) (.slice p),.d (.int .i64) (.int at_)] A kR=_;simp only[Xx,BW,Lh,and_self,if_true,AI,AL,AP,AU,Aa,DR,De,Io,Cf,HY];rw[kW p (W 0 _ _ rfl rfl) at_ hl hat (by omega)];rfl
end
def Wx {R:Type} (N:Nat) (k1:KD R) (k2:KD R):KD R->KD R:=fun k3 d2 m2=>(bif decide (bp (dk d2 2)<bp (dk d2 1))then(if 0<=bp (dk d2 2)/\bp (dk d2 2)<(↑(bn (bq (dk d2 0))):Int)then(bif DY dv (dE dv (dm m2 0))then(bif Hd (dE dv (dm m2 0)) (dr (bq (dk d2 0)) (bo (bp (dk d2 2))) gm)then(bif !ez (Ji (dE dv (dm m2 0)) (dr (bq (dk d2 0)) (bo (bp (dk d2 2))) gm))then(k1 [br 10] [])else(if AW dv (dE dv (dm m2 0))=true then(k3 [dk d2 0,dk d2 1,br (bu ca (bp (dk d2 2)+1))] [unE (dE dv (dm m2 0))])else none))else(k1 [br 10] []))else none)else none)else(k2 [] []))
def Wy (k1:KD R) (k2:KD R):KD R->KD R:=fun k3 d1 m1=>(bif decide (bp (dk d1 2)<(↑(bn (bq (dk d1 0))):Int))then(QI N (dk d1 0) (dk d1 2) (fun d2 m2=>(bif !decide (bp (dk d2 3)=0)then(k1 [dk d2 3] [])else(jn (fun d3 m3=>(jn (fun d4 m4=>(bif di (bn (bq (dk d4 2))) (bn (bq (dk d4 2)))then(if AW dv (dE dv (dm m4 0))=true then(k3 [dk d4 0,cz (bq (dk d4 2)),dk d4 1] [unE (dE dv (dm m4 0))])else none)else none)) (fun k4=>(bif ez (dk d3 4)then(bif di (bn (bq (dk d3 3))) (bn (bq (dk d3 3)))then(if(bn (bq (dk d3 3))+1)*8<=140737488355328/\bn (bq (dk d3 3))+1<=9223372036854775807 then(bif di (bn (bq (dk d3 3))+1) (bn (bq (dk d3 3)++[dk d3 1]))then(if AW dv (dE dv (dm m3 0))=true then(k4 [dk d3 0,dk d3 2,cz (bq (dk d3 3)++[dk d3 1])] [unE (dE dv (dm m3 0))])else none)else none)else none)else none)else(bif di (bn (bq (dk d3 3))) (bn (bq (dk d3 3)))then(if AW dv (dE dv (dm m3 0))=true then(k4 [dk d3 0,dk d3 2,cz (bq (dk d3 3))] [unE (dE dv (dm m3 0))])else none)else none))))) (fun k4=>(bif decide (bp (dk d2 0)=11)then(bif di (bn (bq (dk d1 1))) (bn (bq (dk d1 1)))then(if AW dv (Fg (dE dv (dm m1 0)) (br (bu bw (bp (dk d1 2)))) (V.d dv (dw true)))=true then(k4 [dk d1 0,dk d2 1,dk d2 2,cz (bq (dk d1 1)),dw true] [unE (Fg (dE dv (dm m1 0)) (br (bu bw (bp (dk d1 2)))) (V.d dv (dw true)))])else none)else none)else(bif di (bn (bq (dk d1 1))) (bn (bq (dk d1 1)))then(if AW dv (Fg (dE dv (dm m1 0)) (br (bu bw (bp (dk d1 2)))) (V.d dv (dw true)))=true then(k4 [dk d1 0,dk d2 1,dk d2 2,cz (bq (dk d1 1)),dw (decide (bp (dk d2 0)=12))] [unE (Fg (dE dv (dm m1 0)) (br (bu bw (bp (dk d1 2)))) (V.d dv (dw true)))])else none)else none)))))))else(bif di (bn (bq (dk d1 1))) (bn (bq (dk d1 1)))then(if AW dv (dE dv (dm m1 0))=true then(k2 [cz (bq (dk d1 1))] [unE (dE dv (dm m1 0))])else none)else none))
def Wz (a0:C) (k1:KD R):Option R:=bif decide (256<(↑(bn (bq a0)):Int))then(k1 [br 1] [])else(jn (fun d1 m1=>(jn (fun d2 m2=>(k1 [br 0] [])) (fun k2=>(if AW dv (dE dv (dm m1 0))=true then(BP N (Wx N k1 k2) [cz (bq (dk d1 0)),br (↑(bn (bq (dk d1 0))):Int),br 0] [unE (dE dv (dm m1 0))])else none)))) (fun k2=>(BP N (Wy N k1 k2) [a0,cz [],br 0] [unE []])))
def TE:=lid "" (@Wz R N)
theorem gH {R N a0 k}:@TE R N a0 k=Wz N a0 k:=by unfold TE;rw[Ao]
def Ww:OvG R:=BW [.slice 1 (.int .u8)] (DR (TE N)) (Cf (cg ca))
theorem bf:okX 126 (@Ww R N):=Bf (AR (kX N) <| Aq) N [] [(126,[([1,0,1,1,1,1],(Bv [3] [(4,.sl 8 (.int .u64) 5004)])),
  ([4,1,0,1,1,1,1],(Bv [0,3] [(4,.sl 8 (.int .u64) 5004),(5,.d (.int .i64))])),
  ([0,0,1,1,1,4,1,5,4,1,0,1,1,1,1],(Bv [0,3,7,8] [(4,.sl 8 (.int .u64) 5004),(39,.d .bool)])),
  ([1,0,1,1,1,4,1,5,4,1,0,1,1,1,1],(Bv [0,3,8] [(4,.sl 8 (.int .u64) 5004)])),
  ([1,0,1,1,1,1,1],(Bh [])),
  ([4,1,0,1,1,1,1,1],(Bv [3,45,46] [(47,.d (.int .i64))])),
  ([9],(Bh [(2,.d (.int .i64))]))])] (fun _ _=>gH)
section
variable {R:Type} {N:Nat}
def bE (j:Nat):C × C:=(.int j,.bool true)
theorem fI (x:C) (j:Nat):C.beq x (.int j)=decide (x= .int (j:Int)):=by rw[Bool.eq_iff_iff,C.beq_iff,decide_eq_true_eq]
theorem YX (c:C):∀bs:List Nat,DE (bs.map bE) c=(II bs c).toBool
 | []=>rfl|j::bs=>by have ih:=YX c bs;simp only[II,ez]at ih;simp only[ek,bE,DE,II,ez,List.any_cons,fI];rw[ih];cases decide (c= .int (j:Int)) <;> rfl
theorem lW (c:C):∀bs:List Nat,DE (bs.map bE) c=true->getM (bs.map bE) c= .bool true
 | [],h=>by cases h
 |j::bs,h=>by have ih:=lW c bs;simp only[ek,bE,DE,getM]at ih h ⊢;cases hb:C.beq c (.int j);{rw[hb]at h;simp only[cond_false]at h ⊢;exact ih h};{rfl}
theorem VS (i:Nat):∀bs:List Nat,i∉bs->Fg (dE dv (bs.map bE)) (.int i) (V.d dv (.bool true))=dE dv ((bs++[i]).map bE)
 | [],_=>rfl|j::bs,h=>by
  have ih:=VS i bs fun x=>h (List.mem_cons_of_mem _ x);have e:C.beq (.int (i:Int)) (.int (j:Int))=false:=by rw[fI,decide_eq_false_iff_not];intro x;injection x with x;exact h (by rw[show i=j by omega];exact List.mem_cons_self)
  simp only[dE,ek,List.map_append,bE,Fg,List.cons_append]at ih ⊢;rw[e];simp only[fk,if_false];rw[ih]
theorem dL {i:Nat} (h:i<=100000):IntKind.u64.wrap (i:Int)=i:=by
 have m1:IntKind.u64.min=0:=by decide
 have m2:IntKind.u64.max=18446744073709551615:=by decide
 exact Oy (by omega) (by omega)
theorem NQ (m:Es):dm [m] 0=m:=rfl
theorem bh {p:List C} (h0:¬256<p.length) {bs:List Nat} (h:(0,bs)=FF p p.length 0 []):Ek p=if(Hj p bs).all (fun c=>(II bs c).toBool)then 0 else 10:=by unfold Ek;rw[if_neg h0,<-h,if_neg (by simp)]
theorem bg {p:List C} (h0:¬256<p.length) {bs:List Nat} {e:Int} (he:e≠0) (h:FF p p.length 0 []=(e,bs)):Ek p=e:=by unfold Ek;rw[if_neg h0,h,if_pos he]
theorem bc (p:List C) (hw:C.wf (.slice 1 (.int .u8)) (.slice p)) (hN:1000<N) (k:KD R):TE N (.slice p) k=k [.int (Ek p)] []:=by
 rw[gH];unfold Wz;simp only[Ac];by_cases h0:256<p.length
 ·have h0':(256:Int)<(p.length:Int):=by omega
  have e:Ek p=1:=by unfold Ek;rw[if_pos h0]
  simp only[h0',e,AG]
 have h0':¬(256:Int)<(p.length:Int):=by omega
 simp only[h0',AG,AY]
 refine Nz (F:=Wy N k _) (fun x:Nat × List Nat=>[.slice p,.slice (Hj p x.2),.int x.1]) (fun x=>[x.2.map bE]) (fun x=>p.length-x.1)
  (fun x=>x.1<=p.length/\x.2.length<=x.1/\(∀j∈x.2,j<x.1)/\FF p (p.length-x.1) x.1 x.2=FF p p.length 0 []) (fun _=>k [.int (Ek p)] []) ?_ N (0,[]) ⟨Nat.zero_le _,cn _,(fun _ h=>nomatch h),rfl⟩ (by show p.length-0<N;omega)
 rintro⟨i,bs⟩ ⟨hi,hb,hj,hS⟩ rec yc;dsimp only at hi hb hj hS yc;have hln:=q2z p bs;unfold Wy;by_cases hlt:i<p.length
 ·have yb:(i:Int)<(p.length:Int):=by omega
  obtain⟨s1,s2⟩:=q5I hlt hS;simp only[AI,AL,AP,AU,AF,Ac,yb,AG,kW p hw i (show p.length<=256 by omega) (show i<=100000 by omega) (show 20<N by omega)];by_cases he:Bj p i=0
  ·obtain⟨q1,q2⟩:=s2 he;have hbi:i∉bs:=fun x=>Nat.lt_irrefl _ (hj _ x)
   have hr:=yc (i+1+CX (bN p i),bs++[i]) ⟨q1,by show(bs++[i]).length<=i+1+CX (bN p i);simp;omega,fun j h=>by
    show j<i+1+CX (bN p i);rcases ic.1 h with h|h;{have:=hj _ h;omega}
    ·rw[gh.1 h];omega,q2⟩ (by show p.length-(i+1+CX (bN p i))<p.length-i;omega)
   have g1:((Hj p bs).length+1)*8<=140737488355328/\(Hj p bs).length+1<=9223372036854775807:=by omega
   rw[q2A]at hr;by_cases l1:bN p i=11;{rw[if_pos (by simp[Nw,l1])]at hr;simp only[he,AY,l1,NQ,dL (show i<=100000 by omega),VS i bs hbi,Aj,Al,cm,AX,AF,Ac,AI,AL,AP,AU,Aa,AG,g1,and_self,da,dp,dx,cf];rw[<-hr,l1];unfold toN;rw[l1]};{by_cases l2:bN p i=12;{rw[if_pos (by simp[Nw,l2])]at hr;simp only[he,AY,l2,show ¬(12:Int)=11 by decide,NQ,dL (show i<=100000 by omega),VS i bs hbi,Aj,Al,cm,AX,AF,Ac,AI,AL,AP,AU,Aa,AG,g1,and_self,da,dp,dx,cf];rw[<-hr,l2];unfold toN;rw[l2]};{rw[if_neg (by simp[Nw,l1,l2])]at hr;simp only[he,AY,l1,l2,NQ,dL (show i<=100000 by omega),VS i bs hbi,Aj,Al,cm,AX,AF,Ac,AI,AL,AP,AU,Aa,AG,hr]}}
  ·rw[bg h0 he (s1 he)];simp only[he,AG]
 ·have yb:¬(i:Int)<(p.length:Int):=by omega
  obtain rfl:i=p.length:=by omega
  rw[q5H (cn _)]at hS;simp only[AI,AL,AP,AF,Ac,yb,AG,cm,NQ,Aj,Al];rw[bh h0 hS];generalize hL:Hj p bs=L at hln
  refine Nz (F:=Wx N k _) (fun j:Nat=>[.slice L,.int L.length,.int j]) (fun _=>[bs.map bE]) (fun j=>L.length-j) (fun j=>j<=L.length/\∀c∈L.take j,(II bs c).toBool=true)
   (fun _=>k [.int (if L.all (fun c=>(II bs c).toBool)then 0 else 10)] []) ?_ N 0 ⟨Nat.zero_le _,fun _ h=>by simp at h⟩ (by show L.length-0<N;omega)
  rintro j ⟨hj1,xj⟩ rec2 z4i;unfold Wx;by_cases hjl:j<L.length
  ·have e1:(j:Int)<(L.length:Int):=by omega
   have e2:0<=(j:Int)/\(j:Int)<(L.length:Int):=by omega
   have z3m:L.getD j .nil∈L:=by rw[du,cr hjl];exact uh hjl
   by_cases hin:(II bs (L.getD j .nil)).toBool=true
   ·have hh:DE (bs.map bE) (L.getD j .nil)=true:=(YX _ _).trans hin
    have:=z4i (j+1) ⟨hjl,fun c hc=>by
     rw[List.take_add_one,ic]at hc;rcases hc with hc|hc;{exact xj c hc}
     ·rw[cr hjl]at hc;simp only[Option.toList_some,gh]at hc;subst hc;rw[du,cr hjl]at hin;exact hin⟩ (by omega)
    simp only[AI,AL,AP,AF,Ac,e1,e2,AG,and_self,NQ,EV,EZ,FJ,bx,hh,lW _ _ hh,AX,Aj,Al,cR (show j<4611686018427387904 by omega),this]
   ·have hh:DE (bs.map bE) (L.getD j .nil)=false:=(YX _ _).trans (by simpa using hin);have er:L.all (fun c=>(II bs c).toBool)=false:=by cases h:L.all (fun c=>(II bs c).toBool);{rfl};{exact absurd (eh.1 h _ z3m) hin}
    simp only[AI,AL,AP,AF,Ac,e1,e2,AG,and_self,NQ,EV,EZ,bx,hh,er,fk]
  ·have e1:¬(j:Int)<(L.length:Int):=by omega
   rw[List.take_of_length_le (by omega)]at xj;have er:L.all (fun c=>(II bs c).toBool)=true:=by rw[eh];exact xj
   simp only[AL,AP,AF,e1,AG,er]
end
section
variable {R:Type} {N:Nat}
theorem v9 (_:GF gl0) (A:Key->Option O) (p:List C):Bn (X0 gl0) 126 [.d (.slice 1 (.int .u8)) (.slice p)] A (.d (.int .i64) (.int (Ek p))) []:=by refine XY (ts:=[.slice 1 (.int .u8)]) (cs:=[.slice p]) fun W=>?_;refine aC (bf 1001) ?_;show Ww 1001 [.d (.slice 1 (.int .u8)) (.slice p)] A kR=_;simp only[Ww,BW,Lh,and_self,if_true,AI,AL,AP,AU,Aa,DR,De,Io,Cf,HY];rw[bc p (W 0 _ _ rfl rfl) (by omega)];rfl
end
theorem cG {X:Cx} {f:FuncId} {eb:Nat} {e:Ty} {c:C} {A:Key->Option O} {v:V} {L:List (Key × O)} (h:Bn X f [.d (.slice eb e) (.slice c.elems)] A v L):Bn X f [.d (.slice eb e) c] A v L:=by intro A' Γ w args hA hg hc hn hr;have hs:args.size=1:=hn.symm;have h0:AE Γ (.d (.slice eb e) c) args[0]:=hr 0 _ _ rfl (dz (by omega:0<args.size));obtain⟨h2,_⟩:=(Bx rfl rfl).1 h0;simp only[AA,AH]at h2;obtain⟨_,_,_,cs,rfl,_⟩:=h2;exact h A' Γ w args hA hg hc hn hr
def gI {R:Type}:OvG R:=fun xs _ K=>match xs with| [.d t c]=>if t= .slice 1 (.int .u8)then K (.d (.int .i64) (.int (Ek c.elems))) []else none|_=>none
def gU (_:Nat) {R:Type}:OvG R:=gI
theorem u0 (N:Nat) {R:Type}:GOk (X0 gl0) 126 (gU N (R:=R)):=by intro xs A Kr r hr;unfold gU gI at hr;split at hr;{simp only[bt]at hr;obtain⟨rfl,hr⟩:=hr;exact⟨_,_,cG (v9 gf0 A _),hr⟩};{cases hr}
theorem q5W {X:Cx} {f:FuncId} {eb:Nat} {e:Ty} {c:C} {y:V} {A:Key->Option O} {v:V} {L:List (Key × O)} (h:Bn X f [.d (.slice eb e) (.slice c.elems),y] A v L):Bn X f [.d (.slice eb e) c,y] A v L:=by intro A' Γ w args hA hg hc hn hr;have hs:args.size=2:=hn.symm;have h0:AE Γ (.d (.slice eb e) c) args[0]:=hr 0 _ _ rfl (dz (by omega:0<args.size));obtain⟨h2,_⟩:=(Bx rfl rfl).1 h0;simp only[AA,AH]at h2;obtain⟨_,_,_,cs,rfl,_⟩:=h2;exact h A' Γ w args hA hg hc hn hr
theorem q1w {X:Cx} {f:FuncId} {k:IntKind} {c:C} {y:V} {A:Key->Option O} {v:V} {L:List (Key × O)} (h:Bn X f [y,.d (.int k) (.int c.toInt)] A v L):Bn X f [y,.d (.int k) c] A v L:=by
 intro A' Γ w args hA hg hc hn hr;have hs:args.size=2:=hn.symm;have h0:AE Γ (.d (.int k) c) args[1]:=hr 1 _ _ rfl (dz (by omega:1<args.size));obtain⟨h2,_⟩:=(Bx rfl rfl).1 h0;simp only[AA,AH]at h2;have hc':∃i,c= .int i:=by cases c <;> simp_all
 obtain⟨i,rfl⟩:=hc';exact h A' Γ w args hA hg hc hn hr
def kZ {R:Type}:OvG R:=fun xs _ K=>match xs with
 | [.d t c,.d u i]=>if t= .slice 1 (.int .u8)/\u= .int .i64 then(if c.elems.length<=256/\0<=i.toInt/\i.toInt<=100000 then
   K (.tup [.d (.int .i64) (.int (if Bj c.elems i.toInt.toNat=0 then bN c.elems i.toInt.toNat else 0)),.d (.int .u64) (.int (if Bj c.elems i.toInt.toNat=0 then EB c.elems (i.toInt.toNat+1) (CX (bN c.elems i.toInt.toNat))else 0)),.d (.int .i64) (.int (if Bj c.elems i.toInt.toNat=0 then((i.toInt.toNat+1+CX (bN c.elems i.toInt.toNat):Nat):Int)else 0)),.d (.int .i64) (.int (Bj c.elems i.toInt.toNat))]) []else none)else none
 |_=>none
def gW (_:Nat) {R:Type}:OvG R:=kZ
theorem u9 (N:Nat) {R:Type}:GOk (X0 gl0) 145 (gW N (R:=R)):=by intro xs A Kr r hr;unfold gW kZ at hr;split at hr;{simp only[bt]at hr;obtain⟨⟨rfl,rfl⟩,⟨h1,h2,h3⟩,hr⟩:=hr;rename_i c i;refine⟨_,_,q5W (q1w ?_),hr⟩;have:=u7 gf0 A c.elems i.toInt.toNat h1 (by omega);rw[gy h2]at this;simpa only[lB]using this};{cases hr}
def Yp {R:Type} (N:Nat) (a0:C) (k1:KD R):Option R:=k1 [dt (dt (dt (dt (dt (fh [br 0,br 0,br 0,fh (dh 32 (br 0)),br 0]) 0 (cd a0 0)) 1 (cd a0 1)) 2 (cd a0 2)) 3 (cd a0 3)) 4 (cd a0 4)] []
def Qi:=lid "" (@Yp R N)
theorem nR {R N a0 k}:@Qi R N a0 k=Yp N a0 k:=by unfold Qi;rw[Ao]
def q2f:OvG R:=BW [CV] (DR (Qi N)) (Cf CV)
theorem q2h:okX 77 (@q2f R N):=Bf Aq N [(77,[(0,[(1,5)])])] [(77,[([9],⟨[],[(2,.as (.ptr (.l 2) [] CV))],[],[(.l 2,.box (.d CV))],[],[]⟩)])] (fun _ _=>nR)
def UO (k2:KD R):KD R->KD R:=fun k3 d1 m1=>(bif decide (bp (dk d1 2)<bp (dk d1 1))then(if 0<=bp (dk d1 2)/\bp (dk d1 2)<(↑(bn (bq (dk d1 0))):Int)then(Qi N (dr (bq (dk d1 0)) (bo (bp (dk d1 2))) gm) (fun d2 m2=>(bif di (bn (bq (dk d1 7))) (bn (bq (dk d1 7)))then(if(bn (bq (dk d1 7))+1)*64<=140737488355328/\bn (bq (dk d1 7))+1<=9223372036854775807 then(bif di (bn (bq (dk d1 7))+1) (bn (bq (dk d1 7)++[dk d2 0]))then(k3 [dk d1 0,dk d1 1,br (bu ca (bp (dk d1 2)+1)),dk d1 3,dk d1 4,dk d1 5,dk d1 6,cz (bq (dk d1 7)++[dk d2 0]),dk d1 8] [])else none)else none)else none)))else none)else(k2 [dk d1 3,dk d1 4,dk d1 5,dk d1 6,cz (bq (dk d1 7)),dk d1 8] []))
def Yq (a0:C) (k1:KD R):Option R:=jn (fun d1 m1=>(k1 [fh [dk d1 0,dk d1 1,dk d1 2,dk d1 3,cz (bq (dk d1 4))]] [])) (fun k2=>(BP N (UO N k2) [cd a0 4,br (↑(bn (bq (cd a0 4))):Int),br 0,cd a0 0,cd a0 1,cd a0 2,cd a0 3,cz [],fh [AO (cg dj),AO (cg bw),AO (dc 2 (cg bw)),AO (dc 2 (cg bw)),cz []]] []))
def Qj:=lid "" (@Yq R N)
theorem nS {R N a0 k}:@Qj R N a0 k=Yq N a0 k:=by unfold Qj;rw[Ao]
def q2i:OvG R:=BW [Bg] (DR (Qj N)) (Cf Bg)
theorem q2k:okX 60 (@q2i R N):=Bf (AR (q2h N) <| Aq) N [(60,[(0,[(1,5)]),(5,[(25,7),(5,6)])])] [(60,[([1,0,1,1],⟨[2,3],[],[],[(.l 3,.box (.agg Bg [.d (.int .u32),.d (.int .u64),.d (.arr 2 (.int .u64)),.d (.arr 2 (.int .u64)),(.ts 64 CV)]))],[],[]⟩),
  ([4,1,0,1,1],⟨[2,3,16,17],[(18,.d (.int .i64))],[],[(.l 3,.box (.agg Bg [.d (.int .u32),.d (.int .u64),.d (.arr 2 (.int .u64)),.d (.arr 2 (.int .u64)),(.ts 64 CV)]))],[],[]⟩),
  ([9],⟨[],[(2,.as (.ptr (.l 2) [] Bg))],[],[(.l 2,.box (.d Bg))],[],[]⟩)])] (fun _ _=>nS)
def UL {R:Type} (N:Nat) (k2:KD R):KD R->KD R:=fun k3 d1 m1=>(bif decide (bp (dk d1 1)<32)then(if 0<=bp (dk d1 1)/\bp (dk d1 1)<32 then(if 0<=bp (dk d1 1)/\bp (dk d1 1)<32 then(if 0<=bp (dk d1 1)/\bp (dk d1 1)<32 then(if 0<=bp (dk d1 1)/\bp (dk d1 1)<32 then(k3 [dk d1 0,br (bu ca (bp (dk d1 1)+1)),dk d1 2,dt (dt (dk d1 3) 0 (dt (cd (dk d1 3) 0) (bo (bp (dk d1 1))) (cd (cd (dk d1 0) 0) (bo (bp (dk d1 1)))))) 1 (dt (cd (dt (dk d1 3) 0 (dt (cd (dk d1 3) 0) (bo (bp (dk d1 1))) (cd (cd (dk d1 0) 0) (bo (bp (dk d1 1)))))) 1) (bo (bp (dk d1 1))) (cd (cd (dk d1 0) 1) (bo (bp (dk d1 1)))))] [])else none)else none)else none)else none)else(k2 [dk d1 2,dk d1 3] []))
def Yn (a0:C) (k1:KD R):Option R:=jn (fun d1 m1=>(k1 [dk d1 1] [])) (fun k2=>(BP N (UL N k2) [a0,br 0,fh [fh (dh 32 (fh (dh 16 (br 0)))),fh (dh 32 (fh (dh 16 (br 0))))],fh [fh (dh 32 (fh (dh 16 (br 0)))),fh (dh 32 (fh (dh 16 (br 0))))]] []))
def Qh:=lid "" (@Yn R N)
theorem nN {R N a0 k}:@Qh R N a0 k=Yn N a0 k:=by unfold Qh;rw[Ao]
def q2a:OvG R:=BW [DG] (DR (Qh N)) (Cf DG)
theorem q2b:okX 78 (@q2a R N):=Bf Aq N [(78,[(0,[(1,5)])])] [(78,[([1,0,1,1],(Bv [2,3] [])),
  ([4,1,0,1,1],(Bv [1,2,3] [(5,.d (.int .i64))])),
  ([9],⟨[],[(2,.as (.ptr (.l 2) [] DG))],[],[(.l 2,.box (.d DG))],[],[]⟩)])] (fun _ _=>nN)
def UM {R:Type} (N:Nat) (k2:KD R):KD R->KD R:=fun k3 d2 m2=>(bif decide (bp (dk d2 2)<bp (dk d2 1))then(if 0<=bp (dk d2 2)/\bp (dk d2 2)<(↑(bn (bq (dk d2 0))):Int)then(bif di (bn (bq (dk d2 5))) (bn (bq (dk d2 5)))then(if(bn (bq (dk d2 5))+1)*32<=140737488355328/\bn (bq (dk d2 5))+1<=9223372036854775807 then(bif di (bn (bq (dk d2 5))+1) (bn (bq (dk d2 5)++[dr (bq (dk d2 0)) (bo (bp (dk d2 2))) gm]))then(k3 [dk d2 0,dk d2 1,br (bu ca (bp (dk d2 2)+1)),dk d2 3,dk d2 4,cz (bq (dk d2 5)++[dr (bq (dk d2 0)) (bo (bp (dk d2 2))) gm]),dk d2 6] [])else none)else none)else none)else none)else(k2 [dk d2 3,dk d2 4,cz (bq (dk d2 5)),dk d2 6] []))
def Yo (a0:C) (k1:KD R):Option R:=Qh N (cd a0 0) (fun d1 m1=>(jn (fun d2 m2=>(k1 [fh [dk d2 0,dk d2 1,cz (bq (dk d2 2))]] [])) (fun k2=>(BP N (UM N k2) [cd a0 2,br (↑(bn (bq (cd a0 2))):Int),br 0,dk d1 0,cd a0 1,cz [],fh [fh [fh (dh 32 (fh (dh 16 (br 0)))),fh (dh 32 (fh (dh 16 (br 0))))],AO (cg dj),cz []]] []))))
def Nu:=lid "" (@Yo R N)
theorem nP {R N a0 k}:@Nu R N a0 k=Yo N a0 k:=by unfold Nu;rw[Ao]
def q2d:OvG R:=BW [Cn] (DR (Nu N)) (Cf Cn)
theorem q2e:okX 61 (@q2d R N):=Bf (AR (q2b N) <| Aq) N [(61,[(0,[(1,5)]),(1,[(8,7)])])] [(61,[([1,0,1,1],⟨[2,3],[],[],[(.l 3,.box (.agg Cn [.d DG,.d (.int .u32),(.ts 32 (.arr 32 (.int .u8)))]))],[],[]⟩),
  ([4,1,0,1,1],⟨[2,3,13,14],[(15,.d (.int .i64))],[],[(.l 3,.box (.agg Cn [.d DG,.d (.int .u32),(.ts 32 (.arr 32 (.int .u8)))]))],[],[]⟩),
  ([9],⟨[],[(2,.as (.ptr (.l 2) [] Cn))],[],[(.l 2,.box (.d Cn))],[],[]⟩)])] (fun _ _=>nP)
def Yr (a0:C) (k1:KD R):Option R:=Qj N (cd a0 0) (fun d1 m1=>(Nu N (cd (cd a0 1) (bo 0)) (fun d2 m2=>(Nu N (cd (cd a0 1) (bo 1)) (fun d3 m3=>(k1 [fh [dk d1 0,dt (dt (AO (dc 2 Cn)) 0 (dk d2 0)) 1 (dk d3 0)]] []))))))
def Nv:=lid "" (@Yr R N)
theorem nV {R N a0 k}:@Nv R N a0 k=Yr N a0 k:=by unfold Nv;rw[Ao]
def q2n:OvG R:=BW [Ch] (DR (Nv N)) (Cf Ch)
theorem q2o:okX 34 (@q2n R N):=Bf (AR (q2k N) <| AR (q2e N) <| Aq) N [(34,[(0,[(1,5)]),(1,[(5,7),(9,7),(13,7)])])] [(34,[([9],⟨[],[(2,.as (.ptr (.l 2) [] Ch))],[],[(.l 2,.box (.d Ch))],[],[]⟩)])] (fun _ _=>nV)
def Za {R:Type} (N:Nat) (k1:KD R):Option R:=k1 [dt (fh [fh (dh 8 (br 0)),fh (dh 64 (br 0)),br 0]) 0 (dt (dt (dt (dt (dt (dt (dt (dt (AO (dc 8 (cg dj))) 0 (br 1779033703)) 1 (br 3144134277)) 2 (br 1013904242)) 3 (br 2773480762)) 4 (br 1359893119)) 5 (br 2600822924)) 6 (br 528734635)) 7 (br 1541459225))] []
def RJ:=lid "" (@Za R N)
theorem qA {R N k}:@RJ R N k=Za N k:=by unfold RJ;rw[Ao]
def q3h:OvG R:=BW [] (fun a=>RJ N) fun a K d1 m1=>K (V.ptr (df 1) [] Cm) [(df 1,O.box (V.d Cm (dk d1 0)))]
theorem q3i:okX 141 (@q3h R N):=Bf Aq N [] [(141,[([9],⟨[],[(0,.as (.ptr (.l 1) [] Cm))],[],[(.l 1,.box (.d Cm))],[],[]⟩)])] (fun _ _=>qA)
def Uj {R:Type} (N:Nat) (k2:KD R):KD R->KD R:=fun k3 d1 m1=>(bif decide (bp (dk d1 3)<bp (dk d1 1))then(if 0<=bp (dk d1 3)/\bp (dk d1 3)<(↑(bn (bq (dk d1 0))):Int)then(k3 [dk d1 0,dk d1 1,br (CU rm dj (bu dj (bp (dk d1 2)*2^min (bo 8) 32)) (bu dj (bp (dr (bq (dk d1 0)) (bo (bp (dk d1 3))) gm)))),br (bu ca (bp (dk d1 3)+1))] [])else none)else(k2 [dk d1 2] []))
def Ze (a0:C) (k1:KD R):Option R:=if kq 0<=0/\kq 0<=4/\4<=(↑(bn (bq a0)):Int)then(jn (fun d1 m1=>(k1 [dk d1 0] [])) (fun k2=>(BP N (Uj N k2) [cz (cut (bq a0) 0 4),br (↑(bn (cut (bq a0) 0 4)):Int),br 0,br 0] [])))else none
def RL:=lid "" (@Ze R N)
theorem qE {R N a0 k}:@RL R N a0 k=Ze N a0 k:=by unfold RL;rw[Ao]
def q3o:OvG R:=BW [.slice 1 (.int .u8)] (DR (RL N)) (Cf (cg dj))
theorem q3p:okX 193 (@q3o R N):=Bf Aq N [] [(193,[([1,0,1,1],(Bh [(3,.d (.int .u32))])),
  ([4,1,0,1,1],(Bv [7,8] [(3,.d (.int .u32)),(9,.d (.int .i64))])),
  ([9],(Bh [(2,.d (.int .u32))]))])] (fun _ _=>qE)
def Zc {R:Type} (N:Nat) (k1:KD R):Option R:=k1 [dt (dt (dt (dt (dt (dt (dt (dt (dt (dt (dt (dt (dt (dt (dt (dt (dt (dt (dt (dt (dt (dt (dt (dt (dt (dt (dt (dt (dt (dt (dt (dt (dt (dt (dt (dt (dt (dt (dt (dt (dt (dt (dt (dt (dt (dt (dt (dt (dt (dt (dt (dt (dt (dt (dt (dt (dt (dt (dt (dt (dt (dt (dt (dt (AO (dc 64 (cg dj))) 0 (br 1116352408)) 1 (br 1899447441)) 2 (br 3049323471)) 3 (br 3921009573)) 4 (br 961987163)) 5 (br 1508970993)) 6 (br 2453635748)) 7 (br 2870763221)) 8 (br 3624381080)) 9 (br 310598401)) 10 (br 607225278)) 11 (br 1426881987)) 12 (br 1925078388)) 13 (br 2162078206)) 14 (br 2614888103)) 15 (br 3248222580)) 16 (br 3835390401)) 17 (br 4022224774)) 18 (br 264347078)) 19 (br 604807628)) 20 (br 770255983)) 21 (br 1249150122)) 22 (br 1555081692)) 23 (br 1996064986)) 24 (br 2554220882)) 25 (br 2821834349)) 26 (br 2952996808)) 27 (br 3210313671)) 28 (br 3336571891)) 29 (br 3584528711)) 30 (br 113926993)) 31 (br 338241895)) 32 (br 666307205)) 33 (br 773529912)) 34 (br 1294757372)) 35 (br 1396182291)) 36 (br 1695183700)) 37 (br 1986661051)) 38 (br 2177026350)) 39 (br 2456956037)) 40 (br 2730485921)) 41 (br 2820302411)) 42 (br 3259730800)) 43 (br 3345764771)) 44 (br 3516065817)) 45 (br 3600352804)) 46 (br 4094571909)) 47 (br 275423344)) 48 (br 430227734)) 49 (br 506948616)) 50 (br 659060556)) 51 (br 883997877)) 52 (br 958139571)) 53 (br 1322822218)) 54 (br 1537002063)) 55 (br 1747873779)) 56 (br 1955562222)) 57 (br 2024104815)) 58 (br 2227730452)) 59 (br 2361852424)) 60 (br 2428436474)) 61 (br 2756734187)) 62 (br 3204031479)) 63 (br 3329325298)] []
def RK:=lid "" (@Zc R N)
theorem qD {R N k}:@RK R N k=Zc N k:=by unfold RK;rw[Ao]
def q3k:OvG R:=BW [] (fun a=>RK N) (Cf (dc 64 (cg dj)))
theorem q3l:okX 194 (@q3k R N):=Bf Aq N [] [(194,[([9],⟨[],[(0,.as (.ptr (.l 0) [] (.arr 64 (.int .u32))))],[],[(.l 0,.box (.d (.arr 64 (.int .u32))))],[],[]⟩)])] (fun _ _=>qD)
def ZS {R:Type} (N:Nat) (a0 a1:C) (k1:KD R):Option R:=if 0<=bu bw (32-CU fv bw (bu bw (bp a1)) 31)then(k1 [br (CU rm dj (bu dj (bp a0*2^min (bo (CU fv bw (bu bw (bp a1)) 31)) 32)) (ft (bp a0) (2^min (bo (bu bw (32-CU fv bw (bu bw (bp a1)) 31))) 32)))] [])else none
def MD:=lid "" (@ZS R N)
theorem pP {R N a0 a1 k}:@MD R N a0 a1 k=ZS N a0 a1 k:=by unfold MD;rw[Ao]
def q2V:OvG R:=BW [.int .u32,.int .i64] (De (MD N)) (Cf (cg dj))
theorem q2W:okX 204 (@q2V R N):=Bf Aq N [] [(204,[([9],(Bh [(4,.d (.int .u32))]))])] (fun _ _=>pP)
def Ui (a0 a1 a2 a3 a4:C) (k1:KD R):Option R:=MD N a0 (br (bu ca (0-bp a3))) (fun d1 m1=>(jn (fun d2 m2=>(MD N (dk d2 0) (br (bu ca (0-bp (dk d2 1)))) (fun d3 m3=>(MD N (dk d2 0) (br (bu ca (0-bp (dk d2 2)))) (fun d4 m4=>(k1 [br (CU nz dj (CU nz dj (bp (dk d3 0)) (bp (dk d4 0))) (bp (dk d2 3)))] [])))))) (fun k2=>(bif ez a4 then(if 0<=bp a3 then(k2 [a0,a1,a2,br (ft (bp a0) (2^min (bo (bp a3)) 32))] [])else none)else(k2 [a0,a1,a2,dk d1 0] [])))))
def Ko:=lid "" (@Ui R N)
theorem Zd {R N a0 a1 a2 a3 a4 k}:@Ko R N a0 a1 a2 a3 a4 k=Ui N a0 a1 a2 a3 a4 k:=by unfold Ko;rw[Ao]
def q3m:OvG R:=BW [.int .u32,.int .i64,.int .i64,.int .i64,.bool] (fun a=>Ko N (a 0) (a 1) (a 2) (a 3) (a 4)) (Cf (cg dj))
theorem q3n:okX 195 (@q3m R N):=Bf (AR (q2W N) <| Aq) N [] [(195,[([1,0,1,1],(Bv [0,1,2] [(11,.d (.int .u32))])),
  ([9],(Bh [(10,.d (.int .u32))]))])] (fun _ _=>Zd)
def q3a:List Sh:=[.as (.ptr (.g (.l 1)) [] Cm)]
def q3d:List (Key × OSh):=[(.l 1,.box (.d Cm))]
def Ug {R:Type} (N:Nat) (k2:KD R):KD R->KD R:=fun k3 d4 m4=>(bif decide (bp (dk d4 0)<8)then(if 0<=bp (dk d4 0)/\bp (dk d4 0)<8 then(if 0<=bp (dk d4 0)/\bp (dk d4 0)<8 then(if 0<=bp (dk d4 0)/\bp (dk d4 0)<8 then(k3 [br (bu ca (bp (dk d4 0)+1)),dt (dk d4 1) 0 (dt (cd (dk d4 1) 0) (bo (bp (dk d4 0))) (br (bu dj (bp (cd (cd (dk d4 1) 0) (bo (bp (dk d4 0))))+bp (cd (dk d4 2) (bo (bp (dk d4 0)))))))),dk d4 2] [])else none)else none)else none)else(k2 [dk d4 1] []))
def RC (k2:KD R):KD R->KD R:=fun k3 d3 m3=>(bif decide (bp (dk d3 1)<64)then(if 0<=bp (dk d3 1)/\bp (dk d3 1)<64 then(jn (fun d4 m4=>(Ko N (cd (dk d4 6) (bo 4)) (br 6) (br 11) (br 25) (dw false) (fun d5 m5=>(if 0<=bp (dk d4 1)/\bp (dk d4 1)<16 then(Ko N (cd (dk d4 6) (bo 0)) (br 2) (br 13) (br 22) (dw false) (fun d6 m6=>(k3 [dk d4 2,br (bu ca (bp (dk d4 3)+1)),dk d4 4,dk d4 5,dt (dt (dt (dt (dt (dt (dt (dt (AO (dc 8 (cg dj))) 0 (br (bu dj (bu dj (bu dj (bu dj (bu dj (bu dj (bp (cd (dk d4 6) (bo 7))+bp (dk d5 0))+CU nz dj (bp (cd (dk d4 6) (bo 6))) (CU fv dj (bp (cd (dk d4 6) (bo 4))) (CU nz dj (bp (cd (dk d4 6) (bo 5))) (bp (cd (dk d4 6) (bo 6))))))+bp (dk d4 0))+bp (cd (dk d4 5) (bo (bp (dk d4 1)))))+bp (dk d6 0))+CU rm dj (CU fv dj (bp (cd (dk d4 6) (bo 0))) (bp (cd (dk d4 6) (bo 1)))) (CU fv dj (bp (cd (dk d4 6) (bo 2))) (CU rm dj (bp (cd (dk d4 6) (bo 0))) (bp (cd (dk d4 6) (bo 1))))))))) 1 (cd (dk d4 6) (bo 0))) 2 (cd (dk d4 6) (bo 1))) 3 (cd (dk d4 6) (bo 2))) 4 (br (bu dj (bp (cd (dk d4 6) (bo 3))+bu dj (bu dj (bu dj (bu dj (bp (cd (dk d4 6) (bo 7))+bp (dk d5 0))+CU nz dj (bp (cd (dk d4 6) (bo 6))) (CU fv dj (bp (cd (dk d4 6) (bo 4))) (CU nz dj (bp (cd (dk d4 6) (bo 5))) (bp (cd (dk d4 6) (bo 6))))))+bp (dk d4 0))+bp (cd (dk d4 5) (bo (bp (dk d4 1))))))))) 5 (cd (dk d4 6) (bo 4))) 6 (cd (dk d4 6) (bo 5))) 7 (cd (dk d4 6) (bo 6))] [])))else none)))) (fun k4=>(bif decide (16<=bp (dk d3 1))then(if 0<=ee (bp (dk d3 1)) 16/\ee (bp (dk d3 1)) 16<16 then(if 0<=ee (bu ca (bp (dk d3 1)+1)) 16/\ee (bu ca (bp (dk d3 1)+1)) 16<16 then(Ko N (cd (dk d3 3) (bo (ee (bu ca (bp (dk d3 1)+1)) 16))) (br 7) (br 18) (br 3) (dw true) (fun d4 m4=>(if 0<=ee (bu ca (bp (dk d3 1)+9)) 16/\ee (bu ca (bp (dk d3 1)+9)) 16<16 then(if 0<=ee (bu ca (bp (dk d3 1)+14)) 16/\ee (bu ca (bp (dk d3 1)+14)) 16<16 then(Ko N (cd (dk d3 3) (bo (ee (bu ca (bp (dk d3 1)+14)) 16))) (br 17) (br 19) (br 10) (dw true) (fun d5 m5=>(if 0<=ee (bp (dk d3 1)) 16/\ee (bp (dk d3 1)) 16<16 then(k4 [cd (dk d3 0) (bo (bp (dk d3 1))),br (ee (bp (dk d3 1)) 16),dk d3 0,dk d3 1,dk d3 2,dt (dk d3 3) (bo (ee (bp (dk d3 1)) 16)) (br (bu dj (bp (cd (dk d3 3) (bo (ee (bp (dk d3 1)) 16)))+bu dj (bu dj (bp (dk d4 0)+bp (cd (dk d3 3) (bo (ee (bu ca (bp (dk d3 1)+9)) 16))))+bp (dk d5 0))))),dk d3 4] [])else none)))else none)else none)))else none)else none)else(k4 [cd (dk d3 0) (bo (bp (dk d3 1))),br (ee (bp (dk d3 1)) 16),dk d3 0,dk d3 1,dk d3 2,dk d3 3,dk d3 4] []))))else none)else(k2 [dk d3 2,dk d3 4] []))
def Uh (k2:KD R):KD R->KD R:=fun k3 d1 m1=>(bif decide (bp (dk d1 0)<16)then(if 0<=bu ca (4*bp (dk d1 0))/\bu ca (4*bp (dk d1 0))<=64/\kq 64<=64 then(RL N (cz (ed (bo (64-bu ca (4*bp (dk d1 0)))) (fm (bo (bu ca (4*bp (dk d1 0)))) (bq (cd (dk d1 1) 1))))) (fun d2 m2=>(if 0<=bp (dk d1 0)/\bp (dk d1 0)<16 then(k3 [br (bu ca (bp (dk d1 0)+1)),dk d1 1,dt (dk d1 2) (bo (bp (dk d1 0))) (dk d2 0)] [])else none)))else none)else(k2 [dk d1 1,dk d1 2] []))
def ZY (b0:C) (k1:KD R):Option R:=jn (fun d1 m1=>(RK N (fun d2 m2=>(jn (fun d3 m3=>(jn (fun d4 m4=>(k1 [dk d4 0] [])) (fun k2=>(BP N (Ug N k2) [br 0,dk d3 0,dk d3 1] [])))) (fun k2=>(BP N (RC N k2) [dk d2 0,br 0,dk d1 0,dk d1 1,cd (dk d1 0) 0] [])))))) (fun k2=>(BP N (Uh N k2) [br 0,b0,AO (dc 16 (cg dj))] []))
def RG:=lid "" (@ZY R N)
theorem pW {R N b0 k}:@RG R N b0 k=ZY N b0 k:=by unfold RG;rw[Ao]
def q3b:OvG R:=Ca q3a q3d (fun ds ms=>RG N (dk ds 0)) fun ds ms K d1 m1=>K (V.tup []) [(Key.g (df 1),O.box (V.d Cm (dk d1 0)))]
theorem q3c:okX 174 (@q3b R N):=Cc (AR (q3p N) <| AR (q3l N) <| AR (q3n N) <| Aq) N [(174,[(12,[(46,7),(58,7)]),(15,[(91,7)]),(16,[(104,7)]),(4,[(22,8)])])] [(174,[([1,0,1],⟨[0,2],[],[.g (.l 1)],[],[],[]⟩),
  ([4,1,0,1],⟨[0,2],[(12,.d (.int .i64))],[.g (.l 1)],[],[],[]⟩),
  ([1,0,1,1,1],⟨[0,4],[],[.g (.l 1)],[],[],[]⟩),
  ([4,1,0,1,1,1],⟨[0,2,4,29],[(30,.d (.int .i64))],[.g (.l 1)],[],[],[]⟩),
  ([1,0,1,1,4,0,1,1,5,4,1,0,1,1,1],⟨[0,2,4,6,7,29,30],[],[.g (.l 1)],[],[],[]⟩),
  ([1,1,1,1,1],⟨[0],[],[.g (.l 1)],[],[],[]⟩),
  ([4,1,1,1,1,1],⟨[0,4],[(126,.d (.int .i64))],[.g (.l 1)],[],[],[]⟩),
  ([9],⟨[],[],[.g (.l 1)],[],[],[]⟩)])] (fun _ _ _=>pW)
def q3e:List Sh:=[.as (.ptr (.g (.l 1)) [] Cm),.d (.slice 1 (.int .u8))]
def q3g:List (Key × OSh):=[(.l 1,.box (.d Cm))]
def RH (k2:KD R):KD R->KD R:=fun k3 d1 m1=>(bif decide (0<(↑(bn (bq (dk d1 0))):Int))then(if 0<=ee (bp (cd (dk d1 1) 2)) 64/\ee (bp (cd (dk d1 1) 2)) 64<=64/\kq 64<=64 then(if 0<bo (64-ee (bp (cd (dk d1 1) 2)) 64)then(if 0<=(↑(min (bn (bq (dk d1 0))) (bo (64-ee (bp (cd (dk d1 1) 2)) 64))):Int)/\(↑(min (bn (bq (dk d1 0))) (bo (64-ee (bp (cd (dk d1 1) 2)) 64))):Int)<=(↑(bn (bq (dk d1 0))):Int)/\(↑(bn (bq (dk d1 0))):Int)<=(↑(bn (bq (dk d1 0))):Int)then(jn (fun d2 m2=>(k3 [dk d2 0,dk d2 1] [])) (fun k4=>(bif decide (ee (bp (cd (dt (dt (dk d1 1) 1 (fh (Ec (bq (cd (dk d1 1) 1)) (bo (ee (bp (cd (dk d1 1) 2)) 64)) (bo (64-ee (bp (cd (dk d1 1) 2)) 64)) (bq (dk d1 0))))) 2 (br (bu bw (bp (cd (dt (dk d1 1) 1 (fh (Ec (bq (cd (dk d1 1) 1)) (bo (ee (bp (cd (dk d1 1) 2)) 64)) (bo (64-ee (bp (cd (dk d1 1) 2)) 64)) (bq (dk d1 0))))) 2)+bu bw (↑(min (bn (bq (dk d1 0))) (bo (64-ee (bp (cd (dk d1 1) 2)) 64))):Int))))) 2)) 64=0)then(RG N (dt (dt (dk d1 1) 1 (fh (Ec (bq (cd (dk d1 1) 1)) (bo (ee (bp (cd (dk d1 1) 2)) 64)) (bo (64-ee (bp (cd (dk d1 1) 2)) 64)) (bq (dk d1 0))))) 2 (br (bu bw (bp (cd (dt (dk d1 1) 1 (fh (Ec (bq (cd (dk d1 1) 1)) (bo (ee (bp (cd (dk d1 1) 2)) 64)) (bo (64-ee (bp (cd (dk d1 1) 2)) 64)) (bq (dk d1 0))))) 2)+bu bw (↑(min (bn (bq (dk d1 0))) (bo (64-ee (bp (cd (dk d1 1) 2)) 64))):Int))))) (fun d2 m2=>(k4 [cz (cut (bq (dk d1 0)) (↑(min (bn (bq (dk d1 0))) (bo (64-ee (bp (cd (dk d1 1) 2)) 64))):Int) (↑(bn (bq (dk d1 0))):Int)),dk d2 0] [])))else(k4 [cz (cut (bq (dk d1 0)) (↑(min (bn (bq (dk d1 0))) (bo (64-ee (bp (cd (dk d1 1) 2)) 64))):Int) (↑(bn (bq (dk d1 0))):Int)),dt (dt (dk d1 1) 1 (fh (Ec (bq (cd (dk d1 1) 1)) (bo (ee (bp (cd (dk d1 1) 2)) 64)) (bo (64-ee (bp (cd (dk d1 1) 2)) 64)) (bq (dk d1 0))))) 2 (br (bu bw (bp (cd (dt (dk d1 1) 1 (fh (Ec (bq (cd (dk d1 1) 1)) (bo (ee (bp (cd (dk d1 1) 2)) 64)) (bo (64-ee (bp (cd (dk d1 1) 2)) 64)) (bq (dk d1 0))))) 2)+bu bw (↑(min (bn (bq (dk d1 0))) (bo (64-ee (bp (cd (dk d1 1) 2)) 64))):Int))))] []))))else none)else none)else none)else(k2 [dk d1 1] []))
def ZZ (a0 b0:C) (k1:KD R):Option R:=jn (fun d1 m1=>(k1 [dk d1 0] [])) (fun k2=>(BP N (RH N k2) [a0,b0] []))
def MF:=lid "" (@ZZ R N)
theorem pY {R N a0 b0 k}:@MF R N a0 b0 k=ZZ N a0 b0 k:=by unfold MF;rw[Ao]
def q3f:OvG R:=Ca q3e q3g (fun ds ms=>MF N (dk ds 0) (dk ds 1)) fun ds ms K d1 m1=>K (V.tup []) [(Key.g (df 1),O.box (V.d Cm (dk d1 0)))]
theorem pX:okX 159 (@q3f R N):=Cc (AR (q3c N) <| Aq) N [] [(159,[([],⟨[0],[],[.g (.l 1)],[],[],[]⟩),
  ([4],⟨[0],[(1,.d (.slice 1 (.int .u8)))],[.g (.l 1)],[],[],[]⟩),
  ([1,1,1,1,4,1,5,4],⟨[0,1],[],[.g (.l 1)],[],[],[]⟩),
  ([9],⟨[],[],[.g (.l 1)],[],[],[]⟩)])] (fun _ _ _=>pY)
def q26:List Sh:=[.as (.ptr (.g (.l 1)) [] Cm),.d (.slice 24 (.slice 1 (.int .u8)))]
def q29:List (Key × OSh):=[(.l 1,.box (.d Cm))]
def Uf (k2:KD R):KD R->KD R:=fun k3 d1 m1=>(bif decide (bp (dk d1 2)<bp (dk d1 1))then(if 0<=bp (dk d1 2)/\bp (dk d1 2)<(↑(bn (bq (dk d1 0))):Int)then(MF N (dr (bq (dk d1 0)) (bo (bp (dk d1 2))) gm) (dk d1 3) (fun d2 m2=>(k3 [dk d1 0,dk d1 1,br (bu ca (bp (dk d1 2)+1)),dk d2 0] [])))else none)else(k2 [dk d1 3] []))
def ZX (a0 b0:C) (k1:KD R):Option R:=jn (fun d1 m1=>(k1 [dk d1 0] [])) (fun k2=>(BP N (Uf N k2) [a0,br (↑(bn (bq a0)):Int),br 0,b0] []))
def OB:=lid "" (@ZX R N)
theorem pV {R N a0 b0 k}:@OB R N a0 b0 k=ZX N a0 b0 k:=by unfold OB;rw[Ao]
def q27:OvG R:=Ca q26 q29 (fun ds ms=>OB N (dk ds 0) (dk ds 1)) fun ds ms K d1 m1=>K (V.tup []) [(Key.g (df 1),O.box (V.d Cm (dk d1 0)))]
theorem q28:okX 142 (@q27 R N):=Cc (AR (pX N) <| Aq) N [] [(142,[([1,1],⟨[0],[],[.g (.l 1)],[],[],[]⟩),
  ([4,1,1],⟨[0,8,9],[(10,.d (.int .i64))],[.g (.l 1)],[],[],[]⟩),
  ([9],⟨[],[],[.g (.l 1)],[],[],[]⟩)])] (fun _ _ _=>pV)
def Zb {R:Type} (N:Nat) (a0:C) (k1:KD R):Option R:=k1 [cz [br (bu de (ft (bp a0) (2^min (bo 24) 32))),br (bu de (ft (bp a0) (2^min (bo 16) 32))),br (bu de (ft (bp a0) (2^min (bo 8) 32))),br (bu de (bp a0))]] []
def Kn:=lid "" (@Zb R N)
theorem qC {R N a0 k}:@Kn R N a0 k=Zb N a0 k:=by unfold Kn;rw[Ao]
def q3j:OvG R:=BW [.int .u32] (DR (Kn N)) fun a K d1 m1=>K (V.ts 1 (cg de) (bq (dk d1 0))) []
theorem qB:okX 143 (@q3j R N):=Bf Aq N [(143,[(1,[(14,4)])])] [(143,[([9],(Bh [(2,.sl 1 (.int .u8) 5002)]))])] (fun _ _=>qC) fun a K=>(show _=jn (fun d1 m1=>(bif di (bn (bq (dk d1 0))) (bn (bq (dk d1 0)))then
  (K (V.ts 1 (cg de) (bq (dk d1 0))) [])
 else
  none)) _ by kernel_rfl).trans (congrArg (fun k=>jn k _) (funext fun _=>funext fun _=>by simp only[cm,cond_true]))
def q22:List Sh:=[.as (.ptr (.g (.l 1)) [] Cm)]
def q25:List (Key × OSh):=[(.l 1,.box (.d Cm))]
def Ue (k2:KD R):KD R->KD R:=fun k3 d5 m5=>(bif decide (bp (dk d5 1)<8)then(if 0<=bp (dk d5 1)/\bp (dk d5 1)<8 then(if 0<=bu ca (4*bp (dk d5 1))/\bu ca (4*bp (dk d5 1))<=32/\kq 32<=32 then(Kn N (cd (dk d5 0) (bo (bp (dk d5 1)))) (fun d6 m6=>(if 0<bo (32-bu ca (4*bp (dk d5 1)))then(k3 [dk d5 0,br (bu ca (bp (dk d5 1)+1)),dk d5 2,dk d5 3,fh (Ec (bq (dk d5 4)) (bo (bu ca (4*bp (dk d5 1)))) (bo (32-bu ca (4*bp (dk d5 1)))) (bq (dk d6 0)))] [])else none)))else none)else none)else(k2 [dk d5 2,dk d5 3,dk d5 4] []))
def ZW (b0:C) (k1:KD R):Option R:=if 0<=bu bw (64-ee (bu bw (bp (cd b0 2)+8)) 64)/\bu bw (64-ee (bu bw (bp (cd b0 2)+8)) 64)<=bu bw (64-ee (bu bw (bp (cd b0 2)+8)) 64)/\bu bw (64-ee (bu bw (bp (cd b0 2)+8)) 64)<=9223372036854775807/\bo (bu bw (64-ee (bu bw (bp (cd b0 2)+8)) 64))*1<=140737488355328 then(if kq 0<=0/\0<(↑(bo (bu bw (64-ee (bu bw (bp (cd b0 2)+8)) 64))):Int)then(MF N (cz (ed (bo (bu bw (64-ee (bu bw (bp (cd b0 2)+8)) 64))) (fm 0 (List.set (dh (bo (bu bw (64-ee (bu bw (bp (cd b0 2)+8)) 64))) (AO (cg de))) 0 (br 128))))) b0 (fun d1 m1=>(Kn N (br (bu dj (ft (bu bw (bp (cd b0 2)*8)) (2^min (bo 32) 64)))) (fun d2 m2=>(Kn N (br (bu dj (bu bw (bp (cd b0 2)*8)))) (fun d3 m3=>(bif di (bn (bq (dk d2 0))) (bn (bq (dk d2 0)))then(if(bn (bq (dk d2 0))+bn (bq (dk d3 0)))*1<=140737488355328/\bn (bq (dk d2 0))+bn (bq (dk d3 0))<=9223372036854775807 then(MF N (cz (bq (dk d2 0)++bq (dk d3 0))) (dk d1 0) (fun d4 m4=>(jn (fun d5 m5=>(k1 [dk d5 2,dk d5 0] [])) (fun k2=>(BP N (Ue N k2) [cd (dk d4 0) 0,br 0,b0,AO (dc 32 (cg de)),AO (dc 32 (cg de))] [])))))else none)else none)))))))else none)else none
def RB:=lid "" (@ZW R N)
theorem pU {R N b0 k}:@RB R N b0 k=ZW N b0 k:=by unfold RB;rw[Ao]
def q23:OvG R:=Ca q22 q25 (fun ds ms=>RB N (dk ds 0)) fun ds ms K d1 m1=>K (V.d (dc 32 (cg de)) (dk d1 0)) [(Key.g (df 1),O.box (V.d Cm (dk d1 1)))]
theorem q24:okX 144 (@q23 R N):=Cc (AR (qB N) <| AR (pX N) <| Aq) N [(144,[(7,[(27,100),(3,16)]),(8,[(3,16)])])] [(144,[([1,0,1,1,1,1,1,1,1,1,1],⟨[0,2,6],[],[.g (.l 1)],[],[],[]⟩),
  ([4,1,0,1,1,1,1,1,1,1,1,1],⟨[0,2,6,38],[(39,.d (.int .i64))],[.g (.l 1)],[],[],[]⟩),
  ([9],⟨[],[(2,.as (.ptr (.l 2) [] (.arr 32 (.int .u8))))],[.g (.l 1)],[(.l 2,.box (.d (.arr 32 (.int .u8))))],[],[]⟩)])] (fun _ _ _=>pU)
def Ud (k2:KD R):KD R->KD R:=fun k3 d3 m3=>(bif decide (bp (dk d3 2)<bp (dk d3 1))then(if 0<=bp (dk d3 2)/\bp (dk d3 2)<(↑(bn (bq (dk d3 0))):Int)then(Kn N (br (bu dj (↑(bn (bq (dr (bq (dk d3 0)) (bo (bp (dk d3 2))) gm))):Int))) (fun d4 m4=>(OB N (cz [cz (bq (dk d4 0)),dr (bq (dk d3 0)) (bo (bp (dk d3 2))) gm]) (dk d3 4) (fun d5 m5=>(k3 [dk d3 0,dk d3 1,br (bu ca (bp (dk d3 2)+1)),dk d3 3,dk d5 0] [])))))else none)else(k2 [dk d3 3,dk d3 4] []))
def ZU (a0 a1:C) (k1:KD R):Option R:=RJ N (fun d1 m1=>(OB N (cz [cz [a0,br (bu de (↑(bn (bq a1)):Int))]]) (dk d1 0) (fun d2 m2=>(jn (fun d3 m3=>(RB N (dk d3 1) (fun d4 m4=>(k1 [dk d4 0] [])))) (fun k2=>(BP N (Ud N k2) [a1,br (↑(bn (bq a1)):Int),br 0,AO (dc 32 (cg de)),dk d2 0] []))))))
def Jt:=lid "" (@ZU R N)
theorem pS {R N a0 a1 k}:@Jt R N a0 a1 k=ZU N a0 a1 k:=by unfold Jt;rw[Ao]
def q2Z:OvG R:=BW [.int .u8,.slice 24 (.slice 1 (.int .u8))] (De (Jt N)) (Cf (dc 32 (cg de)))
theorem Qz:okX 125 (@q2Z R N):=Bf (AR (q3i N) <| AR (q28 N) <| AR (qB N) <| AR (q24 N) <| Aq) N [(125,[(2,[(5,16)]),(6,[(5,16)]),(8,[(5,16)])])] [(125,[([1,0,1,1,1],(Bv [4,5] [])),
  ([4,1,0,1,1,1],(Bv [4,5,17,18] [(19,.d (.int .i64))])),
  ([9],⟨[],[(4,.as (.ptr (.l 4) [] (.arr 32 (.int .u8))))],[],[(.l 4,.box (.d (.arr 32 (.int .u8))))],[],[]⟩)])] (fun _ _=>pS)
def W64 (a:Int):Prop:=0<=a/\a<18446744073709551616
theorem wrap_u8 (x:Int):IntKind.u8.wrap x=x%256:=by simp[bu,uq,tw]
theorem wrap_i64 {n:Int} (h: -9223372036854775808<=n) (h2:n<9223372036854775808):IntKind.i64.wrap n=n:=je _ (by omega)
theorem IU {l:List C} {i:Nat} (h:i<l.length):l.getD i .nil∈l:=by rw[du,cr h];exact uh h
section
variable {R:Type} {N:Nat}
theorem ZR {F:KD R->KD R->List C->List Es->Option R} (inv:Nat->List C->Prop) (P:List C->Prop)
  (step:∀n st,inv n st->(∃st' n',n'<n/\inv n' st'/\∀k rec:KD R,F k rec st []=rec st' [])\/(∃d,P d/\∀k rec:KD R,F k rec st []=k d [])):
  ∀(m n:Nat) (st:List C) (N:Nat),n<=m->inv n st->n<N->∃d,P d/\∀k:KD R,BP N (F k) st []=k d []
 |m,n,st,N,hm,hi,hN=>by
  obtain⟨N,rfl⟩:∃a,N=a+1:=⟨N-1,by omega⟩;rcases step n st hi with⟨st',n',h1,h2,h3⟩|⟨d,h1,h2⟩
  ·match m with
   |0=>omega|m+1=>
    obtain⟨d,h4,h5⟩:=ZR inv P step m n' st' N (by omega) h2 (by omega);exact⟨d,h4,fun k=>by rw[Dt,h3,h5]⟩
  ·exact⟨d,h1,fun k=>by rw[Dt,h2]⟩
theorem Gq {F:KD R->KD R->List C->List Es->Option R} (n:Nat) (inv:Nat->List C->Prop) (P:List C->Prop)
  (step:∀i st,i<n->inv i st->∃st',inv (i+1) st'/\∀k rec:KD R,F k rec st []=rec st' [])
  (stop:∀st,inv n st->∃d,P d/\∀k rec:KD R,F k rec st []=k d [])
  {N:Nat} (hN:n<N) {st:List C} (h0:inv 0 st):∃d,P d/\∀k:KD R,BP N (F k) st []=k d []:=by
 refine ZR (fun m st=>∃i,i+m=n/\inv i st) P (fun m st hi=>?_) n n st N (cn n) ⟨0,by omega,h0⟩ hN;obtain⟨i,h1,h2⟩:=hi;by_cases e:i=n;{subst e;exact .inr (stop st h2)};{obtain⟨st',h3,h4⟩:=step i st (by omega) h2;exact .inl ⟨st',m-1,by omega,⟨i+1,by omega,h3⟩,h4⟩}
theorem eA (x:Int):0<=IntKind.u64.wrap x/\IntKind.u64.wrap x<18446744073709551616:=by
 have:IntKind.u64.wrap x=x%18446744073709551616:=by simp[bu,uq,tw]
 omega
theorem bS (x:C) (k:Int):∃n:Int,∀k':KD R,MD N x (.int k) k'=k' [.int n] []:=
 ⟨_,fun k'=>by
  rw[pP];unfold ZS;rw[if_pos (eA _).1]⟩
theorem Vv (x:C) (a b c:Int) (f:Bool) (hc:0<=c):∃n:Int,∀k:KD R,Ko N x (.int a) (.int b) (.int c) (.bool f) k=k [.int n] []:=by
 obtain⟨n1,h1⟩:=bS (R:=R) (N:=N) x (bu ca (0-c));obtain⟨n2,h2⟩:=bS (R:=R) (N:=N) x (bu ca (0-a));obtain⟨n3,h3⟩:=bS (R:=R) (N:=N) x (bu ca (0-b));cases f
 ·refine⟨?v1,fun k=>?eq1⟩
  case eq1=>
   rw[Zd];unfold Ui;simp only[AY,AI,AL,AP,AU,AF,AX,h1,h2,h3,cond_false];rfl
 ·refine⟨?v2,fun k=>?eq2⟩
  case eq2=>
   rw[Zd];unfold Ui;simp only[AY,AI,AL,AP,AU,AF,AX,h1,h2,h3,cond_true,if_pos hc];rfl
theorem q7o (l:List C) (hl:4<=l.length) (hN:10<N):∃n:Int,∀k:KD R,RL N (.slice l) k=k [.int n] []:=by
 have hc:(cut l 0 4).length=4:=by simp[cut];omega
 have key:=Gq (R:=R) (F:=fun k2=>Uj N k2) 4 (fun i st=>∃x:Int,st=[.slice (cut l 0 4),.int 4,.int x,.int i]) (fun d=>∃n:Int,d=[.int n]) ?_ ?_ (N:=N) (by omega) (st:=[.slice (cut l 0 4),.int 4,.int 0,.int (0:Nat)]) ⟨0,rfl⟩
 ·obtain⟨d,⟨n,rfl⟩,h⟩:=key;refine⟨n,fun k=>?_⟩;rw[qE];unfold Ze;have h4:(4:Int)<=(l.length:Int):=by omega
  simp only[Ac,hc,h4,AY];rw[if_pos ⟨by decide,by decide,trivial⟩];exact h _
 ·rintro i st hi ⟨x,rfl⟩;refine⟨_,⟨?x3,rfl⟩,fun k rec=>?eq3⟩
  case eq3=>
   have h1:(i:Int)<4:=by omega
   have h2:(i:Int)<((4:Nat):Int):=by omega
   unfold Uj;simp only[AI,AL,AP,AU,AF,Ac,hc,h1,h2,AG,db,and_self,CZ (show i<4611686018427387904 by omega)];rfl
 ·rintro st ⟨x,rfl⟩;refine⟨_,⟨x,rfl⟩,fun k rec=>?_⟩;unfold Uj;have h:¬((4:Nat):Int)<4:=by decide
  simp only[AI,AL,AP,AU,AF,h,AG]
theorem JP (x m:Int) (hx:0<=x) (hm:0<m):0<=ee x m/\ee x m<m:=⟨Int.tmod_nonneg _ hx,Int.tmod_lt_of_pos _ hm⟩
theorem q1f (s n:C) (w:List C) (hw:w.length=64) (hN:100<N):∃s',∀k:KD R,RG N (.agg [s,.agg w,n]) k=k [.agg [s',.agg w,n]] []:=by
 obtain⟨d1,⟨x1,rfl⟩,h1⟩:=Gq (R:=R) (F:=fun k2=>Uh N k2) 16 (fun i st=>∃x:C,st=[.int i,.agg [s,.agg w,n],x]) (fun d=>∃x:C,d=[.agg [s,.agg w,n],x])
  (fun i st hi hst=>by
   obtain⟨x,rfl⟩:=hst;have e1:(i:Int)<16:=by omega
   have e2:IntKind.i64.wrap (4*(i:Int))=4*i:=wrap_i64 (by omega) (by omega);have c1:0<=4*(i:Int)/\4*(i:Int)<=64/\kq 64<=64:=⟨by omega,by omega,by decide⟩;obtain⟨v,hv⟩:=q7o (R:=R) (N:=N) (ed (64-4*(i:Int)).toNat (fm (4*(i:Int)).toNat w)) (by simp;omega) (by omega);refine⟨_,⟨?x4,rfl⟩,fun k rec=>?eq4⟩
   case eq4=>
    unfold Uh;simp only[AI,AL,AP,AF,e1,e2,AG,db,and_self,Lm,Ak,hv,c1,CZ (show i<4611686018427387904 by omega)];rfl)
  (fun st hst=>by
   obtain⟨x,rfl⟩:=hst;refine⟨_,⟨x,rfl⟩,fun k rec=>?_⟩;unfold Uh;have h:¬((16:Nat):Int)<16:=by decide
   simp only[AI,AL,AP,AF,h,AG])
  (N:=N) (by omega) (st:=[.int (0:Nat),.agg [s,.agg w,n],AO (.arr 16 (.int .u32))]) ⟨_,rfl⟩
 obtain⟨st0,z4H⟩:∃x:C,∀k:KD R,RK N k=k [x] []:=⟨_,fun k=>by rw[qD];unfold Zc;rfl⟩
 obtain⟨d2,⟨x2,rfl⟩,h2⟩:=Gq (R:=R) (F:=fun k2=>RC N k2) 64 (fun i st=>∃x y:C,st=[st0,.int i,.agg [s,.agg w,n],x,y]) (fun d=>∃y:C,d=[.agg [s,.agg w,n],y])
  (fun i st hi hst=>by
   obtain⟨x,y,rfl⟩:=hst;have e1:(i:Int)<64:=by omega
   have r0:=JP (i:Int) 16 (by omega) (by omega);have q1:IntKind.i64.wrap ((i:Int)+1)=i+1:=wrap_i64 (by omega) (by omega);have q9:IntKind.i64.wrap ((i:Int)+9)=i+9:=wrap_i64 (by omega) (by omega);have q14:IntKind.i64.wrap ((i:Int)+14)=i+14:=wrap_i64 (by omega) (by omega);have r1:=JP ((i:Int)+1) 16 (by omega) (by omega);have r9:=JP ((i:Int)+9) 16 (by omega) (by omega);have r14:=JP ((i:Int)+14) 16 (by omega) (by omega);obtain⟨a1,ha1⟩:=Vv (R:=R) (N:=N) (cd y (bo 4)) 6 11 25 false (by omega);obtain⟨a2,ha2⟩:=Vv (R:=R) (N:=N) (cd y (bo 0)) 2 13 22 false (by omega);obtain⟨a3,ha3⟩:=Vv (R:=R) (N:=N) (cd x (bo (ee ((i:Int)+1) 16))) 7 18 3 true (by omega);obtain⟨a4,ha4⟩:=Vv (R:=R) (N:=N) (cd x (bo (ee ((i:Int)+14) 16))) 17 19 10 true (by omega);have e5:((i+1:Nat):Int)=(i:Int)+1:=by omega
   by_cases e2:16<=(i:Int)
   ·refine⟨_,⟨?x5,?y5,rfl⟩,fun k rec=>?eq5⟩
    case eq5=>
     unfold RC;simp only[AY,AI,AL,AP,AU,Aa,Ag,Ah,AF,e1,e2,q1,q9,q14,r0,r1,r9,r14,AG,db,and_self,ha1,ha2,ha3,ha4,e5];rfl
   ·refine⟨_,⟨?x6,?y6,rfl⟩,fun k rec=>?eq6⟩
    case eq6=>
     unfold RC;simp only[AY,AI,AL,AP,AU,Aa,Ag,Ah,AF,e1,e2,q1,r0,AG,db,and_self,ha1,ha2,e5];rfl)
  (fun st hst=>by
   obtain⟨x,y,rfl⟩:=hst;refine⟨_,⟨y,rfl⟩,fun k rec=>?_⟩;unfold RC;have h:¬((64:Nat):Int)<64:=by decide
   simp only[AI,AL,AP,AU,Aa,AF,h,AG])
  (N:=N) (by omega) (st:=[st0,.int (0:Nat),.agg [s,.agg w,n],x1,s]) ⟨_,_,rfl⟩
 obtain⟨d3,⟨x3,rfl⟩,h3⟩:=Gq (R:=R) (F:=fun k2=>Ug N k2) 8 (fun i st=>∃x:C,st=[.int i,.agg [x,.agg w,n],x2]) (fun d=>∃x:C,d=[.agg [x,.agg w,n]])
  (fun i st hi hst=>by
   obtain⟨x,rfl⟩:=hst;have e1:(i:Int)<8:=by omega
   refine⟨_,⟨?x7,rfl⟩,fun k rec=>?eq7⟩
   case eq7=>
    unfold Ug;simp only[AI,AL,AP,AF,e1,AG,db,and_self,SK,CZ (show i<4611686018427387904 by omega)];rfl)
  (fun st hst=>by
   obtain⟨x,rfl⟩:=hst;refine⟨_,⟨x,rfl⟩,fun k rec=>?_⟩;unfold Ug;have h:¬((8:Nat):Int)<8:=by decide
   simp only[AI,AL,AP,AF,h,AG])
  (N:=N) (by omega) (st:=[.int (0:Nat),.agg [s,.agg w,n],x2]) ⟨_,rfl⟩
 refine⟨x3,fun k=>?_⟩;rw[pW];unfold ZY;simp only[AY];refine(h1 _).trans ?_;simp only[z4H,AI,AL,Jj];refine(h2 _).trans ?_;simp only[AI,AL];exact(h3 _).trans rfl
def HB (m:C):Prop:=∃(s:C) (w:List C) (n:Int),m= .agg [s,.agg w,.int n]/\w.length=64/\W64 n
theorem bF (l:List C) (m:C) (hm:HB m) (hN:l.length+100<N):∃m',HB m'/\∀k:KD R,MF N (.slice l) m k=k [m'] []:=by
 obtain⟨d,⟨m',h1,rfl⟩,h⟩:=ZR (R:=R) (F:=fun k2=>RH N k2) (fun n st=>∃(l:List C) (m:C),st=[.slice l,m]/\HB m/\l.length<=n) (fun d=>∃m',HB m'/\d=[m'])
  (fun n st hst=>by
   obtain⟨l,m,rfl,⟨s,w,a,rfl,hw,ha⟩,hl⟩:=hst;by_cases e:0<(l.length:Int)
   ·left;have r:=JP a 64 ha.1 (by omega);generalize hq:ee a 64=q at*;have cw:(Ec w q.toNat (64-q).toNat l).length=64:=by rw[XQ (by omega)];exact hw
    have c1:0<(64-q).toNat:=by omega
    generalize hp:min l.length (64-q).toNat=p at*;have c2:0<=(p:Int)/\(p:Int)<=(l.length:Int)/\(l.length:Int)<=(l.length:Int):=by omega
    have c3:0<=q/\q<=64/\kq 64<=64:=⟨r.1,by omega,by decide⟩;obtain⟨s',hs'⟩:=q1f (R:=R) (N:=N) s (.int (IntKind.u64.wrap (a+IntKind.u64.wrap (p:Int)))) _ cw (by omega);have wn:=eA (a+IntKind.u64.wrap (p:Int));have cl:(cut l (p:Int) (l.length:Int)).length<l.length:=by simp[cut];omega
    by_cases z:ee (IntKind.u64.wrap (a+IntKind.u64.wrap (p:Int))) 64=0
    ·refine⟨_,(cut l (p:Int) (l.length:Int)).length,by omega,⟨cut l (p:Int) (l.length:Int),_,rfl,⟨?s8,_,_,rfl,cw,wn⟩,cn _⟩,fun k rec=>?eq8⟩
     case eq8=>
      unfold RH;simp only[AY,AI,AL,AF,Ac,Ak,Jj,Lm,Tv,SK,cC,cD,e,hq,hp,c1,c2,c3,z,AG,and_self,hs'];rfl
    ·refine⟨_,(cut l (p:Int) (l.length:Int)).length,by omega,⟨cut l (p:Int) (l.length:Int),_,rfl,⟨?s9,_,_,rfl,cw,wn⟩,cn _⟩,fun k rec=>?eq9⟩
     case eq9=>
      unfold RH;simp only[AY,AI,AL,AF,Ac,Ak,Jj,Lm,Tv,SK,cC,cD,e,hq,hp,c1,c2,c3,z,AG,and_self];rfl
   ·right;refine⟨_,⟨_,⟨s,w,a,rfl,hw,ha⟩,rfl⟩,fun k rec=>?_⟩;unfold RH;simp only[AI,AL,Ac,e,AG])
  l.length l.length [.slice l,m] N (cn _) ⟨l,m,rfl,hm,cn _⟩ (by omega)
 refine⟨m',h1,fun k=>?_⟩;rw[pY];unfold ZZ;simp only[AY];exact(h _).trans rfl
theorem yA (l:List C) (m:C) (hm:HB m) (B:Nat) (hb:∀x∈l,∃y:List C,x= .slice y/\y.length<=B) (hl:l.length<N) (hN:B+100<N) (hN2:N<4611686018427387904):∃m',HB m'/\∀k:KD R,OB N (.slice l) m k=k [m'] []:=by
 obtain⟨d,⟨m',h1,rfl⟩,h⟩:=Gq (R:=R) (F:=fun k2=>Uf N k2) l.length (fun i st=>∃m:C,HB m/\st=[.slice l,.int l.length,.int i,m]) (fun d=>∃m',HB m'/\d=[m'])
  (fun i st hi hst=>by
   obtain⟨m,hm,rfl⟩:=hst;have e1:(i:Int)<(l.length:Int):=by omega
   obtain⟨y,hy,hyl⟩:=hb _ (IU hi);obtain⟨m2,h2,h3⟩:=bF (R:=R) (N:=N) y m hm (by omega);refine⟨_,⟨m2,h2,rfl⟩,fun k rec=>?_⟩;unfold Uf;simp only[AI,AL,AP,AU,AF,Ac,e1,AG,db,and_self,bx,hy,h3,CZ (show i<4611686018427387904 by omega)])
  (fun st hst=>by
   obtain⟨m,hm,rfl⟩:=hst;refine⟨_,⟨m,hm,rfl⟩,fun k rec=>?_⟩;unfold Uf;simp only[AI,AL,AP,AU,AF,fw,AG])
  (N:=N) (by omega) (st:=[.slice l,.int l.length,.int (0:Nat),m]) ⟨m,hm,rfl⟩
 refine⟨m',h1,fun k=>?_⟩;rw[pV];unfold ZX;simp only[AY,Ac];exact(h _).trans rfl
def Dig (c:C):Prop:=∃l:List C,c= .agg l/\l.length=32
theorem Tm (n:C):∃x:List C,x.length=4/\∀k:KD R,Kn N n k=k [.slice x] []:=
 ⟨[br (bu de (ft (bp n) (2^min (bo 24) 32))),br (bu de (ft (bp n) (2^min (bo 16) 32))),br (bu de (ft (bp n) (2^min (bo 8) 32))),br (bu de (bp n))],rfl,fun k=>by rw[qC];unfold Zb;rfl⟩
theorem q6n (m:C) (hm:HB m) (hN:1000<N):∃c,Dig c/\∀k:KD R,RB N m k=k [c,m] []:=by
 obtain⟨s,w,a,rfl,hw,ha⟩:=hm;have r:=JP (IntKind.u64.wrap (a+8)) 64 (eA _).1 (by omega);generalize hq:ee (IntKind.u64.wrap (a+8)) 64=q at r;have e1:IntKind.u64.wrap (64-q)=64-q:=wrap_u64 (by omega) (by omega);obtain⟨m1,hm1,h1⟩:=bF (R:=R) (N:=N) (ed (64-q).toNat (fm 0 (List.set (dh (64-q).toNat (AO (cg de))) 0 (br 128)))) (.agg [s,.agg w,.int a]) ⟨s,w,a,rfl,hw,ha⟩ (by simp;omega);obtain⟨f1,hf1,g1⟩:=Tm (R:=R) (N:=N) (br (bu dj (ft (bu bw (a*8)) (2^min (bo 32) 64))));obtain⟨f2,hf2,g2⟩:=Tm (R:=R) (N:=N) (br (bu dj (bu bw (a*8))));obtain⟨m2,hm2,h2⟩:=bF (R:=R) (N:=N) (f1++f2) m1 hm1 (by simp;omega)
 obtain⟨d,⟨z,hz,rfl⟩,h3⟩:=Gq (R:=R) (F:=fun k2=>Ue N k2) 8 (fun i st=>∃z:C,Dig z/\st=[m2.get 0,.int i,.agg [s,.agg w,.int a],AO (.arr 32 (.int .u8)),z]) (fun d=>∃z,Dig z/\d=[.agg [s,.agg w,.int a],AO (.arr 32 (.int .u8)),z])
  (fun i st hi hst=>by
   obtain⟨z,⟨zl,rfl,hzl⟩,rfl⟩:=hst;have e1:(i:Int)<8:=by omega
   have e2:IntKind.i64.wrap (4*(i:Int))=4*i:=wrap_i64 (by omega) (by omega);obtain⟨f,hf,g⟩:=Tm (R:=R) (N:=N) (cd (m2.get 0) i);have c1:0<(32-4*(i:Int)).toNat:=by omega
   refine⟨_,⟨_,⟨_,rfl,by rw[XQ (cs:=zl) (lo:=(4*(i:Int)).toNat) (n:=(32-4*(i:Int)).toNat) (ys:=f) (by omega)];exact hzl⟩,rfl⟩,fun k rec=>?_⟩;unfold Ue;have c2:0<=4*(i:Int)/\4*(i:Int)<=32/\kq 32<=32:=⟨by omega,by omega,by decide⟩;simp only[AI,AL,AP,AU,Aa,AF,Ac,Ak,e1,e2,c1,c2,AG,db,and_self,bx,g,CZ (show i<4611686018427387904 by omega)])
  (fun st hst=>by
   obtain⟨z,hz,rfl⟩:=hst;refine⟨_,⟨z,hz,rfl⟩,fun k rec=>?_⟩;unfold Ue;have h:¬((8:Nat):Int)<8:=by decide
   simp only[AI,AL,AP,AU,Aa,AF,h,AG])
  (N:=N) (by omega) (st:=[m2.get 0,.int (0:Nat),.agg [s,.agg w,.int a],AO (.arr 32 (.int .u8)),AO (.arr 32 (.int .u8))]) ⟨_,⟨_,rfl,by decide⟩,rfl⟩
 refine⟨z,hz,fun k=>?_⟩;rw[pU];unfold ZW;simp only[Tv,AF,hq,e1];rw[if_pos (by omega),if_pos (by constructor <;> simp <;> omega),h1];simp only[AI,g1,g2,Ac,cm,cond_true,hf1,hf2];rw[if_pos (by omega),h2];simp only[AY,AI];exact(h3 _).trans rfl
theorem PD (a0:C) (l:List C) (B:Nat) (hb:∀x∈l,∃y:List C,x= .slice y/\y.length<=B) (hl:l.length+1000<N) (hN:B+1000<N) (hN2:N<4611686018427387904):∃c,Dig c/\∀k:KD R,Jt N a0 (.slice l) k=k [c] []:=by
 obtain⟨m0,hm0,h0⟩:∃m,HB m/\∀k:KD R,RJ N k=k [m] []:=⟨_,⟨_,dh 64 (.int 0),0,by rfl,by simp,by unfold W64;omega⟩,fun k=>by rw[qA];unfold Za;rfl⟩;obtain⟨m1,hm1,h1⟩:=yA (R:=R) (N:=N) [cz [a0,br (bu de (l.length:Int))]] m0 hm0 10 (fun x hx=>⟨_,gh.1 hx,by simp⟩) (by simp;omega) (by omega) hN2
 obtain⟨d,⟨m2,hm2,rfl⟩,h2⟩:=Gq (R:=R) (F:=fun k2=>Ud N k2) l.length (fun i st=>∃m:C,HB m/\st=[.slice l,.int l.length,.int i,AO (.arr 32 (.int .u8)),m]) (fun d=>∃m',HB m'/\d=[AO (.arr 32 (.int .u8)),m'])
  (fun i st hi hst=>by
   obtain⟨m,hm,rfl⟩:=hst;have e1:(i:Int)<(l.length:Int):=by omega
   obtain⟨y,hy,hyl⟩:=hb _ (IU hi);obtain⟨f,hf,g⟩:=Tm (R:=R) (N:=N) (br (bu dj (y.length:Int)))
   obtain⟨m2,h2,h3⟩:=yA (R:=R) (N:=N) [cz f,cz y] m hm (B+4) (fun x hx=>by
    simp only[List.mem_cons,List.not_mem_nil,or_false]at hx;rcases hx with rfl|rfl;{exact⟨_,rfl,by omega⟩}
    ·exact⟨_,rfl,by omega⟩) (by simp;omega) (by omega) hN2
   refine⟨_,⟨m2,h2,rfl⟩,fun k rec=>?_⟩;unfold Ud;simp only[AI,AL,AP,AU,Aa,AF,Ac,e1,AG,db,and_self,bx,hy,g,h3,CZ (show i<4611686018427387904 by omega)])
  (fun st hst=>by
   obtain⟨m,hm,rfl⟩:=hst;refine⟨_,⟨m,hm,rfl⟩,fun k rec=>?_⟩;unfold Ud;simp only[AI,AL,AP,AU,Aa,AF,fw,AG])
  (N:=N) (by omega) (st:=[.slice l,.int l.length,.int (0:Nat),AO (.arr 32 (.int .u8)),m1]) ⟨m1,hm1,rfl⟩
 obtain⟨c,hc,h3⟩:=q6n (R:=R) (N:=N) m2 hm2 (by omega);refine⟨c,hc,fun k=>?_⟩;rw[pS];unfold ZU;simp only[h0,AI,Ac,h1,AY];refine(h2 _).trans ?_;simp only[AL,h3,AI]
end
def q4g:List Sh:=[.ts 1 (.int .u8),.d (.int .u64),.d (.int .i64)]
def q4i:List (Key × OSh):=[]
def Rb {R:Type} (N:Nat) (k2:KD R):KD R->KD R:=fun k3 d1 m1=>(bif decide (0<=bp (dk d1 2))then(if 0<=bu ca (8*bp (dk d1 2))then(bif di (bn (bq (dk d1 1))) (bn (bq (dk d1 1)))then(if(bn (bq (dk d1 1))+1)*1<=140737488355328/\bn (bq (dk d1 1))+1<=9223372036854775807 then(bif di (bn (bq (dk d1 1))+1) (bn (bq (dk d1 1)++[br (bu de (ft (bp (dk d1 0)) (2^min (bo (bu ca (8*bp (dk d1 2)))) 64)))]))then(k3 [dk d1 0,cz (bq (dk d1 1)++[br (bu de (ft (bp (dk d1 0)) (2^min (bo (bu ca (8*bp (dk d1 2)))) 64)))]),br (bu ca (bp (dk d1 2)-1))] [])else none)else none)else none)else none)else(bif di (bn (bq (dk d1 1))) (bn (bq (dk d1 1)))then(k2 [cz (bq (dk d1 1))] [])else none))
def aB (a0 a1 a2:C) (k1:KD R):Option R:=jn (fun d1 m1=>(bif di (bn (bq (dk d1 0))) (bn (bq (dk d1 0)))then(k1 [cz (bq (dk d1 0))] [])else none)) (fun k2=>(bif di (bn (bq a0)) (bn (bq a0))then(BP N (Rb N k2) [a1,cz (bq a0),br (bu ca (bp a2-1))] [])else none))
def OG:=lid "" (@aB R N)
theorem rM {R N a0 a1 a2 k}:@OG R N a0 a1 a2 k=aB N a0 a1 a2 k:=by unfold OG;rw[Ao]
def q4h:OvG R:=Ca q4g q4i (fun ds ms=>OG N (dk ds 0) (dk ds 1) (dk ds 2)) fun ds ms K d1 m1=>K (V.ts 1 (cg de) (bq (dk d1 0))) []
theorem rL:okX 208 (@q4h R N):=Cc Aq N [] [(208,[([1,0,1],(Bh [(0,.sl 1 (.int .u8) 5000)])),
  ([4,1,0,1],(Bv [1] [(0,.sl 1 (.int .u8) 5000),(7,.d (.int .i64))])),
  ([9],(Bh [(6,.sl 1 (.int .u8) 5006)]))])] (fun _ _ _=>rM) fun ds ms K=>(show _=jn (fun d1 m1=>(bif di (bn (bq (dk d1 0))) (bn (bq (dk d1 0)))then
  (K (V.ts 1 (cg de) (bq (dk d1 0))) [])
 else
  none)) _ by kernel_rfl).trans (congrArg (fun k=>jn k _) (funext fun _=>funext fun _=>by simp only[cm,cond_true]))
def q33:List Sh:=[.ts 1 (.int .u8),.d (.slice 8 (.int .u64))]
def q35:List (Key × OSh):=[]
def Uy (k2:KD R):KD R->KD R:=fun k3 d1 m1=>(bif decide (bp (dk d1 3)<bp (dk d1 1))then(if 0<=bp (dk d1 3)/\bp (dk d1 3)<(↑(bn (bq (dk d1 0))):Int)then(bif di (bn (bq (dk d1 2))) (bn (bq (dk d1 2)))then(OG N (cz (bq (dk d1 2))) (dr (bq (dk d1 0)) (bo (bp (dk d1 3))) gm) (br 8) (fun d2 m2=>(bif di (bn (bq (dk d2 0))) (bn (bq (dk d2 0)))then(k3 [dk d1 0,dk d1 1,cz (bq (dk d2 0)),br (bu ca (bp (dk d1 3)+1))] [])else none)))else none)else none)else(bif di (bn (bq (dk d1 2))) (bn (bq (dk d1 2)))then(k2 [cz (bq (dk d1 2))] [])else none))
def Zx (a0 a1:C) (k1:KD R):Option R:=jn (fun d1 m1=>(bif di (bn (bq (dk d1 0))) (bn (bq (dk d1 0)))then(k1 [cz (bq (dk d1 0))] [])else none)) (fun k2=>(bif di (bn (bq a0)) (bn (bq a0))then(BP N (Uy N k2) [a1,br (↑(bn (bq a1)):Int),cz (bq a0),br 0] [])else none))
def Jx:=lid "" (@Zx R N)
theorem rD {R N a0 a1 k}:@Jx R N a0 a1 k=Zx N a0 a1 k:=by unfold Jx;rw[Ao]
def q34:OvG R:=Ca q33 q35 (fun ds ms=>Jx N (dk ds 0) (dk ds 1)) fun ds ms K d1 m1=>K (V.ts 1 (cg de) (bq (dk d1 0))) []
theorem rC:okX 209 (@q34 R N):=Cc (AR (rL N) <| Aq) N [(209,[(4,[(15,1)])])] [(209,[([1,0,1],(Bh [(0,.sl 1 (.int .u8) 5000)])),
  ([4,1,0,1],(Bv [7,8] [(0,.sl 1 (.int .u8) 5000),(9,.d (.int .i64))])),
  ([9],(Bh [(4,.sl 1 (.int .u8) 5004)]))])] (fun _ _ _=>rD) fun ds ms K=>(show _=jn (fun d1 m1=>(bif di (bn (bq (dk d1 0))) (bn (bq (dk d1 0)))then
  (K (V.ts 1 (cg de) (bq (dk d1 0))) [])
 else
  none)) _ by kernel_rfl).trans (congrArg (fun k=>jn k _) (funext fun _=>funext fun _=>by simp only[cm,cond_true]))
def q39:List Sh:=[.ts 1 (.int .u8),.d (.slice 1 (.int .u8))]
def q4b:List (Key × OSh):=[]
def Zz {R:Type} (N:Nat) (a0 a1:C) (k1:KD R):Option R:=bif di (bn (bq a0)) (bn (bq a0))then(if(bn (bq a0)+bn (bq a1))*1<=140737488355328/\bn (bq a0)+bn (bq a1)<=9223372036854775807 then(bif di (bn (bq a0)+bn (bq a1)) (bn (bq a0++bq a1))then(k1 [cz (bq a0++bq a1)] [])else none)else none)else none
def MH:=lid "" (@Zz R N)
theorem rI {R N a0 a1 k}:@MH R N a0 a1 k=Zz N a0 a1 k:=by unfold MH;rw[Ao]
def q4a:OvG R:=Ca q39 q4b (fun ds ms=>MH N (dk ds 0) (dk ds 1)) fun ds ms K d1 m1=>K (V.ts 1 (cg de) (bq (dk d1 0))) []
theorem rH:okX 210 (@q4a R N):=Cc Aq N [] [(210,[([9],(Bh [(4,.sl 1 (.int .u8) 5004)]))])] (fun _ _ _=>rI) fun ds ms K=>(show _=jn (fun d1 m1=>(bif di (bn (bq (dk d1 0))) (bn (bq (dk d1 0)))then
  (K (V.ts 1 (cg de) (bq (dk d1 0))) [])
 else
  none)) _ by kernel_rfl).trans (congrArg (fun k=>jn k _) (funext fun _=>funext fun _=>by simp only[cm,cond_true]))
end Go.Proofs.YtpemdagggddcfaaGreatDoor
