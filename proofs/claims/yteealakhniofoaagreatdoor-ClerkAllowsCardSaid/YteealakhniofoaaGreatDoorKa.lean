/-
 What the functions on the way compute, part 1.
 Conditions: none.
-/
import Derived.Test.YteealakhniofoaaGreatDoorTf
import Derived.Laws.Externs
import Derived.Lib.Bytealg
import Derived.WalkLawsBesides
set_option linter.all false
noncomputable section
set_option maxRecDepth 100000
set_option maxHeartbeats 4000000
open Array renaming ext->vu,getElem?_eq_getElem->dw
open BitVec renaming ofInt->dx
open Bool renaming false_eq_true->fq
open Go.BinOp renaming and->fi,or->ui
open Go.E.C renaming agg->dc,bool->de,elems->ax,get->bj,int->bc,nil->dj,set->cn,slice->bw,toBool->dg,toInt->aq
open Go.E.Ty renaming arr->ca,bool->dq,int->bm
open Go.IntKind renaming i64->ba,u32->ct,u64->ay,wrap->ar
open Go.IntWalk renaming i64_in->ik
open Int renaming eq_ofNat_of_zero_le->kv,lt_irrefl->eg,natCast_nonneg->bz,toNat->av,toNat_natCast->bb
open List renaming all_eq_true->dv,getD->bt,getD_eq_getElem?_getD->bq,getElem?_eq_getElem->bo,getElem_mem->wa,length->au,length_append->br,length_cons->cg,length_map->fg,length_nil->cr,map_cons->dt,mem_append->eh,mem_filter->mj,mem_map->lu,mem_singleton->fj,replicate->bp
open Nat renaming beq->df,beq_refl->bh,le_refl->bx,mod_eq_of_lt->tw,zero_add->bf,zero_le->dr
open Option renaming ite_none_right_eq_some->az
namespace Go.Proofs.YteealakhniofoaaGreatDoor
open Go Go.E
variable {R:Type} (N:Nat)
section
variable {gl:Nat->Option (Ty × C)}
def Fq (l:List UInt8) (m c:Int):C:=.agg [.str l,.int m,.int c]
def JY:List C:=[Fq [104,97,108,116] 0 1,Fq [112,117,115,104] 8 1,Fq [108,111,97,100] 1 1,Fq [97,100,100] 0 1,Fq [115,117,98] 0 1,Fq [109,117,108] 0 3,
 Fq [108,101,115,115] 0 1,Fq [115,97,109,101] 0 1,Fq [110,111,116] 0 1,Fq [98,111,116,104] 0 1,Fq [97,110,121] 0 1,Fq [106,117,109,112] 2 1,Fq [105,102] 2 1,
 Fq [116,119,105,99,101] 0 1,Fq [115,119,97,112] 0 1,Fq [100,114,111,112] 0 1,Fq [112,97,105,100] 1 10,Fq [110,111,119] 0 1]
def GF (gl:Nat->Option (Ty × C)):Prop:=gl 0=some (.arr 18 Fi,.agg JY)
def Dm (o:Int):Nat:=if o=1 then 8 else if o=2\/o=16 then 1 else if o=11\/o=12 then 2 else 0
theorem Vp (o:Int):Dm o<=8:=by unfold Dm;(repeat' split) <;> omega
theorem q19:∀(o:Nat),o<18->(JY.getD o .nil).get 1= .int (Dm o):=by
 intro o h;have c:o=0\/o=1\/o=2\/o=3\/o=4\/o=5\/o=6\/o=7\/o=8\/o=9\/o=10\/o=11\/o=12\/o=13\/o=14\/o=15\/o=16\/o=17:=by omega
 rcases c with rfl|rfl|rfl|rfl|rfl|rfl|rfl|rfl|rfl|rfl|rfl|rfl|rfl|rfl|rfl|rfl|rfl|rfl <;> rfl
def bN (p:List C) (i:Nat):Int:=(p.getD i .nil).toInt
def FI (p:List C) (i:Nat):Nat->Int
 |0=>0|k+1=>FI p i k*256+bN p (i+k)
def DH (p:List C) (i:Nat):Int:=
 if p.length<=i then 9 else if 18<=bN p i then 33 else if p.length<i+1+Dm (bN p i)then 9 else 0
theorem MT {p:List C} (h:C.wf (.slice 1 (.int .u8)) (.slice p)) {i:Nat} (hi:i<p.length):p.getD i .nil= .int (bN p i)/\0<=bN p i/\bN p i<=255:=by
 have:=C.z0s (i:=i) h hi;simp only[ax,C.wf]at this;have m1:IntKind.u8.min=0:=by decide
 have m2:IntKind.u8.max=255:=by decide
 exact⟨this.1,by unfold bN;omega,by unfold bN;omega⟩
theorem iO {p:List C} (h:C.wf (.slice 1 (.int .u8)) (.slice p)) {i:Nat}:∀{k:Nat},i+k<=p.length->0<=FI p i k/\FI p i k<256^k
 |0,_=>by simp[FI]
 |k+1,hk=>by
  have ih:=iO h (k:=k) (i:=i) (by omega);have hb:=MT h (i:=i+k) (by omega);simp only[FI];have e:(256:Int)^(k+1)=256^k*256:=by rw[Int.pow_succ]
  omega
theorem Xn {p:List C} (h:C.wf (.slice 1 (.int .u8)) (.slice p)) {i k:Nat} (hk:i+k<=p.length) (h8:k<=8):0<=FI p i k/\FI p i k<=18446744073709551615/\(k<8->FI p i k<72057594037927936):=by
 obtain⟨h1,h2⟩:=iO h hk;have c:k=0\/k=1\/k=2\/k=3\/k=4\/k=5\/k=6\/k=7\/k=8:=by omega
 rcases c with rfl|rfl|rfl|rfl|rfl|rfl|rfl|rfl|rfl <;> simp at h2 <;> omega
theorem q5R {a b:Int} (ha:0<=a) (ha2:a<72057594037927936) (hb:0<=b) (hb2:b<=255):BV .or .u64 (a*256) b=a*256+b:=by
 obtain⟨x,rfl⟩:=kv ha;obtain⟨y,rfl⟩:=kv hb;have hx:x<72057594037927936:=by omega
 have hy:y<256:=by omega
 have e1:((x:Int)*256)=((x*256:Nat):Int):=by omega
 have key:(x*256)|||y=x*256+y:=by have:=Nat.two_pow_add_eq_or_of_lt (i:=8) (b:=y) (by omega) x;rw[Nat.mul_comm x 256];exact this.symm
 rw[e1];show IntKind.u64.wrap (((dx 64 ((x*256:Nat):Int))|||(dx 64 ((y:Nat):Int))).toNat:Int)=_;simp only[BitVec.toNat_or,BitVec.ofInt_natCast,BitVec.toNat_ofNat];rw[tw (by omega),tw (by omega),key];have m1:IntKind.u64.min=0:=by decide
 have m2:IntKind.u64.max=18446744073709551615:=by decide
 exact(Nr (by omega) (by omega)).trans (by omega)
end
section
variable {gl:Nat->Option (Ty × C)}
theorem J4 (A:Key->Option O) (cs:List C):Cc (X0 gl) 43 [.d (.slice 1 (.int .u8)) (.slice cs)] A (.ts 1 (.int .u8) cs) []:=by
 refine Jx (n:=8) (ok0 gl) Tryz.func43 rfl rfl (by simp) ?_;intro A' hA;refine CX (DE (ok0 gl) [] (by kernel_rfl) ?_);simp only[go_sem,↓Bu,↓Bt,↓Bs,↓Br,↓Bv,↓Bm,↓Bl,↓Bj,↓Bk,simprocAttr];refine CX (CX (DE (ok0 gl) [] (by kernel_rfl) ?_));cases cs with
 |nil=>
  simp only[go_sem,↓Bu,↓Bt,↓Bs,↓Br,↓Bv,↓Bm,↓Bl,↓Bj,↓Bk,simprocAttr];refine RG rfl ?_ (Gq ?_);{refine CX (DE (ok0 gl) [] (by kernel_rfl) ?_);simp only[go_sem,↓Bu,↓Bt,↓Bs,↓Br,↓Bv,↓Bm,↓Bl,↓Bj,↓Bk,simprocAttr];refine FU ⟨.inr rfl,?_⟩;simp only[Ez,go_sem,↓Bu,↓Bt,↓Bs,↓Br,↓Bv,↓Bm,↓Bl,↓Bj,↓Bk,simprocAttr,Tryz.f43]};{refine CX (DE (ok0 gl) [] (by kernel_rfl) ?_);simp only[go_sem,↓Bu,↓Bt,↓Bs,↓Br,↓Bv,↓Bm,↓Bl,↓Bj,↓Bk,simprocAttr];refine FU ⟨.inr rfl,?_⟩;simp only[Ez,go_sem,↓Bu,↓Bt,↓Bs,↓Br,↓Bv,↓Bm,↓Bl,↓Bj,↓Bk,simprocAttr,Tryz.f43]}
 |cons c cs=>
  simp only[go_sem,↓Bu,↓Bt,↓Bs,↓Br,↓Bv,↓Bm,↓Bl,↓Bj,↓Bk,simprocAttr];refine LF _ rfl (fun h=>by simp at h) (fun _=>Gq ?_);refine CX (DE (ok0 gl) [] (by kernel_rfl) ?_);simp only[go_sem,↓Bu,↓Bt,↓Bs,↓Br,↓Bv,↓Bm,↓Bl,↓Bj,↓Bk,simprocAttr];refine FU ⟨.inr rfl,?_⟩;simp only[Ez,go_sem,↓Bu,↓Bt,↓Bs,↓Br,↓Bv,↓Bm,↓Bl,↓Bj,↓Bk,simprocAttr,Tryz.f43]
theorem H2 (A:Key->Option O) (cs:List C) (hne:cs≠[]):Cc (X0 gl) 64 [.d (.slice 8 (.int .u64)) (.slice cs)] A (.sr (.l 7) [] 0 cs.length none 8 (.int .u64)) [(.l 7,.box (.d (.arr cs.length (.int .u64)) (.agg cs)))]:=by
 refine Jx (n:=8) (ok0 gl) Tryz.func64 rfl rfl (by simp) ?_;intro A' hA;refine CX (DE (ok0 gl) [] (by kernel_rfl) ?_);simp only[go_sem,↓Bu,↓Bt,↓Bs,↓Br,↓Bv,↓Bm,↓Bl,↓Bj,↓Bk,simprocAttr];cases cs with
 |nil=>exact absurd rfl hne|cons c cs=>
  refine CX (CX (DE (ok0 gl) [] (by kernel_rfl) ?_));simp only[go_sem,↓Bu,↓Bt,↓Bs,↓Br,↓Bv,↓Bm,↓Bl,↓Bj,↓Bk,simprocAttr];refine LF _ rfl (fun h=>by simp at h) (fun _=>Gq ?_);refine CX (DE (ok0 gl) [(7,3)] (by kernel_rfl) ?_);simp only[go_sem,↓Bu,↓Bt,↓Bs,↓Br,↓Bv,↓Bm,↓Bl,↓Bj,↓Bk,simprocAttr];refine FU ⟨.inr rfl,?_⟩;simp only[Ez,go_sem,↓Bu,↓Bt,↓Bs,↓Br,↓Bv,↓Bm,↓Bl,↓Bj,↓Bk,simprocAttr,Tryz.f64] <;> try rfl
theorem J6 (A:Key->Option O) (cs:List C):Cc (X0 gl) 67 [.d (.slice 32 (.arr 32 (.int .u8))) (.slice cs)] A (.ts 32 (.arr 32 (.int .u8)) cs) []:=by
 refine Jx (n:=8) (ok0 gl) Tryz.func67 rfl rfl (by simp) ?_;intro A' hA;refine CX (DE (ok0 gl) [] (by kernel_rfl) ?_);simp only[go_sem,↓Bu,↓Bt,↓Bs,↓Br,↓Bv,↓Bm,↓Bl,↓Bj,↓Bk,simprocAttr];refine CX (CX (DE (ok0 gl) [] (by kernel_rfl) ?_));cases cs with
 |nil=>
  simp only[go_sem,↓Bu,↓Bt,↓Bs,↓Br,↓Bv,↓Bm,↓Bl,↓Bj,↓Bk,simprocAttr];refine RG rfl ?_ (Gq ?_);{refine CX (DE (ok0 gl) [] (by kernel_rfl) ?_);simp only[go_sem,↓Bu,↓Bt,↓Bs,↓Br,↓Bv,↓Bm,↓Bl,↓Bj,↓Bk,simprocAttr];refine FU ⟨.inr rfl,?_⟩;simp only[Ez,go_sem,↓Bu,↓Bt,↓Bs,↓Br,↓Bv,↓Bm,↓Bl,↓Bj,↓Bk,simprocAttr,Tryz.f67]};{refine CX (DE (ok0 gl) [] (by kernel_rfl) ?_);simp only[go_sem,↓Bu,↓Bt,↓Bs,↓Br,↓Bv,↓Bm,↓Bl,↓Bj,↓Bk,simprocAttr];refine FU ⟨.inr rfl,?_⟩;simp only[Ez,go_sem,↓Bu,↓Bt,↓Bs,↓Br,↓Bv,↓Bm,↓Bl,↓Bj,↓Bk,simprocAttr,Tryz.f67]}
 |cons c cs=>
  simp only[go_sem,↓Bu,↓Bt,↓Bs,↓Br,↓Bv,↓Bm,↓Bl,↓Bj,↓Bk,simprocAttr];refine LF _ rfl (fun h=>by simp at h) (fun _=>Gq ?_);refine CX (DE (ok0 gl) [] (by kernel_rfl) ?_);simp only[go_sem,↓Bu,↓Bt,↓Bs,↓Br,↓Bv,↓Bm,↓Bl,↓Bj,↓Bk,simprocAttr];refine FU ⟨.inr rfl,?_⟩;simp only[Ez,go_sem,↓Bu,↓Bt,↓Bs,↓Br,↓Bv,↓Bm,↓Bl,↓Bj,↓Bk,simprocAttr,Tryz.f67]
theorem J5 (A:Key->Option O) (cs:List C):Cc (X0 gl) 83 [.d (.slice 64 CR) (.slice cs)] A (.ts 64 CR cs) []:=by
 refine Jx (n:=8) (ok0 gl) Tryz.func83 rfl rfl (by simp) ?_;intro A' hA;refine CX (DE (ok0 gl) [] (by kernel_rfl) ?_);simp only[go_sem,↓Bu,↓Bt,↓Bs,↓Br,↓Bv,↓Bm,↓Bl,↓Bj,↓Bk,simprocAttr];refine CX (CX (DE (ok0 gl) [] (by kernel_rfl) ?_));cases cs with
 |nil=>
  simp only[go_sem,↓Bu,↓Bt,↓Bs,↓Br,↓Bv,↓Bm,↓Bl,↓Bj,↓Bk,simprocAttr];refine RG rfl ?_ (Gq ?_);{refine CX (DE (ok0 gl) [] (by kernel_rfl) ?_);simp only[go_sem,↓Bu,↓Bt,↓Bs,↓Br,↓Bv,↓Bm,↓Bl,↓Bj,↓Bk,simprocAttr];refine FU ⟨.inr rfl,?_⟩;simp only[Ez,go_sem,↓Bu,↓Bt,↓Bs,↓Br,↓Bv,↓Bm,↓Bl,↓Bj,↓Bk,simprocAttr,Tryz.f83]};{refine CX (DE (ok0 gl) [] (by kernel_rfl) ?_);simp only[go_sem,↓Bu,↓Bt,↓Bs,↓Br,↓Bv,↓Bm,↓Bl,↓Bj,↓Bk,simprocAttr];refine FU ⟨.inr rfl,?_⟩;simp only[Ez,go_sem,↓Bu,↓Bt,↓Bs,↓Br,↓Bv,↓Bm,↓Bl,↓Bj,↓Bk,simprocAttr,Tryz.f83]}
 |cons c cs=>
  simp only[go_sem,↓Bu,↓Bt,↓Bs,↓Br,↓Bv,↓Bm,↓Bl,↓Bj,↓Bk,simprocAttr];refine LF _ rfl (fun h=>by simp at h) (fun _=>Gq ?_);refine CX (DE (ok0 gl) [] (by kernel_rfl) ?_);simp only[go_sem,↓Bu,↓Bt,↓Bs,↓Br,↓Bv,↓Bm,↓Bl,↓Bj,↓Bk,simprocAttr];refine FU ⟨.inr rfl,?_⟩;simp only[Ez,go_sem,↓Bu,↓Bt,↓Bs,↓Br,↓Bv,↓Bm,↓Bl,↓Bj,↓Bk,simprocAttr,Tryz.f83]
theorem H0 (A:Key->Option O) (cs:List C):Cc (X0 gl) 78 [.d (.slice 24 DJ) (.slice cs)] A (.ts 24 DJ cs) []:=by
 refine Jx (n:=8) (ok0 gl) Tryz.func78 rfl rfl (by simp) ?_;intro A' hA;refine CX (DE (ok0 gl) [] (by kernel_rfl) ?_);simp only[go_sem,↓Bu,↓Bt,↓Bs,↓Br,↓Bv,↓Bm,↓Bl,↓Bj,↓Bk,simprocAttr];refine CX (CX (DE (ok0 gl) [] (by kernel_rfl) ?_));cases cs with
 |nil=>
  simp only[go_sem,↓Bu,↓Bt,↓Bs,↓Br,↓Bv,↓Bm,↓Bl,↓Bj,↓Bk,simprocAttr];refine RG rfl ?_ (Gq ?_);{refine CX (DE (ok0 gl) [] (by kernel_rfl) ?_);simp only[go_sem,↓Bu,↓Bt,↓Bs,↓Br,↓Bv,↓Bm,↓Bl,↓Bj,↓Bk,simprocAttr];refine FU ⟨.inr rfl,?_⟩;simp only[Ez,go_sem,↓Bu,↓Bt,↓Bs,↓Br,↓Bv,↓Bm,↓Bl,↓Bj,↓Bk,simprocAttr,Tryz.f78]};{refine CX (DE (ok0 gl) [] (by kernel_rfl) ?_);simp only[go_sem,↓Bu,↓Bt,↓Bs,↓Br,↓Bv,↓Bm,↓Bl,↓Bj,↓Bk,simprocAttr];refine FU ⟨.inr rfl,?_⟩;simp only[Ez,go_sem,↓Bu,↓Bt,↓Bs,↓Br,↓Bv,↓Bm,↓Bl,↓Bj,↓Bk,simprocAttr,Tryz.f78]}
 |cons c cs=>
  simp only[go_sem,↓Bu,↓Bt,↓Bs,↓Br,↓Bv,↓Bm,↓Bl,↓Bj,↓Bk,simprocAttr];refine LF _ rfl (fun h=>by simp at h) (fun _=>Gq ?_);refine CX (DE (ok0 gl) [] (by kernel_rfl) ?_);simp only[go_sem,↓Bu,↓Bt,↓Bs,↓Br,↓Bv,↓Bm,↓Bl,↓Bj,↓Bk,simprocAttr];refine FU ⟨.inr rfl,?_⟩;simp only[Ez,go_sem,↓Bu,↓Bt,↓Bs,↓Br,↓Bv,↓Bm,↓Bl,↓Bj,↓Bk,simprocAttr,Tryz.f78]
theorem H3 (A:Key->Option O) (cs:List C):Cc (X0 gl) 55 [.d (.slice 112 Cy) (.slice cs)] A (.ts 112 Cy cs) []:=by
 refine Jx (n:=8) (ok0 gl) Tryz.func55 rfl rfl (by simp) ?_;intro A' hA;refine CX (DE (ok0 gl) [] (by kernel_rfl) ?_);simp only[go_sem,↓Bu,↓Bt,↓Bs,↓Br,↓Bv,↓Bm,↓Bl,↓Bj,↓Bk,simprocAttr];refine CX (CX (DE (ok0 gl) [] (by kernel_rfl) ?_));cases cs with
 |nil=>
  simp only[go_sem,↓Bu,↓Bt,↓Bs,↓Br,↓Bv,↓Bm,↓Bl,↓Bj,↓Bk,simprocAttr];refine RG rfl ?_ (Gq ?_);{refine CX (DE (ok0 gl) [] (by kernel_rfl) ?_);simp only[go_sem,↓Bu,↓Bt,↓Bs,↓Br,↓Bv,↓Bm,↓Bl,↓Bj,↓Bk,simprocAttr];refine FU ⟨.inr rfl,?_⟩;simp only[Ez,go_sem,↓Bu,↓Bt,↓Bs,↓Br,↓Bv,↓Bm,↓Bl,↓Bj,↓Bk,simprocAttr,Tryz.f55]};{refine CX (DE (ok0 gl) [] (by kernel_rfl) ?_);simp only[go_sem,↓Bu,↓Bt,↓Bs,↓Br,↓Bv,↓Bm,↓Bl,↓Bj,↓Bk,simprocAttr];refine FU ⟨.inr rfl,?_⟩;simp only[Ez,go_sem,↓Bu,↓Bt,↓Bs,↓Br,↓Bv,↓Bm,↓Bl,↓Bj,↓Bk,simprocAttr,Tryz.f55]}
 |cons c cs=>
  simp only[go_sem,↓Bu,↓Bt,↓Bs,↓Br,↓Bv,↓Bm,↓Bl,↓Bj,↓Bk,simprocAttr];refine LF _ rfl (fun h=>by simp at h) (fun _=>Gq ?_);refine CX (DE (ok0 gl) [] (by kernel_rfl) ?_);simp only[go_sem,↓Bu,↓Bt,↓Bs,↓Br,↓Bv,↓Bm,↓Bl,↓Bj,↓Bk,simprocAttr];refine FU ⟨.inr rfl,?_⟩;simp only[Ez,go_sem,↓Bu,↓Bt,↓Bs,↓Br,↓Bv,↓Bm,↓Bl,↓Bj,↓Bk,simprocAttr,Tryz.f55]
theorem J8 (A:Key->Option O) (cs:List C) (hne:cs≠[]):Cc (X0 gl) 71 [.d (.slice 40 AW) (.slice cs)] A (.sr (.l 7) [] 0 cs.length none 40 AW) [(.l 7,.box (.d (.arr cs.length AW) (.agg cs)))]:=by
 refine Jx (n:=8) (ok0 gl) Tryz.func71 rfl rfl (by simp) ?_;intro A' hA;refine CX (DE (ok0 gl) [] (by kernel_rfl) ?_);simp only[go_sem,↓Bu,↓Bt,↓Bs,↓Br,↓Bv,↓Bm,↓Bl,↓Bj,↓Bk,simprocAttr];cases cs with
 |nil=>exact absurd rfl hne|cons c cs=>
  refine CX (CX (DE (ok0 gl) [] (by kernel_rfl) ?_));simp only[go_sem,↓Bu,↓Bt,↓Bs,↓Br,↓Bv,↓Bm,↓Bl,↓Bj,↓Bk,simprocAttr];refine LF _ rfl (fun h=>by simp at h) (fun _=>Gq ?_);refine CX (DE (ok0 gl) [(7,3)] (by kernel_rfl) ?_);simp only[go_sem,↓Bu,↓Bt,↓Bs,↓Br,↓Bv,↓Bm,↓Bl,↓Bj,↓Bk,simprocAttr];refine FU ⟨.inr rfl,?_⟩;simp only[Ez,go_sem,↓Bu,↓Bt,↓Bs,↓Br,↓Bv,↓Bm,↓Bl,↓Bj,↓Bk,simprocAttr,Tryz.f71] <;> try rfl
end
section
variable {gl:Nat->Option (Ty × C)}
theorem Z4 (a b:C):Ny (X0 gl) 100 [.d (.int .u64) a,.d (.int .u64) b,.d (.int .u64) (.int 0)] (.tup [.d (.int .u64) (.int ((a.toInt+b.toInt)%18446744073709551616)),.d (.int .u64) (.int ((a.toInt+b.toInt) / 18446744073709551616))]):=by
 intro Γ w args hl hr;have hs:args.size=3:=hl.symm;obtain⟨e1,_,l1,m1⟩:=EU (hr 0 _ _ rfl (dw (by omega)));obtain⟨e2,_,l2,m2⟩:=EU (hr 1 _ _ rfl (dw (by omega)));obtain⟨e3,_,_,_⟩:=EU (hr 2 _ _ rfl (dw (by omega)));have ea:args=#[.int .u64 a.toInt,.int .u64 b.toInt,.int .u64 0]:=by
  apply vu;{simpa using hs}
  ·intro i h1 h2
   match i with
   |0=>simpa using e1|1=>simpa using e2|2=>simpa[aq]using e3|i+3=>omega
 have z:IntKind.u64.min=0:=by decide
 have z':IntKind.u64.max=18446744073709551615:=by decide
 refine⟨.tuple #[.int .u64 ((a.toInt+b.toInt)%18446744073709551616),.int .u64 ((a.toInt+b.toInt) / 18446744073709551616)],?_,#[_,_],rfl,?_⟩;{have zc:=run_callFunc_extern (P:=(X0 gl).P) (f:=100) (fn:=Tryz.f100) (e:=add64Entry) Tryz.func100 (by decide) rfl (by kernel_rfl) (by kernel_rfl) args w;rw[zc,ea,run_add64 _ _ _ (by omega) (by omega) (by omega) (by omega)];simp}
 ·refine TB rfl fun i x u hx hu=>?_
  match i with
  |0=>simp at hx hu;subst hx;subst hu;exact⟨rfl,EB (by omega) (by omega)⟩|1=>simp at hx hu;subst hx;subst hu;exact⟨rfl,EB (by omega) (by omega)⟩|i+2=>simp at hx
end
def KL:List (Nat × Ty × C)->Nat->Option (Ty × C)
 | [],_=>none|(i,x)::l,g=>bif df g i then some x else KL l g
theorem rK {gl:Nat->Option (Ty × C)}:∀{l:List (Nat × Ty × C)},l.map (fun p=>gl p.1)=l.map (fun p=>some p.2)->∀g x,KL l g=some x->gl g=some x
 | [],_,g,x,h=>by cases h
 |(i,y)::l,h0,g,x,h=>by
  simp only[dt,List.cons.injEq]at h0;simp only[KL]at h;cases hb:df g i with
  |true=>
   rw[hb,cond_true]at h;cases h;rw[Nat.eq_of_beq_eq_true hb];exact h0.1
  |false=>
   rw[hb,cond_false]at h;exact rK h0.2 g x h
def ZP:List (Nat × Ty × C):=
 (0,.arr 18 Fi,.agg JY)::
 []
def gl0:Nat->Option (Ty × C):=KL ZP
theorem gf0:GF gl0:=rfl
theorem q2p (gl:Nat->Option (Ty × C)) (h:ZP.map (fun p=>gl p.1)=ZP.map (fun p=>some p.2)):∀g x,gl0 g=some x->gl g=some x:=rK h
def Xh:List V->Option V:=fun xs=>match xs with| [.d (.int .u64) a,.d (.int .u64) b,.d (.int .u64) (.int c)]=>if c=0 then some (.tup [.d (.int .u64) (.int ((a.toInt+b.toInt)%18446744073709551616)),.d (.int .u64) (.int ((a.toInt+b.toInt) / 18446744073709551616))])else none|_=>none
def Yq:List (Nat × (List V->Option V)):=[]
 ++[(100,Xh)]
def Mk:EY:=Uq Yq
theorem q1V (gl:Nat->Option (Ty × C)):Ks (X0 gl) Yq:=by
 unfold Yq
 repeat' refine Ks.append ?_ ⟨?_,trivial⟩
 ·exact trivial
 ·intro xs v h;have h:Xh xs=some v:=h;show Ny (X0 gl) 100 xs v;unfold Xh at h;split at h;{simp only[az,Option.some.injEq]at h;obtain⟨rfl,rfl⟩:=h;exact Z4 _ _};{cases h}
theorem Yr (gl:Nat->Option (Ty × C)):Ig (X0 gl) Mk:=mZ (q1V gl)
def noX:FuncId->Nat->List (Nat × Nat):=fun _ _=>[]
def W2 (_:Nat) {R:Type}:OvG R:=MZ 1 (.int .u8)
theorem YD (N:Nat) {R:Type}:GOk (X0 gl0) 43 (W2 N (R:=R)):=Qr fun A cs=>J4 A cs
def W5 (_:Nat) {R:Type}:OvG R:=MZ 32 (.arr 32 (.int .u8))
theorem W6 (N:Nat) {R:Type}:GOk (X0 gl0) 67 (W5 N (R:=R)):=Qr fun A cs=>J6 A cs
def W3 (_:Nat) {R:Type}:OvG R:=MZ 64 CR
theorem W4 (N:Nat) {R:Type}:GOk (X0 gl0) 83 (W3 N (R:=R)):=Qr fun A cs=>J5 A cs
def YE (_:Nat) {R:Type}:OvG R:=fun xs _ K=>match xs with| [.d (.slice eb e) (.slice (c::cs))]=>if eb=8/\e= .int .u64 then K (.sr (.l 7) [] 0 (c::cs).length none 8 (.int .u64)) [(.l 7,.box (.d (.arr (c::cs).length (.int .u64)) (.agg (c::cs))))]else none|_=>none
theorem W9 (N:Nat) {R:Type}:GOk (X0 gl0) 64 (YE N (R:=R)):=by intro xs A Kr r hr;unfold YE at hr;split at hr;{simp only[az]at hr;obtain⟨⟨rfl,rfl⟩,hr⟩:=hr;exact⟨_,_,H2 A _ (by simp),hr⟩};{cases hr}
def W7 (_:Nat) {R:Type}:OvG R:=MZ 24 DJ
theorem W8 (N:Nat) {R:Type}:GOk (X0 gl0) 78 (W7 N (R:=R)):=Qr fun A cs=>H0 A cs
def U0 (_:Nat) {R:Type}:OvG R:=MZ 112 Cy
theorem U1 (N:Nat) {R:Type}:GOk (X0 gl0) 55 (U0 N (R:=R)):=Qr fun A cs=>H3 A cs
def W64 (a:Int):Prop:=0<=a/\a<18446744073709551616
theorem wrap_u8 (x:Int):IntKind.u8.wrap x=x%256:=by simp[ar,IntKind.bits,IntKind.signed]
theorem wrap_i64 {n:Int} (h: -9223372036854775808<=n) (h2:n<9223372036854775808):IntKind.i64.wrap n=n:=ik _ (by omega)
theorem Eb {l:List C} {i:Nat} (h:i<l.length):l.getD i .nil∈l:=by rw[bq,bo h];exact wa h
section
variable {gl:Nat->Option (Ty × C)}
def FO (p:List C):Nat->Nat->List Nat->Int × List Nat
 |0,_,bs=>(0,bs)|f+1,i,bs=>if i<p.length then(if DH p i=0 then FO p f (i+1+Dm (bN p i)) (bs++[i])else(DH p i,bs))else(0,bs)
def Hm (p:List C) (i:Nat):Bool:=decide (bN p i=11)||decide (bN p i=12)
def toN (p:List C) (i:Nat):Int:=FI p (i+1) (Dm (bN p i))
def GH (p:List C) (bs:List Nat):List C:=(bs.filter (Hm p)).map fun i=>.int (toN p i)
def GC (bs:List Nat) (c:C):C:=.bool (bs.any fun j=>decide (c=bc (j:Int)))
def Dj (p:List C):Int:=
 if 256<p.length then 1 else if(FO p p.length 0 []).1≠0 then(FO p p.length 0 []).1 else
  if(GH p (FO p p.length 0 []).2).all (fun c=>(GC (FO p p.length 0 []).2 c).toBool)then 0 else 10
theorem yD {p:List C} {i:Nat} {bs:List Nat} {r:Int × List Nat} (hi:i<p.length) (h:FO p (p.length-i) i bs=r):
  (DH p i≠0->r=(DH p i,bs))/\(DH p i=0->i+1+Dm (bN p i)<=p.length/\FO p (p.length-(i+1+Dm (bN p i))) (i+1+Dm (bN p i)) (bs++[i])=r):=by
 have mono:∀(f g j:Nat) (bs:List Nat),p.length-j<=f->p.length-j<=g->FO p f j bs=FO p g j bs:=by
  intro f
  induction f with
  |zero=>
   intro g j bs h1 h2;cases g with
   |zero=>rfl|succ g=>simp only[FO];rw[if_neg (by omega)]
  |succ f ih=>
   intro g j bs h1 h2;cases g with
   |zero=>simp only[FO];rw[if_neg (by omega)]|succ g=>
    simp only[FO];split;{split;{exact ih _ _ _ (by omega) (by omega)};{rfl}};{rfl}
 obtain⟨f,hf⟩:∃f,p.length-i=f+1:=⟨p.length-i-1,by omega⟩;rw[hf]at h;simp only[FO]at h;rw[if_pos hi]at h;refine⟨fun he=>?_,fun he=>⟨?_,?_⟩⟩;{rw[if_neg he]at h;exact h.symm};{unfold DH at he;rw[if_neg (by omega)]at he;split at he;{simp at he};{split at he;{simp at he};{omega}}};{rw[if_pos he]at h;rw[<-h];exact mono _ _ _ _ (by omega) (by omega)}
theorem yC {p:List C} {i:Nat} {bs:List Nat} (hi:p.length<=i):FO p (p.length-i) i bs=(0,bs):=by rw[show p.length-i=0 by omega];rfl
theorem q3U (p:List C) (bs:List Nat) (i:Nat):GH p (bs++[i])=if Hm p i=true then GH p bs++[.int (toN p i)]else GH p bs:=by unfold GH;rw[List.filter_append];by_cases h:Hm p i=true;{rw[if_pos h];simp[h]};{rw[if_neg h];simp[h]}
theorem q3T (p:List C) (bs:List Nat):(GH p bs).length<=bs.length:=by unfold GH;rw[fg];exact List.length_filter_le _ _
end
abbrev EK {R:Type} (f:C->KD R->Option R):(Nat->C)->KD R->Option R:=fun a=>f (a 0)
abbrev FH {R:Type} (f:C->C->KD R->Option R):(Nat->C)->KD R->Option R:=fun a=>f (a 0) (a 1)
abbrev Kx {R:Type} (f:C->C->C->KD R->Option R):(Nat->C)->KD R->Option R:=fun a=>f (a 0) (a 1) (a 2)
def DM (t:Ty) {R:Type}:(Nat->C)->(V->List (Key × O)->Option R)->KD R:=fun _ K d _=>K (V.d t (U d 0)) []
def JX {R:Type}:(Nat->C)->(V->List (Key × O)->Option R)->KD R:=fun _ K d _=>K (V.d dq (de (dg (U d 0)))) []
def Cz (a:List Nat) (b:List (Nat × Sh)):Hint:=⟨a,b,[],[],[],[]⟩
def Ct (b:List (Nat × Sh)):Hint:=⟨[],b,[],[],[],[]⟩
abbrev okX (f:Nat) {R:Type} (g:OvG R):Prop:=GOk (X0 gl0) f g
def BT:OvS (X0 gl0):=⟨fun _=>[],fun _ _ h=>nomatch h⟩
def BJ {f:FuncId} {g:(R:Type)->OvG R} (h:∀{R:Type},GOk (X0 gl0) f (g R)) (o:OvS (X0 gl0)):OvS (X0 gl0):=⟨fun R=>(f,g R)::o.g R,fun R=>List.forall_mem_cons.2 ⟨h,o.ok R⟩⟩
def TU {α:Type} (l:List (Nat × List α)) (f:Nat):List α:=(E.look l f).getD []
def fJ (l:List (Nat × List (Nat × List (Nat × Nat)))) (f r:Nat):List (Nat × Nat):=TU (TU l f) r
def UT:List Ty->Nat->(Nat->C)->List V
 | [],_,_=>[]|t::ts,i,a=>.d t (a i)::UT ts (i+1) a
def Md:List Ty->List V->Option (List C)
 | [],[]=>some []|t::ts,.d u c::xs=>if u=t then(match Md ts xs with|some cs=>some (c::cs)|none=>none)else none|_,_=>none
theorem kM:∀(ts:List Ty) (xs:List V) (cs:List C) (i:Nat) (a:Nat->C),Md ts xs=some cs->(∀j,j<cs.length->a (i+j)=cs.getD j .nil)->xs=UT ts i a
 | [],[],_,_,_,_,_=>rfl|t::ts,.d u c::xs,cs,i,a,h,ha=>by
  simp only[Md]at h;split at h
  ·split at h
   ·rename_i hu _ cs' hcs;cases h;subst hu;have h0:=ha 0 (Nat.zero_lt_succ _);have ih:=kM ts xs cs' (i+1) a hcs fun j hj=>by have:=ha (j+1) (Nat.succ_lt_succ hj);rw[show i+1+j=i+(j+1) by omega,this];rfl
    show _=V.d u (a i)::_;rw[<-ih,show a i=c from h0]
   ·cases h
  ·cases h
def Bq {R:Type} (ts:List Ty) (P:(Nat->C)->KD R->Option R) (F:(Nat->C)->(V->List (Key × O)->Option R)->KD R):OvG R:=fun xs _ K=>match Md ts xs with|some cs=>P (U cs) (F (U cs) K)|none=>none
theorem kL {R:Type} {ts:List Ty} {P P0:(Nat->C)->KD R->Option R} {F:(Nat->C)->(V->List (Key × O)->Option R)->KD R} {f:Nat} (o:OvS (X0 gl0)) (N n m:Nat) (tb:List (Nat × List (Nat × List (Nat × Nat)))) (hs:List (Nat × Hints)) (e:∀a k,P a k=P0 a k)
  (h:∀a K,exF (X0 gl0) (o.ov R) Mk (fJ tb) (TU hs) N n m f (UT ts 0 a) A0 K=jn (F a K) (P0 a):=by intros;kernel_rfl):GOk (X0 gl0) f (Bq ts P F):=by
 intro xs A Kr r hr;unfold Bq at hr;split at hr;{rename_i cs hcs;rw[e,<-AR (F (U cs) Kr) (P0 (U cs)),<-h]at hr;rw[kM ts xs cs 0 (U cs) hcs fun j _=>by rw[bf];rfl];obtain⟨v,L,h1,h2⟩:=Ul (ok0 gl0) (mo gl0) (o.cC _) (Yr gl0) _ _ _ _ _ _ hr;exact⟨v,L,h1.mono (qP fun _=>rfl),h2⟩};{cases hr}
theorem CV {R:Type} {ts:List Ty} {P P0:(Nat->C)->KD R->Option R} {F:(Nat->C)->(V->List (Key × O)->Option R)->KD R} {f:Nat} (o:OvS (X0 gl0)) (N:Nat) (tb:List (Nat × List (Nat × List (Nat × Nat)))) (hs:List (Nat × Hints)) (e:∀a k,P a k=P0 a k)
  (h:∀a K,exF (X0 gl0) (o.ov R) Mk (fJ tb) (TU hs) N 400 8 f (UT ts 0 a) A0 K=jn (F a K) (P0 a):=by intros;kernel_rfl):GOk (X0 gl0) f (Bq ts P F):=kL o N 400 8 tb hs e h
def Cu {R:Type} (sa:List Sh) (os:List (Key × OSh)) (P:List C->List Es->KD R->Option R) (F:List C->List Es->(V->List (Key × O)->Option R)->KD R):OvG R:=WK sa os fun ds ms K=>P ds ms (F ds ms K)
theorem Cv {R:Type} {sa:List Sh} {os:List (Key × OSh)} {P P0:List C->List Es->KD R->Option R} {F:List C->List Es->(V->List (Key × O)->Option R)->KD R} {f:Nat} (o:OvS (X0 gl0)) (N:Nat) (tb:List (Nat × List (Nat × List (Nat × Nat)))) (hs:List (Nat × Hints)) (e:∀ds ms k,P ds ms k=P0 ds ms k)
  (h:∀ds ms K,exF (X0 gl0) (o.ov R) Mk (fJ tb) (TU hs) N 400 8 f (Sh.Er sa 0 ds) (AZ (CW os (Sh.Hs sa) 0 ds ms)) K=jn (F ds ms K) (P0 ds ms):=by intros;kernel_rfl):GOk (X0 gl0) f (Cu sa os P F):=by
 refine vA fun ds ms K r hr=>?_;rw[e,<-AR (F ds ms K) (P0 ds ms),<-h]at hr;obtain⟨v,L,h1,h2⟩:=Ul (ok0 gl0) (mo gl0) (o.cC _) (Yr gl0) _ _ _ _ _ _ hr;exact⟨v,L,h1,h2⟩
def Ur {R:Type} (N:Nat) (k2:KD R):KD R->KD R:=fun k3 J m1=>(bif decide (aq (U J 5)<aq (U J 3))then(if 0<=aq (U J 5)/\aq (U J 5)<(↑(au (ax (U J 2))):Int)then(k3 [U J 0,U J 1,U J 2,U J 3,bc (BV ui ay (ar ay (aq (U J 4)*2^min (av 8) 64)) (ar ay (aq (bt (ax (U J 2)) (av (aq (U J 5))) dj)))),bc (ar ba (aq (U J 5)+1))] [])else none)else(k2 [U J 0,U J 1,U J 4] []))
def Yt (a0 a1:C) (k1:KD R):Option R:=bif decide ((↑(au (ax a0)):Int)<=aq a1)then(k1 [bc 0,bc 0,bc 0,bc 9] [])else(if 0<=aq a1/\aq a1<(↑(au (ax a0)):Int)then(bif decide (18<=ar ba (aq (bt (ax a0) (av (aq a1)) dj)))then(k1 [bc 0,bc 0,bc 0,bc 33] [])else(if 0<=ar ba (aq (bt (ax a0) (av (aq a1)) dj))/\ar ba (aq (bt (ax a0) (av (aq a1)) dj))<18 then(bif decide ((↑(au (ax a0)):Int)<ar ba (ar ba (aq a1+1)+aq (bj (bj (dc JY) (av (ar ba (aq (bt (ax a0) (av (aq a1)) dj))))) 1)))then(k1 [bc 0,bc 0,bc 0,bc 9] [])else(if 0<=ar ba (aq a1+1)/\ar ba (aq a1+1)<=ar ba (ar ba (aq a1+1)+aq (bj (bj (dc JY) (av (ar ba (aq (bt (ax a0) (av (aq a1)) dj))))) 1))/\ar ba (ar ba (aq a1+1)+aq (bj (bj (dc JY) (av (ar ba (aq (bt (ax a0) (av (aq a1)) dj))))) 1))<=(↑(au (ax a0)):Int)then(jn (fun J m1=>(k1 [U J 0,U J 2,U J 1,bc 0] [])) (fun k2=>(BR N (Ur N k2) [bc (ar ba (aq (bt (ax a0) (av (aq a1)) dj))),bc (ar ba (ar ba (aq a1+1)+aq (bj (bj (dc JY) (av (ar ba (aq (bt (ax a0) (av (aq a1)) dj))))) 1))),bw (cut (ax a0) (ar ba (aq a1+1)) (ar ba (ar ba (aq a1+1)+aq (bj (bj (dc JY) (av (ar ba (aq (bt (ax a0) (av (aq a1)) dj))))) 1)))),bc (↑(au (cut (ax a0) (ar ba (aq a1+1)) (ar ba (ar ba (aq a1+1)+aq (bj (bj (dc JY) (av (ar ba (aq (bt (ax a0) (av (aq a1)) dj))))) 1))))):Int),bc 0,bc 0] [])))else none))else none))else none)
def RW:=lid "" (@Yt R N)
theorem nE {R N a0 a1 k}:@RW R N a0 a1 k=Yt N a0 a1 k:=by unfold RW;rw[BQ]
def q1Z:OvG R:=Bq [.slice 1 (.int .u8),.int .i64] (FH (RW N)) fun a K J m1=>K (V.tup
 [V.d (bm ba) (U J 0),V.d (bm ay) (U J 1),V.d (bm ba) (U J 2),
  V.d (bm ba) (U J 3)]) []
theorem q10:okX 137 (@q1Z R N):=CV BT N [] [(137,[([1,0,1,1,1,1,1,1],(Cz [4,6] [(5,.d (.int .u64))])),
  ([4,1,0,1,1,1,1,1,1],(Cz [4,6,36,37] [(5,.d (.int .u64)),(38,.d (.int .i64))])),
  ([9],(Ct [(4,.d (.int .i64)),(5,.d (.int .u64)),(6,.d (.int .i64)),(7,.d (.int .i64))]))])] (fun _ _=>nE)
def bH {R:Type} (N:Nat) (a0:C) (k1:KD R):Option R:=bif decide (aq a0=1)then(k1 [bc 8] [])else(jn (fun J m1=>(bif dg (U J 1)then(k1 [bc 1] [])else(jn (fun I m2=>(bif dg (U I 0)then(k1 [bc 2] [])else(k1 [bc 0] []))) (fun k2=>(bif decide (aq (U J 0)=11)then(k2 [HR (de (decide (aq (U J 0)=11))) true] [])else(k2 [de (decide (aq (U J 0)=12))] [])))))) (fun k2=>(bif decide (aq a0=2)then(k2 [a0,HR (de (decide (aq a0=2))) true] [])else(k2 [a0,de (decide (aq a0=16))] []))))
def NP:=lid "" (@bH R N)
theorem sK {R N a0 k}:@NP R N a0 k=bH N a0 k:=by unfold NP;rw[BQ]
def q42:OvG R:=Bq [.int .i64] (EK (NP N)) (DM (bm ba))
theorem sJ:okX 130 (@q42 R N):=CV BT N [] [(130,[([1,0,3,1,4,1,0,1],(Cz [3] [(6,.d .bool)])),
  ([1,0,3,1,3,1,4,1,0,1],(Ct [(9,.d .bool)])),
  ([9],(Ct [(2,.d (.int .i64))]))])] (fun _ _=>sK)
def WC (k2:KD R):KD R->KD R:=fun k3 I m2=>(NP N (U I 2) (fun d3 m3=>(bif decide (aq (U I 4)<aq (U d3 0))then(if 0<=ar ba (ar ba (aq (U I 1)+1)+aq (U I 4))/\ar ba (ar ba (aq (U I 1)+1)+aq (U I 4))<(↑(au (ax (U I 0))):Int)then(k3 [U I 0,U I 1,U I 2,bc (ar ay (ar ay (aq (U I 3)*256)+ar ay (aq (bt (ax (U I 0)) (av (ar ba (ar ba (aq (U I 1)+1)+aq (U I 4)))) dj)))),bc (ar ba (aq (U I 4)+1))] [])else none)else(k2 [U I 2,U I 3] []))))
def cA (a0 a1:C) (k1:KD R):Option R:=bif decide ((↑(au (ax a0)):Int)<=aq a1)then(k1 [bc 0,bc 0,bc 9] [])else(if 0<=aq a1/\aq a1<(↑(au (ax a0)):Int)then(bif decide (17<ar ba (aq (bt (ax a0) (av (aq a1)) dj)))then(k1 [bc 0,bc 0,bc 33] [])else(NP N (bc (ar ba (aq (bt (ax a0) (av (aq a1)) dj)))) (fun J m1=>(bif decide ((↑(au (ax a0)):Int)<ar ba (ar ba (aq a1+1)+aq (U J 0)))then(k1 [bc 0,bc 0,bc 9] [])else(jn (fun I m2=>(k1 [U I 0,U I 1,bc 0] [])) (fun k2=>(BR N (WC N k2) [a0,a1,bc (ar ba (aq (bt (ax a0) (av (aq a1)) dj))),bc 0,bc 0] [])))))))else none)
def Pk:=lid "" (@cA R N)
theorem tX {R N a0 a1 k}:@Pk R N a0 a1 k=cA N a0 a1 k:=by unfold Pk;rw[BQ]
def q5S:OvG R:=Bq [.slice 1 (.int .u8),.int .i64] (FH (Pk N)) fun a K J m1=>K (V.tup [V.d (bm ba) (U J 0),V.d (bm ay) (U J 1),V.d (bm ba) (U J 2)]) []
theorem q5T:okX 129 (@q5S R N):=CV (BJ (sJ N) <| BT) N [] [(129,[([1,0,1,1,1,1,1,1],(Cz [7] [(8,.d (.int .u64))])),
  ([4,1,0,1,1,1,1,1,1],(Cz [0,1,7] [(8,.d (.int .u64)),(9,.d (.int .i64))])),
  ([9],(Ct [(4,.d (.int .i64)),(5,.d (.int .u64)),(6,.d (.int .i64))]))])] (fun _ _=>tX)
section
variable {R:Type} {N:Nat}
theorem Kj {i:Nat} (h:i<4611686018427387904):IntKind.i64.wrap ((i:Int)+1)=((i+1:Nat):Int):=by rw[ik _ (by omega)];omega
theorem jK {b:Int} (h0:0<=b) (h1:b<=255):IntKind.u64.wrap b=b:=by
 have m1:IntKind.u64.min=0:=by decide
 have m2:IntKind.u64.max=18446744073709551615:=by decide
 exact Nr (by omega) (by omega)
theorem AE:(∀{α:Type} {a b:α},cond true a b=a)/\(∀{α:Type} {a b:α},cond false a b=b)/\(∀{h:Decidable True},@decide True h=true)/\(∀{h:Decidable False},@decide False h=false)/\(∀{α:Type} {_:Decidable True} {a b:α},(if True then a else b)=a)/\(∀{α:Type} {_:Decidable False} {a b:α},(if False then a else b)=b)/\(!true)=false/\(!false)=true:=⟨@fun _ _ _=>rfl,@fun _ _ _=>rfl,@fun _=>decide_true _,@fun _=>decide_false _,@fun _ _ _ _=>if_pos trivial,@fun _ _ _ _=>if_neg id,rfl,rfl⟩
theorem q1Y (p:List C) (hw:C.wf (.slice 1 (.int .u8)) (.slice p)) (i:Nat) (hl:p.length<=256) (hi:i<=100000) (hN:20<N) (k:KD R):RW N (.slice p) (.int i) k=
  k [.int (if DH p i=0 then bN p i else 0),.int (if DH p i=0 then FI p (i+1) (Dm (bN p i))else 0),.int (if DH p i=0 then((i+1+Dm (bN p i):Nat):Int)else 0),.int (DH p i)] []:=by
 rw[nE];unfold Yt;simp only[AO,AG];by_cases h1:p.length<=i
 ·have h1':(p.length:Int)<=(i:Int):=by omega
  have e:DH p i=9:=by unfold DH;rw[if_pos h1]
  simp only[h1',e,AE,show ¬(9:Int)=0 by decide]
 have h1':¬(p.length:Int)<=(i:Int):=by omega
 have c1:0<=(i:Int)/\(i:Int)<(p.length:Int):=by omega
 obtain⟨b1,b2,b3⟩:=MT hw (i:=i) (by omega);have w1:IntKind.i64.wrap (bN p i)=bN p i:=ik _ (by omega);simp only[h1',c1,and_self,AE,bb,b1,AG,w1];by_cases h2:18<=bN p i
 ·have e:DH p i=33:=by unfold DH;rw[if_neg h1,if_pos h2]
  simp only[h2,e,AE,show ¬(33:Int)=0 by decide]
 have hm:bj (bj (dc JY) (bN p i).toNat) 1= .int (Dm (bN p i)):=by
  have:=q19 (bN p i).toNat (by omega)
  rwa [Int.toNat_of_nonneg b2]at this
 have m8:=Vp (bN p i);have c2:0<=bN p i/\bN p i<18:=by omega
 simp only[h2,hm,c2,AG,and_self,AE];generalize hmm:Dm (bN p i)=m at hm m8;have w2:IntKind.i64.wrap ((i:Int)+1)=((i+1:Nat):Int):=Kj (by omega);have w3:IntKind.i64.wrap (((i+1:Nat):Int)+(m:Int))=((i+1+m:Nat):Int):=by rw[ik _ (by omega)];omega
 simp only[w2,w3];by_cases h3:p.length<i+1+m
 ·have h3':(p.length:Int)<((i+1+m:Nat):Int):=by omega
  have e:DH p i=9:=by unfold DH;rw[if_neg h1,if_neg h2,hmm,if_pos h3]
  simp only[h3',e,AE,show ¬(9:Int)=0 by decide]
 have h3':¬(p.length:Int)<((i+1+m:Nat):Int):=by omega
 have e:DH p i=0:=by unfold DH;rw[if_neg h1,if_neg h2,hmm,if_neg h3]
 have c3:0<=((i+1:Nat):Int)/\((i+1:Nat):Int)<=((i+1+m:Nat):Int)/\((i+1+m:Nat):Int)<=(p.length:Int):=by omega
 have hql:(cut p ((i+1:Nat):Int) ((i+1+m:Nat):Int)).length=m:=by unfold cut;simp;omega
 have hqe:∀j,j<m->(cut p ((i+1:Nat):Int) ((i+1+m:Nat):Int)).getD j .nil= .int (bN p (i+1+j)):=by intro j hj;rw[<-(MT hw (i:=i+1+j) (by omega)).1];unfold cut;simp[bq,List.getElem?_drop,List.getElem?_take,hj]
 simp only[h3',c3,e,and_self,AE,AR];generalize cut p ((i+1:Nat):Int) ((i+1+m:Nat):Int)=q at hql hqe;rw[hql];refine(Ee (F:=Ur N _) (fun j=>[.int (bN p i),.int ((i+1+m:Nat):Int),.slice q,.int m,.int (FI p (i+1) j),.int j]) (fun _=>[]) m _ (fun j hj rec=>?_) (fun rec=>?_) (N:=N) (by omega)).trans rfl
 ·obtain⟨a1,a2,a3⟩:=Xn hw (i:=i+1) (k:=j) (by omega) (by omega);obtain⟨_,I,d3⟩:=MT hw (i:=i+1+j) (by omega);have e1:(j:Int)<(m:Int):=by omega
  have e2:0<=(j:Int)/\(j:Int)<(q.length:Int):=by omega
  have e3:((2:Int)^min (av 8) 64)=256:=by decide
  have e4:IntKind.u64.wrap (FI p (i+1) j*256)=FI p (i+1) j*256:=by
   have:=a3 (by omega);have m1:IntKind.u64.min=0:=by decide
   have m2:IntKind.u64.max=18446744073709551615:=by decide
   exact Nr (by omega) (by omega)
  unfold Ur;simp only[AF,AH,AJ,AL,AQ,Aa,AG,AO,e1,e2,AE,and_self,bb,hqe j hj,e3,e4,jK I d3,q5R a1 (a3 (by omega)) I d3,Kj (show j<4611686018427387904 by omega)]
  all_goals rfl
 ·unfold Ur;simp only[AF,AH,AJ,AL,AQ,Aa,AG,eg,AE]
  all_goals rfl
theorem Vo (o:C) (k:KD R):NP N o k=k [.int (Dm o.toInt)] []:=by rw[sK];unfold bH Dm;by_cases h1:o.toInt=1;{simp[h1]};by_cases h2:o.toInt=2;{simp[h2,AR,U,HR,dg]};by_cases h3:o.toInt=16;{simp[h3,AR,U,HR,dg]};by_cases h4:o.toInt=11;{simp[h4,AR,U,HR,dg]};by_cases h5:o.toInt=12 <;> simp[h1,h2,h3,h4,h5,AR,U,HR,dg]
theorem tW (p:List C) (hw:C.wf (.slice 1 (.int .u8)) (.slice p)) (i:Nat) (hl:p.length<=256) (hi:i<=100000) (hN:20<N) (k:KD R):Pk N (.slice p) (.int i) k=
  k [.int (if DH p i=0 then bN p i else 0),.int (if DH p i=0 then FI p (i+1) (Dm (bN p i))else 0),.int (DH p i)] []:=by
 rw[tX];unfold cA;simp only[AO,AG];by_cases h1:p.length<=i
 ·have h1':(p.length:Int)<=(i:Int):=by omega
  have e:DH p i=9:=by unfold DH;rw[if_pos h1]
  simp only[h1',e,AE,show ¬(9:Int)=0 by decide]
 have h1':¬(p.length:Int)<=(i:Int):=by omega
 have c1:0<=(i:Int)/\(i:Int)<(p.length:Int):=by omega
 obtain⟨b1,b2,b3⟩:=MT hw (i:=i) (by omega);have w1:IntKind.i64.wrap (bN p i)=bN p i:=ik _ (by omega);simp only[h1',c1,and_self,AE,bb,b1,AG,w1];by_cases h2:18<=bN p i
 ·have e:DH p i=33:=by unfold DH;rw[if_neg h1,if_pos h2]
  have h2':17<bN p i:=by omega
  simp only[h2',e,AE,show ¬(33:Int)=0 by decide]
 have h2':¬17<bN p i:=by omega
 have m8:=Vp (bN p i);obtain⟨m,hmm⟩:∃m,Dm (bN p i)=m:=⟨_,rfl⟩;rw[hmm]at m8;simp only[h2',AE,Vo,AF,AG,hmm];have w2:IntKind.i64.wrap ((i:Int)+1)=((i+1:Nat):Int):=Kj (by omega);have w3:IntKind.i64.wrap (((i+1:Nat):Int)+(m:Int))=((i+1+m:Nat):Int):=by rw[ik _ (by omega)];omega
 simp only[w2,w3];by_cases h3:p.length<i+1+m
 ·have h3':(p.length:Int)<((i+1+m:Nat):Int):=by omega
  have e:DH p i=9:=by unfold DH;rw[if_neg h1,if_neg h2,hmm,if_pos h3]
  simp only[h3',e,AE,show ¬(9:Int)=0 by decide]
 have h3':¬(p.length:Int)<((i+1+m:Nat):Int):=by omega
 have e:DH p i=0:=by unfold DH;rw[if_neg h1,if_neg h2,hmm,if_neg h3]
 simp only[h3',e,AE,AR];refine(Ee (F:=WC N _) (fun j=>[.slice p,.int i,.int (bN p i),.int (FI p (i+1) j),.int j]) (fun _=>[]) m _ (fun j hj rec=>?_) (fun rec=>?_) (N:=N) (by omega)).trans rfl
 ·obtain⟨a1,a2,a3⟩:=Xn hw (i:=i+1) (k:=j) (by omega) (by omega);obtain⟨J,I,d3⟩:=MT hw (i:=i+1+j) (by omega);have a4:=a3 (by omega);have m1:IntKind.u64.min=0:=by decide
  have m2:IntKind.u64.max=18446744073709551615:=by decide
  have e1:(j:Int)<(m:Int):=by omega
  have w4:IntKind.i64.wrap (((i+1:Nat):Int)+(j:Int))=((i+1+j:Nat):Int):=by rw[ik _ (by omega)];omega
  have e2:0<=((i+1+j:Nat):Int)/\((i+1+j:Nat):Int)<(p.length:Int):=by omega
  have e4:IntKind.u64.wrap (FI p (i+1) j*256)=FI p (i+1) j*256:=Nr (by omega) (by omega);have e5:IntKind.u64.wrap (FI p (i+1) j*256+bN p (i+1+j))=FI p (i+1) j*256+bN p (i+1+j):=Nr (by omega) (by omega);unfold WC;simp only[AF,AH,AJ,AL,AQ,AG,AO,Vo,hmm,w2,w4,e1,e2,AE,and_self,bb,J,e4,jK I d3,e5,Kj (show j<4611686018427387904 by omega)]
  all_goals rfl
 ·unfold WC;simp only[AF,AH,AJ,AL,AQ,AG,Vo,hmm,eg,AE]
  all_goals rfl
end
def gA {R:Type} (c:C) (x:Option R):Option R:=if au (ax c)=au (ax c)then x else none
def gM {R:Type} (t:Ty) (m:Es) (x:Option R):Option R:=if HL t (dE t m)=true then x else none
def nI (c:C):C:=bc (↑(av (aq c)):Int)
def gB {R:Type} (a b:Int) (x:Option R):Option R:=if 0<=a/\a<b then x else none
def gN {R:Type} (n:Nat) (x:Option R):Option R:=bif df n n then x else none
def gL {R:Type} (n k:Nat) (x:Option R):Option R:=if(n+1)*k<=140737488355328/\n+1<=9223372036854775807 then x else none
theorem AB:(∀{R:Type} {c:C} {x:Option R},gA c x=x)/\(∀{R:Type} {t:Ty} {m:Es} {x:Option R},gM t m x=x)/\(∀{c:C},nI c=bc (↑(av (aq c)):Int))/\(∀{R:Type} {a b:Int} {x:Option R},gB a b x=if 0<=a/\a<b then x else none)/\(∀{R:Type} {n k:Nat} {x:Option R},gL n k x=if(n+1)*k<=140737488355328/\n+1<=9223372036854775807 then x else none)/\(∀{R:Type} {n:Nat} {x:Option R},gN n x=x):=⟨fun{_ _ _}=>if_pos rfl,fun{_ t m _}=>if_pos (Ae t m),fun{_}=>rfl,fun{_ _ _ _}=>rfl,fun{_ _ _ _}=>rfl,fun{_ n _}=>by unfold gN;rw[bh];rfl⟩
def Xz {R:Type} (N:Nat) (k1:KD R) (k2:KD R):KD R->KD R:=fun k3 I m2=>(bif decide (aq (U I 2)<aq (U I 1))then(if 0<=aq (U I 2)/\aq (U I 2)<(↑(au (ax (U I 0))):Int)then(bif EJ dq (dE dq (dm m2 0))then(bif Iv (dE dq (dm m2 0)) (bt (ax (U I 0)) (av (aq (U I 2))) dj)then(bif !dg (LN (dE dq (dm m2 0)) (bt (ax (U I 0)) (av (aq (U I 2))) dj))then(k1 [bc 10] [])else(gM dq (dm m2 0) (k3 [U I 0,U I 1,bc (ar ba (aq (U I 2)+1))] [unE (dE dq (dm m2 0))])))else(k1 [bc 10] []))else none)else none)else(k2 [] []))
def YA (k1:KD R) (k2:KD R):KD R->KD R:=fun k3 J m1=>(bif decide (aq (U J 2)<(↑(au (ax (U J 0))):Int))then(RW N (U J 0) (U J 2) (fun I m2=>(bif !decide (aq (U I 3)=0)then(k1 [U I 3] [])else(jn (fun d3 m3=>(jn (fun d4 m4=>(bif df (au (ax (U d4 2))) (au (ax (U d4 2)))then(gM dq (dm m4 0) (k3 [U d4 0,bw (ax (U d4 2)),U d4 1] [unE (dE dq (dm m4 0))]))else none)) (fun k4=>(bif dg (U d3 4)then(bif df (au (ax (U d3 3))) (au (ax (U d3 3)))then(if(au (ax (U d3 3))+1)*8<=140737488355328/\au (ax (U d3 3))+1<=9223372036854775807 then(bif df (au (ax (U d3 3))+1) (au (ax (U d3 3)++[U d3 1]))then(gM dq (dm m3 0) (k4 [U d3 0,U d3 2,bw (ax (U d3 3)++[U d3 1])] [unE (dE dq (dm m3 0))]))else none)else none)else none)else(bif df (au (ax (U d3 3))) (au (ax (U d3 3)))then(gM dq (dm m3 0) (k4 [U d3 0,U d3 2,bw (ax (U d3 3))] [unE (dE dq (dm m3 0))]))else none))))) (fun k4=>(bif decide (aq (U I 0)=11)then(bif df (au (ax (U J 1))) (au (ax (U J 1)))then(if HL dq (Ge (dE dq (dm m1 0)) (bc (ar ay (aq (U J 2)))) (V.d dq (de true)))=true then(k4 [U J 0,U I 1,U I 2,bw (ax (U J 1)),de true] [unE (Ge (dE dq (dm m1 0)) (bc (ar ay (aq (U J 2)))) (V.d dq (de true)))])else none)else none)else(bif df (au (ax (U J 1))) (au (ax (U J 1)))then(if HL dq (Ge (dE dq (dm m1 0)) (bc (ar ay (aq (U J 2)))) (V.d dq (de true)))=true then(k4 [U J 0,U I 1,U I 2,bw (ax (U J 1)),de (decide (aq (U I 0)=12))] [unE (Ge (dE dq (dm m1 0)) (bc (ar ay (aq (U J 2)))) (V.d dq (de true)))])else none)else none)))))))else(bif df (au (ax (U J 1))) (au (ax (U J 1)))then(gM dq (dm m1 0) (k2 [bw (ax (U J 1))] [unE (dE dq (dm m1 0))]))else none))
def YB (a0:C) (k1:KD R):Option R:=bif decide (256<(↑(au (ax a0)):Int))then(k1 [bc 1] [])else(jn (fun J m1=>(jn (fun I m2=>(k1 [bc 0] [])) (fun k2=>(gM dq (dm m1 0) (BR N (Xz N k1 k2) [bw (ax (U J 0)),bc (↑(au (ax (U J 0))):Int),bc 0] [unE (dE dq (dm m1 0))]))))) (fun k2=>(BR N (YA N k1 k2) [a0,bw [],bc 0] [unE []])))
def UI:=lid "" (@YB R N)
theorem jU {R N a0 k}:@UI R N a0 k=YB N a0 k:=by unfold UI;rw[BQ]
def Xy:OvG R:=Bq [.slice 1 (.int .u8)] (EK (UI N)) (DM (bm ba))
theorem X6:okX 120 (@Xy R N):=CV (BJ (q10 N) <| BT) N [] [(120,[([1,0,1,1,1,1],(Cz [3] [(4,.sl 8 (.int .u64) 5004)])),
  ([4,1,0,1,1,1,1],(Cz [0,3] [(4,.sl 8 (.int .u64) 5004),(5,.d (.int .i64))])),
  ([0,0,1,1,1,4,1,5,4,1,0,1,1,1,1],(Cz [0,3,7,8] [(4,.sl 8 (.int .u64) 5004),(39,.d .bool)])),
  ([1,0,1,1,1,4,1,5,4,1,0,1,1,1,1],(Cz [0,3,8] [(4,.sl 8 (.int .u64) 5004)])),
  ([1,0,1,1,1,1,1],(Ct [])),
  ([4,1,0,1,1,1,1,1],(Cz [3,45,46] [(47,.d (.int .i64))])),
  ([9],(Ct [(2,.d (.int .i64))]))])] (fun _ _=>jU)
def Si (a0:C) (k1:KD R) (k2:KD R):KD R->KD R:=fun k3 I m2=>(bif decide (aq (U I 4)<(↑(au (ax (U I 0))):Int))then(jn (fun d3 m3=>(if ca (av (↑(au (ax a0)):Int)) dq=ca (av (↑(au (ax a0)):Int)) dq then(k3 [U d3 0,nI (U d3 1),nI (U d3 2),nI (U d3 3),bc (ar ba (aq (U d3 4)+1)),U d3 5] [])else none)) (fun k4=>(jn (fun d3 m3=>(bif dg (U d3 5)then(if ca (av (↑(au (ax a0)):Int)) dq=ca (av (↑(au (ax a0)):Int)) dq then(k4 [U d3 0,nI (U d3 1),nI (U d3 2),nI (U d3 3),U d3 4,U d3 6] [])else none)else(Pk N (U d3 0) (U d3 4) (fun d4 m4=>(jn (fun d5 m5=>(bif dg (U d5 5)then(k1 [bc 10] [])else(if ca (av (↑(au (ax a0)):Int)) dq=ca (av (↑(au (ax a0)):Int)) dq then(k4 [U d5 0,nI (U d5 1),nI (U d5 2),nI (U d5 3),U d5 4,U d5 6] [])else none))) (fun k5=>(bif decide (ar ay (↑(au (ax (U d3 0))):Int)<=aq (U d4 1))then(if ca (av (↑(au (ax a0)):Int)) dq=ca (av (↑(au (ax a0)):Int)) dq then(k5 [U d3 0,nI (U d3 1),nI (U d3 2),nI (U d3 3),U d3 4,de true,U d3 6] [])else none)else(if 0<=aq (U d4 1)/\aq (U d4 1)<(↑(av (aq (U d3 2))):Int)then(if ca (av (↑(au (ax a0)):Int)) dq=ca (av (↑(au (ax a0)):Int)) dq then(k5 [U d3 0,nI (U d3 1),nI (U d3 2),nI (U d3 3),U d3 4,de !dg (bj (U d3 6) (av (aq (U d3 1))+av (aq (U d4 1)))),U d3 6] [])else none)else none)))))))) (fun k5=>(if 0<=aq (U I 4)/\aq (U I 4)<(↑(av (aq (U I 2))):Int)then(bif !dg (bj (U I 5) (av (aq (U I 1))+av (aq (U I 4))))then(if ca (av (↑(au (ax a0)):Int)) dq=ca (av (↑(au (ax a0)):Int)) dq then(k5 [U I 0,nI (U I 1),nI (U I 2),nI (U I 3),U I 4,de true,U I 5] [])else none)else(if 0<=aq (U I 4)/\aq (U I 4)<(↑(au (ax (U I 0))):Int)then(bif !decide (aq (bt (ax (U I 0)) (av (aq (U I 4))) dj)=11)then(if 0<=aq (U I 4)/\aq (U I 4)<(↑(au (ax (U I 0))):Int)then(if ca (av (↑(au (ax a0)):Int)) dq=ca (av (↑(au (ax a0)):Int)) dq then(k5 [U I 0,nI (U I 1),nI (U I 2),nI (U I 3),U I 4,de !decide (aq (bt (ax (U I 0)) (av (aq (U I 4))) dj)=12),U I 5] [])else none)else none)else(if ca (av (↑(au (ax a0)):Int)) dq=ca (av (↑(au (ax a0)):Int)) dq then(k5 [U I 0,nI (U I 1),nI (U I 2),nI (U I 3),U I 4,de false,U I 5] [])else none))else none))else none)))))else(k2 [] []))
def cM (a0:C) (k1:KD R) (k2:KD R):KD R->KD R:=fun k3 J m1=>(bif decide (aq (U J 4)<(↑(au (ax (U J 0))):Int))then(Pk N (U J 0) (U J 4) (fun I m2=>(bif !decide (aq (U I 2)=0)then(k1 [U I 2] [])else(if 0<=aq (U J 4)/\aq (U J 4)<(↑(av (aq (U J 2))):Int)then(NP N (U I 0) (fun d3 m3=>(if ca (av (↑(au (ax a0)):Int)) dq=ca (av (↑(au (ax a0)):Int)) dq then(k3 [U J 0,nI (U J 1),nI (U J 2),nI (U J 3),bc (ar ba (ar ba (aq (U J 4)+1)+aq (U d3 0))),cn (U J 5) (av (aq (U J 1))+av (aq (U J 4))) (de true)] [])else none)))else none))))else(if ca (av (↑(au (ax a0)):Int)) dq=ca (av (↑(au (ax a0)):Int)) dq then(k2 [U J 0,nI (U J 1),nI (U J 2),nI (U J 3),U J 5] [])else none))
def cN (a0:C) (k1:KD R):Option R:=bif decide (256<(↑(au (ax a0)):Int))then(k1 [bc 1] [])else(if 0<=(↑(au (ax a0)):Int)/\(↑(au (ax a0)):Int)<=(↑(au (ax a0)):Int)/\(↑(au (ax a0)):Int)<=9223372036854775807/\av (↑(au (ax a0)):Int)*1<=140737488355328 then(jn (fun J m1=>(jn (fun I m2=>(k1 [bc 0] [])) (fun k2=>(if ca (av (↑(au (ax a0)):Int)) dq=ca (av (↑(au (ax a0)):Int)) dq then(BR N (Si N a0 k1 k2) [U J 0,nI (U J 1),nI (U J 2),nI (U J 3),bc 0,U J 4] [])else none)))) (fun k2=>(if ca (av (↑(au (ax a0)):Int)) dq=ca (av (↑(au (ax a0)):Int)) dq then(BR N (cM N a0 k1 k2) [a0,bc 0,bc (↑(av (↑(au (ax a0)):Int)):Int),bc (↑(av (↑(au (ax a0)):Int)):Int),bc 0,dc (bp (av (↑(au (ax a0)):Int)) (AI dq))] [])else none)))else none)
def WN:=lid "" (@cN R N)
theorem vJ {R N a0 k}:@WN R N a0 k=cN N a0 k:=by unfold WN;rw[BQ]
def cL:OvG R:=Bq [.slice 1 (.int .u8)] (EK (WN N)) (DM (bm ba))
theorem q6y:okX 113 (@cL R N):=CV (BJ (q5T N) <| BJ (sJ N) <| BT) N [] [(113,[([0,1,1,1,1],(Cz [0,3] [])),
  ([4,0,1,1,1,1],(Cz [0,3] [(4,.d (.int .i64))])),
  ([1,0,1,1,1,1,1],(Ct [])),
  ([4,1,0,1,1,1,1,1],(Cz [0,3] [(8,.d (.int .i64))])),
  ([0,1,5,4,1,0,1,1,1,1,1],(Cz [0,3,8] [])),
  ([0,0,4,0,1,5,4,1,0,1,1,1,1,1],(Cz [0,3,8] [(64,.d .bool)])),
  ([0,1,1,4,0,1,5,4,1,0,1,1,1,1,1],(Cz [0,3,8] [(83,.d .bool)])),
  ([9],(Ct [(2,.d (.int .i64))]))])] (fun _ _=>vJ)
section
variable {R:Type} {N:Nat}
def bE (j:Nat):C × C:=(.int j,.bool true)
theorem jB (x:C) (j:Nat):C.beq x (.int j)=decide (x= .int (j:Int)):=by rw[Bool.eq_iff_iff,C.beq_iff,decide_eq_true_eq]
theorem ZS (c:C):∀bs:List Nat,Ff (bs.map bE) c=(GC bs c).toBool
 | []=>rfl|j::bs=>by have ih:=ZS c bs;simp only[GC,dg]at ih;simp only[dt,bE,Ff,GC,dg,List.any_cons,jB];rw[ih];cases decide (c= .int (j:Int)) <;> rfl
theorem oG (c:C):∀bs:List Nat,Ff (bs.map bE) c=true->getM (bs.map bE) c= .bool true
 | [],h=>by cases h
 |j::bs,h=>by have ih:=oG c bs;simp only[dt,bE,Ff,getM]at ih h ⊢;cases hb:C.beq c (.int j);{rw[hb]at h;simp only[cond_false]at h ⊢;exact ih h};{rfl}
theorem WM (i:Nat):∀bs:List Nat,i∉bs->Ge (dE dq (bs.map bE)) (.int i) (V.d dq (.bool true))=dE dq ((bs++[i]).map bE)
 | [],_=>rfl|j::bs,h=>by
  have ih:=WM i bs fun x=>h (List.mem_cons_of_mem _ x);have e:C.beq (.int (i:Int)) (.int (j:Int))=false:=by rw[jB,decide_eq_false_iff_not];intro x;injection x with x;exact h (by rw[show i=j by omega];exact List.mem_cons_self)
  simp only[dE,dt,List.map_append,bE,Ge,List.cons_append]at ih ⊢;rw[e];simp only[fq,if_false];rw[ih]
theorem QZ {i:Nat} (h:i<=100000):IntKind.u64.wrap (i:Int)=i:=by
 have m1:IntKind.u64.min=0:=by decide
 have m2:IntKind.u64.max=18446744073709551615:=by decide
 exact Nr (by omega) (by omega)
theorem Og (m:Es):dm [m] 0=m:=rfl
theorem jW {p:List C} (h0:¬256<p.length) {bs:List Nat} (h:(0,bs)=FO p p.length 0 []):Dj p=if(GH p bs).all (fun c=>(GC bs c).toBool)then 0 else 10:=by unfold Dj;rw[if_neg h0,<-h,if_neg (by simp)]
theorem jV {p:List C} (h0:¬256<p.length) {bs:List Nat} {e:Int} (he:e≠0) (h:FO p p.length 0 []=(e,bs)):Dj p=e:=by unfold Dj;rw[if_neg h0,h,if_pos he]
theorem X5 (p:List C) (hw:C.wf (.slice 1 (.int .u8)) (.slice p)) (hN:1000<N) (k:KD R):UI N (.slice p) k=k [.int (Dj p)] []:=by
 rw[jU];unfold YB;simp only[AO];by_cases h0:256<p.length
 ·have h0':(256:Int)<(p.length:Int):=by omega
  have e:Dj p=1:=by unfold Dj;rw[if_pos h0]
  simp only[h0',e,AE]
 have h0':¬(256:Int)<(p.length:Int):=by omega
 simp only[h0',AE,AR,AB]
 refine NH (F:=YA N k _) (fun x:Nat × List Nat=>[.slice p,.slice (GH p x.2),.int x.1]) (fun x=>[x.2.map bE]) (fun x=>p.length-x.1)
  (fun x=>x.1<=p.length/\x.2.length<=x.1/\(∀j∈x.2,j<x.1)/\FO p (p.length-x.1) x.1 x.2=FO p p.length 0 []) (fun _=>k [.int (Dj p)] []) ?_ N (0,[]) ⟨dr _,bx _,(fun _ h=>nomatch h),rfl⟩ (by show p.length-0<N;omega)
 rintro⟨i,bs⟩ ⟨hi,hb,hj,hS⟩ rec z8g;dsimp only at hi hb hj hS z8g;have hln:=q3T p bs;unfold YA;by_cases hlt:i<p.length
 ·have z8j:(i:Int)<(p.length:Int):=by omega
  obtain⟨s1,s2⟩:=yD hlt hS;simp only[AF,AH,AJ,AL,AG,AO,z8j,AE,q1Y p hw i (show p.length<=256 by omega) (show i<=100000 by omega) (show 20<N by omega),AB];by_cases he:DH p i=0
  ·obtain⟨q1,q2⟩:=s2 he;have hbi:i∉bs:=fun x=>Nat.lt_irrefl _ (hj _ x)
   have hr:=z8g (i+1+Dm (bN p i),bs++[i]) ⟨q1,by show(bs++[i]).length<=i+1+Dm (bN p i);simp;omega,fun j h=>by
    show j<i+1+Dm (bN p i);rcases eh.1 h with h|h;{have:=hj _ h;omega}
    ·rw[fj.1 h];omega,q2⟩ (by show p.length-(i+1+Dm (bN p i))<p.length-i;omega)
   have g1:((GH p bs).length+1)*8<=140737488355328/\(GH p bs).length+1<=9223372036854775807:=by omega
   rw[q3U]at hr;by_cases l1:bN p i=11;{rw[if_pos (by simp[Hm,l1])]at hr;simp only[he,AR,l1,Og,QZ (show i<=100000 by omega),WM i bs hbi,Ae,Af,bh,AX,AG,AO,AF,AH,AJ,AL,AQ,AE,g1,and_self,br,cg,cr,bf,AB];rw[<-hr,l1];unfold toN;rw[l1]};{by_cases l2:bN p i=12;{rw[if_pos (by simp[Hm,l2])]at hr;simp only[he,AR,l2,show ¬(12:Int)=11 by decide,Og,QZ (show i<=100000 by omega),WM i bs hbi,Ae,Af,bh,AX,AG,AO,AF,AH,AJ,AL,AQ,AE,g1,and_self,br,cg,cr,bf,AB];rw[<-hr,l2];unfold toN;rw[l2]};{rw[if_neg (by simp[Hm,l1,l2])]at hr;simp only[he,AR,l1,l2,Og,QZ (show i<=100000 by omega),WM i bs hbi,Ae,Af,bh,AX,AG,AO,AF,AH,AJ,AL,AQ,AE,hr,AB]}}
  ·rw[jV h0 he (s1 he)];simp only[he,AE]
 ·have z8j:¬(i:Int)<(p.length:Int):=by omega
  obtain rfl:i=p.length:=by omega
  rw[yC (bx _)]at hS;simp only[AF,AH,AJ,AG,AO,z8j,AE,bh,Og,Ae,Af,AB];rw[jW h0 hS];generalize hL:GH p bs=L at hln
  refine NH (F:=Xz N k _) (fun j:Nat=>[.slice L,.int L.length,.int j]) (fun _=>[bs.map bE]) (fun j=>L.length-j) (fun j=>j<=L.length/\∀c∈L.take j,(GC bs c).toBool=true)
   (fun _=>k [.int (if L.all (fun c=>(GC bs c).toBool)then 0 else 10)] []) ?_ N 0 ⟨dr _,fun _ h=>by simp at h⟩ (by show L.length-0<N;omega)
  rintro j ⟨hj1,yq⟩ z8E z83;unfold Xz;by_cases hjl:j<L.length
  ·have e1:(j:Int)<(L.length:Int):=by omega
   have e2:0<=(j:Int)/\(j:Int)<(L.length:Int):=by omega
   have z9m:L.getD j .nil∈L:=by rw[bq,bo hjl];exact wa hjl
   by_cases hin:(GC bs (L.getD j .nil)).toBool=true
   ·have hh:Ff (bs.map bE) (L.getD j .nil)=true:=(ZS _ _).trans hin
    have:=z83 (j+1) ⟨hjl,fun c hc=>by
     rw[List.take_add_one,eh]at hc;rcases hc with hc|hc;{exact yq c hc}
     ·rw[bo hjl]at hc;simp only[Option.toList_some,fj]at hc;subst hc;rw[bq,bo hjl]at hin;exact hin⟩ (by omega)
    simp only[AF,AH,AJ,AG,AO,e1,e2,AE,and_self,Og,BM,PJ,oD,bb,hh,oG _ _ hh,AX,Ae,Af,Kj (show j<4611686018427387904 by omega),this,AB]
   ·have hh:Ff (bs.map bE) (L.getD j .nil)=false:=(ZS _ _).trans (by simpa using hin);have er:L.all (fun c=>(GC bs c).toBool)=false:=by cases h:L.all (fun c=>(GC bs c).toBool);{rfl};{exact absurd (dv.1 h _ z9m) hin}
    simp only[AF,AH,AJ,AG,AO,e1,e2,AE,and_self,Og,BM,PJ,bb,hh,er,fq,AB]
  ·have e1:¬(j:Int)<(L.length:Int):=by omega
   rw[List.take_of_length_le (by omega)]at yq;have er:L.all (fun c=>(GC bs c).toBool)=true:=by rw[dv];exact yq
   simp only[AH,AJ,AG,e1,AE,er,AB]
end
section
variable {R:Type} {N:Nat}
def Gv (bs:List Nat) (n:Nat):List C:=(List.range n).map fun j=>.bool (decide (j∈bs))
theorem q15 {bs:List Nat} {n i:Nat} (h:i<n):(Gv bs n).getD i .nil= .bool (decide (i∈bs)):=by simp[Gv,bq,h]
theorem q17 (bs:List Nat) (n i:Nat):(Gv bs n).set i (.bool true)=Gv (bs++[i]) n:=by
 apply List.ext_getElem?;intro j;simp only[Gv,List.getElem?_set,fg,List.length_range,List.getElem?_map];by_cases hj:j<n;{rw[List.getElem?_range hj];by_cases e:i=j;{subst e;simp[hj]};{have e':¬j=i:=fun h=>e h.symm;simp[e,e']}}
 ·have h1:(List.range n)[j]? =none:=by simp;omega
  rw[h1];split;{rename_i e;subst e;rw[if_neg hj];rfl};{rfl}
theorem q16 (n:Nat):Gv [] n=bp n (.bool false):=by simp[Gv,List.map_const']
theorem iY (bs:List Nat) (x:Int):(GC bs (.int x)).toBool=true↔∃j∈bs,x=(j:Int):=by simp[GC,dg]
theorem iI (p:List C) (bs:List Nat):(GH p bs).all (fun c=>(GC bs c).toBool)=true↔∀j∈bs,Hm p j=true->∃j'∈bs,toN p j=(j':Int):=by rw[dv];unfold GH;constructor;{intro h j hj hl;exact(iY _ _).1 (h _ (lu.2 ⟨j,mj.2 ⟨hj,hl⟩,rfl⟩))};{intro h c hc;obtain⟨j,hj,rfl⟩:=lu.1 hc;obtain⟨a,b⟩:=mj.1 hj;exact(iY _ _).2 (h j a b)}
theorem q6x (p:List C) (hw:C.wf (.slice 1 (.int .u8)) (.slice p)) (hN:1000<N) (k:KD R):WN N (.slice p) k=k [.int (Dj p)] []:=by
 have hz:((0:Nat):Int)=0:=rfl;have t0:av 0=0:=rfl;rw[vJ];unfold cN;simp only[AO];by_cases h0:256<p.length
 ·have h0':(256:Int)<(p.length:Int):=by omega
  have e:Dj p=1:=by unfold Dj;rw[if_pos h0]
  simp only[h0',e,AE]
 have h0':¬(256:Int)<(p.length:Int):=by omega
 have g0:0<=(p.length:Int)/\(p.length:Int)<=(p.length:Int)/\(p.length:Int)<=9223372036854775807/\av (p.length:Int)*1<=140737488355328:=by omega
 have g2:p.length*1<=140737488355328:=by omega
 simp only[h0',AE,g0,g2,and_self,eq_self,AR,bb,AB];rw[show AI dq= .bool false from rfl,<-q16]
 refine NH (F:=cM N (.slice p) k _) (fun x:Nat × List Nat=>[.slice p,.int 0,.int p.length,.int p.length,.int x.1,.agg (Gv x.2 p.length)]) (fun _=>[]) (fun x=>p.length-x.1)
  (fun x=>x.1<=p.length/\(∀j∈x.2,j<x.1/\DH p j=0)/\FO p (p.length-x.1) x.1 x.2=FO p p.length 0 []) (fun _=>k [.int (Dj p)] []) ?_ N (0,[]) ⟨dr _,(fun _ h=>nomatch h),rfl⟩ (by show p.length-0<N;omega)
 rintro⟨i,bs⟩ ⟨hi,hj,hS⟩ rec z8g;dsimp only at hi hj hS z8g;unfold cM;by_cases hlt:i<p.length
 ·have z8j:(i:Int)<(p.length:Int):=by omega
  obtain⟨s1,s2⟩:=yD hlt hS;simp only[AF,AH,AJ,AL,AQ,Aa,AG,AO,z8j,AE,tW p hw i (show p.length<=256 by omega) (show i<=100000 by omega) (show 20<N by omega),AB];by_cases he:DH p i=0
  ·obtain⟨q1,q2⟩:=s2 he
   have hr:=z8g (i+1+Dm (bN p i),bs++[i]) ⟨q1,(fun j h=>by
    show j<i+1+Dm (bN p i)/\DH p j=0;rcases eh.1 h with h|h;{have:=hj _ h;exact⟨by omega,this.2⟩}
    ·rw[fj.1 h];exact⟨by omega,he⟩),q2⟩ (by show p.length-(i+1+Dm (bN p i))<p.length-i;omega)
   have m8:=Vp (bN p i);have w3:IntKind.i64.wrap (((i+1:Nat):Int)+(Dm (bN p i):Int))=((i+1+Dm (bN p i):Nat):Int):=by rw[ik _ (by omega)];omega
   have g1:0<=(i:Int)/\(i:Int)<(p.length:Int):=by omega
   have zi:cn (dc (Gv bs p.length)) i (de true)=dc (Gv (bs++[i]) p.length):=congrArg dc (q17 bs p.length i);simp only[he,AE,bb,g1,and_self,eq_self,Vo,AF,AG,t0,hz,bf,Kj (show i<4611686018427387904 by omega),w3,zi,hr,AB]
  ·rw[jV h0 he (s1 he)];simp only[he,AE]
 ·have z8j:¬(i:Int)<(p.length:Int):=by omega
  obtain rfl:i=p.length:=by omega
  rw[yC (bx _)]at hS;simp only[AF,AH,AJ,AL,AQ,Aa,AG,AO,z8j,AE,eq_self,bb,t0,hz,AB];rw[jW h0 hS]
  refine NH (F:=Si N (.slice p) k _) (fun i:Nat=>[.slice p,.int 0,.int p.length,.int p.length,.int i,.agg (Gv bs p.length)]) (fun _=>[]) (fun i=>p.length-i)
   (fun i=>i<=p.length/\∀j∈bs,j<i->Hm p j=true->∃j'∈bs,toN p j=(j':Int)) (fun _=>k [.int (if(GH p bs).all (fun c=>(GC bs c).toBool)then 0 else 10)] []) ?_ N 0 ⟨dr _,fun _ _ h=>by omega⟩ (by show p.length-0<N;omega)
  rintro i ⟨hi1,yq⟩ z8E z83;unfold Si;by_cases hil:i<p.length
  case neg=>
   have e1:¬(i:Int)<(p.length:Int):=by omega
   rw[if_pos ((iI p bs).2 fun j hb hl=>yq j hb (by have:=(hj j hb).1;omega) hl)];simp only[AF,AQ,AG,AO,e1,AE,AB]
  have e1:(i:Int)<(p.length:Int):=by omega
  have g1:0<=(i:Int)/\(i:Int)<(p.length:Int):=by omega
  have hg:∀j,j<p.length->bj (dc (Gv bs p.length)) j= .bool (decide (j∈bs)):=fun j h=>q15 h
  have next:(i∈bs->Hm p i=true->∃j'∈bs,toN p i=(j':Int))->z8E [.slice p,.int 0,.int p.length,.int p.length,.int ((i+1:Nat):Int),.agg (Gv bs p.length)] []=k [.int (if(GH p bs).all (fun c=>(GC bs c).toBool)then 0 else 10)] []:=fun h=>
   z83 (i+1) ⟨hil,fun j hb hji hl=>by
    by_cases e:j=i;{subst e;exact h hb hl}
    ·exact yq j hb (by omega) hl⟩ (by omega)
  by_cases hin:i∈bs
  case neg=>
   have:=next fun h=>absurd h hin
   simp only[AR,AF,AH,AJ,AL,AQ,Aa,Ac,AG,AO,AX,e1,g1,AE,and_self,bb,t0,hz,bf,hg i hil,hin,eq_self,Kj (show i<4611686018427387904 by omega),this,AB]
  obtain⟨b1,b2,b3⟩:=MT hw hil;by_cases hl:Hm p i=true
  case neg=>
   have l1:¬bN p i=11:=fun h=>hl (by simp[Hm,h]);have l2:¬bN p i=12:=fun h=>hl (by simp[Hm,h]);have:=next fun _ h=>absurd h hl
   simp only[AR,AF,AH,AJ,AL,AQ,Aa,Ac,AG,AO,AX,e1,g1,AE,and_self,bb,t0,hz,bf,hg i hil,hin,b1,l1,l2,eq_self,Kj (show i<4611686018427387904 by omega),this,AB]
  have he:=(hj i hin).2;have ht:0<=toN p i:=by
   unfold toN;have e:=he;unfold DH at e;have:i+1+Dm (bN p i)<=p.length:=by split at e;{simp at e};{split at e;{simp at e};{split at e;{simp at e};{omega}}}
   exact(Xn hw this (Vp _)).1
  have key:Si N (.slice p) k (fun _ _=>k [.int 0] []) z8E [.slice p,.int 0,.int p.length,.int p.length,.int i,.agg (Gv bs p.length)] []=
    if toN p i<p.length/\(toN p i).toNat∈bs then z8E [.slice p,.int 0,.int p.length,.int p.length,.int ((i+1:Nat):Int),.agg (Gv bs p.length)] []else k [.int 10] []:=by
   unfold Si;have ho:=fun k:KD R=>tW p hw i (show p.length<=256 by omega) (show i<=100000 by omega) (show 20<N by omega) k;simp only[he,if_true,AB]at ho;rw[show FI p (i+1) (Dm (bN p i))=toN p i from rfl]at ho;have l12:bN p i=11\/bN p i=12:=by simpa[Hm]using hl
   have d12:¬(12:Int)=11:=by decide
   by_cases c1:(p.length:Int)<=toN p i
   ·have c2:¬(toN p i<(p.length:Int)/\(toN p i).toNat∈bs):=by omega
    rcases l12 with l|l <;> simp only[AR,AF,AH,AJ,AL,AQ,Aa,Ac,AG,AO,AX,e1,g1,AE,and_self,bb,t0,hz,bf,hg i hil,hin,b1,l,d12,eq_self,ho,QZ (show p.length<=100000 by omega),c1,c2,AB]
   ·have c2:0<=toN p i/\toN p i<(p.length:Int):=by omega
    have c3:=hg (toN p i).toNat (by omega);by_cases c4:(toN p i).toNat∈bs;{rcases l12 with l|l <;> simp only[AR,AF,AH,AJ,AL,AQ,Aa,Ac,AG,AO,AX,e1,g1,AE,and_self,bb,t0,hz,bf,hg i hil,hin,b1,l,d12,eq_self,ho,QZ (show p.length<=100000 by omega),c1,c2,c3,c4,Kj (show i<4611686018427387904 by omega),AB]};{rcases l12 with l|l <;> simp only[AR,AF,AH,AJ,AL,AQ,Aa,Ac,AG,AO,AX,e1,g1,AE,and_self,and_false,bb,t0,hz,bf,hg i hil,hin,b1,l,d12,eq_self,ho,QZ (show p.length<=100000 by omega),c1,c2,c3,c4,AB]}
  refine key.trans ?_;by_cases c:toN p i<p.length/\(toN p i).toNat∈bs;{rw[if_pos c];exact next fun _ _=>⟨_,c.2,by omega⟩}
  ·have er:¬(GH p bs).all (fun c=>(GC bs c).toBool)=true:=fun h=>c (by
    obtain⟨j',h1,h2⟩:=(iI p bs).1 h i hin hl;have:=(hj j' h1).1;exact⟨by omega,by rw[h2,bb];exact h1⟩)
   rw[if_neg c,if_neg er]
theorem H7 (_:GF gl0) (A:Key->Option O) (p:List C):Cc (X0 gl0) 120 [.d (.slice 1 (.int .u8)) (.slice p)] A (.d (.int .i64) (.int (Dj p))) []:=by refine YV (ts:=[.slice 1 (.int .u8)]) (cs:=[.slice p]) fun W=>?_;refine bT (X6 1001) ?_;show Xy 1001 [.d (.slice 1 (.int .u8)) (.slice p)] A kR=_;simp only[Xy,Bq,Md,and_self,if_true,AF,AH,AJ,AL,AQ,EK,FH,Kx,DM,JX,AB];rw[X5 p (W 0 _ _ rfl rfl) (by omega)];rfl
theorem q7n (A:Key->Option O) (p:List C):Cc (X0 gl0) 113 [.d (.slice 1 (.int .u8)) (.slice p)] A (.d (.int .i64) (.int (Dj p))) []:=by refine YV (ts:=[.slice 1 (.int .u8)]) (cs:=[.slice p]) fun W=>?_;refine bT (q6y 1001) ?_;show cL 1001 [.d (.slice 1 (.int .u8)) (.slice p)] A kR=_;simp only[cL,Bq,Md,and_self,if_true,AF,AH,AJ,AL,AQ,EK,FH,Kx,DM,JX,AB];rw[q6x p (W 0 _ _ rfl rfl) (by omega)];rfl
end
theorem eW {X:Cx} {f:FuncId} {eb:Nat} {e:Ty} {c:C} {A:Key->Option O} {v:V} {L:List (Key × O)} (h:Cc X f [.d (.slice eb e) (.slice c.elems)] A v L):Cc X f [.d (.slice eb e) c] A v L:=by intro A' Γ w args hA hg hc hn hr;have hs:args.size=1:=hn.symm;have h0:AK Γ (.d (.slice eb e) c) args[0]:=hr 0 _ _ rfl (dw (by omega:0<args.size));obtain⟨h2,_⟩:=(Ch rfl rfl).1 h0;simp only[AA,AU]at h2;obtain⟨_,_,_,cs,rfl,_⟩:=h2;exact h A' Γ w args hA hg hc hn hr
def UJ {R:Type}:OvG R:=fun xs _ K=>match xs with| [.d t c]=>if t= .slice 1 (.int .u8)then K (.d (.int .i64) (.int (Dj c.elems))) []else none|_=>none
def kC (_:Nat) {R:Type}:OvG R:=UJ
theorem H8 (N:Nat) {R:Type}:GOk (X0 gl0) 120 (kC N (R:=R)):=by intro xs A Kr r hr;unfold kC UJ at hr;split at hr;{simp only[az]at hr;obtain⟨rfl,hr⟩:=hr;exact⟨_,_,eW (H7 gf0 A _),hr⟩};{cases hr}
def vY (_:Nat) {R:Type}:OvG R:=UJ
theorem q7o (N:Nat) {R:Type}:GOk (X0 gl0) 113 (vY N (R:=R)):=by intro xs A Kr r hr;unfold vY UJ at hr;split at hr;{simp only[az]at hr;obtain⟨rfl,hr⟩:=hr;exact⟨_,_,eW (q7n A _),hr⟩};{cases hr}
section
variable {R:Type}
theorem q2X {K:KD R} {B:KD R->Option R} (ds:List C) (ms:List Es) (h:∀k,B k=k ds ms):jn K B=K ds ms:=by rw[AR];exact h K
end
theorem kA (ad:Option Addr) (cap:Nat) (w:World):Calls Tryz.prog 71 #[.slice ad 0 cap] w fun e w'=>(∃b,e= .returned (.slice b 0 0))/\Ext w w':=by
 have hq:∀(a:Option Addr) (c:Nat) (w:World),(binOp .eql 166 (.slice a 0 c) (.slice none 0 0)).run Tryz.prog w= .ok (.bool a.isNone) w:=fun a c w=>by have hu:∃E,Tryz.prog.underlying 166=some (.slice E):=⟨212,by kernel_rfl⟩;obtain⟨E,hu⟩:=hu;simp[binOp,run_equal_slice_nil w 166 E a 0 c hu]
 cases ad
 all_goals
  go_enter Tryz.func71,Tryz.ntmps71
  go_wp2
 all_goals go_ret
 ·exact⟨⟨_,rfl⟩,Ext.refl _⟩
 ·exact⟨⟨_,rfl⟩,Ext.alloc _ _⟩
theorem J7 (A:Key->Option O) (cs:List C):Cc (X0 gl0) 71 [.d (.slice 40 AW) (.slice cs)] A (.sr (.l 7) [] 0 cs.length none 40 AW) [(.l 7,.box (.d (.arr cs.length AW) (.agg cs)))]:=by
 cases cs with
 |cons c cs=>exact J8 A _ (by simp)|nil=>
  intro A' Γ w args hA' hg hc hn hr;obtain⟨cc,hok⟩:=hc;have hs:args.size=1:=hn.symm;have h0:AK Γ (.d (.slice 40 AW) (.slice [])) args[0]:=hr 0 _ _ rfl (dw (by omega:0<args.size));obtain⟨h1,_⟩:=(Ch rfl rfl).1 h0;simp only[AA,AU]at h1;obtain⟨ad,n,cap,cs,e1,e2,e3,e4,e5,e6,e7⟩:=h1;cases e1;have e3:n=0:=by simpa using e3.symm
  subst e3;have ea:args=#[.slice ad 0 cap]:=by
   apply vu;{simpa using hs}
   ·intro i h1 h2
    match i with
    |0=>simpa using e2|i+1=>omega
  rw[ea];refine(kA ad cap w).mono fun e w' he=>?_;obtain⟨⟨b,he1⟩,he2⟩:=he;refine⟨_,Γ,he1,.refl Γ,?_,Wi⟩;exact((cc.ext he2).gJ (t:=7) (e:=AW) rfl).congr (fun _=>rfl) (fun _=>rfl) (fun _ h=>h)
def H5:List Sh:=[.vec (.g (.l 1)) 40 AW]
def H6:List (Key × OSh):=[(.l 1,.box (.arr AW))]
theorem J9 (A:Key->Option O) (n M:Nat) (c:C) (h:n<=c.elems.length) (hA0:A (.l 1)=some (.box (.d (.arr M AW) c))):Cc (X0 gl0) 71 [.sr (.g (.l 1)) [] 0 n none 40 AW] A (.sr (.l 7) [] 0 n none 40 AW) [(.l 7,.box (.d (.arr n AW) (.agg (c.elems.take n))))]:=by
 rcases Nat.eq_zero_or_pos n with rfl|hn
 ·intro A' Γ w args hA' hg hc hn hr;obtain⟨cc,hok⟩:=hc;have hs:args.size=1:=hn.symm;have h0:AK Γ (.sr (.g (.l 1)) [] 0 0 none 40 AW) args[0]:=hr 0 _ _ rfl (dw (by omega:0<args.size));obtain⟨cap,ad,e2,_,_⟩:=dV h0;have ea:args=#[.slice ad 0 cap]:=by
   apply vu;{simpa using hs}
   ·intro i h1 h2
    match i with
    |0=>simpa using e2|i+1=>omega
  rw[ea];refine(kA ad cap w).mono fun e w' he=>?_;obtain⟨⟨b,he1⟩,he2⟩:=he;refine⟨_,Γ,he1,.refl Γ,?_,Wi⟩;exact((cc.ext he2).gJ (t:=7) (e:=AW) rfl).congr (fun _=>rfl) (fun _=>rfl) (fun _ h=>h)
 ·generalize hgl:gl0=gl;have ht:(c.elems.take n).length=n:=by simp[h]
  have hne:¬c.elems.take n=[]:=fun h1=>by rw[h1]at ht;simp at ht;omega
  have hz:(n==0)=false:=by simp;omega
  refine Jx (n:=8) (ok0 gl) Tryz.func71 rfl rfl (by simp) ?_;intro A' hA;have ha:=hA _ _ hA0;refine CX (DE (ok0 gl) [] (by kernel_rfl) ?_);simp only[go_sem,↓Bu,↓Bt,↓Bs,↓Br,↓Bv,↓Bm,↓Bl,↓Bj,↓Bk,simprocAttr];refine CX (CX (DE (ok0 gl) [] (by kernel_rfl) ?_));simp only[go_sem,↓Bu,↓Bt,↓Bs,↓Br,↓Bv,↓Bm,↓Bl,↓Bj,↓Bk,simprocAttr,hz];refine LF _ rfl (fun h=>by simp at h) (fun _=>Gq ?_);refine CX (DE (ok0 gl) [(7,3)] (by kernel_rfl) ?_);simp only[go_sem,↓Bu,↓Bt,↓Bs,↓Br,↓Bv,↓Bm,↓Bl,↓Bj,↓Bk,simprocAttr,ha,List.drop_zero,ht];refine⟨hne,?_⟩;refine FU ⟨.inr rfl,?_⟩;simp only[Ez,go_sem,↓Bu,↓Bt,↓Bs,↓Br,↓Bv,↓Bm,↓Bl,↓Bj,↓Bk,simprocAttr,Tryz.f71] <;> try rfl
def jX (_:Nat) {R:Type}:OvG R:=fun xs A K=>match xs with| [.d (.slice eb e) c]=>if eb=40/\e=AW then K (.sr (.l 7) [] 0 c.elems.length none 40 AW) [(.l 7,.box (.d (.arr c.elems.length AW) (.agg c.elems)))]else none|xs=>WK H5 H6 (fun ds _ K=>if(U ds 0).toInt.toNat<=(U ds 1).elems.length then K (.sr (.l 7) [] 0 (U ds 0).toInt.toNat none 40 AW) [(.l 7,.box (.d (.arr (U ds 0).toInt.toNat AW) (.agg ((U ds 1).elems.take (U ds 0).toInt.toNat))))]else none) xs A K
theorem U2 (N:Nat) {R:Type}:GOk (X0 gl0) 71 (jX N (R:=R)):=by intro xs A Kr r hr;unfold jX at hr;split at hr;{simp only[az]at hr;obtain⟨⟨rfl,rfl⟩,hr⟩:=hr;exact⟨_,_,eW (J7 A _),hr⟩};{refine vA (fun ds ms K r hr=>?_) _ _ _ _ hr;split at hr;{exact⟨_,_,J9 _ _ (U ds 1).elems.length _ ‹_› rfl,hr⟩};{cases hr}}
def q5E (_:Nat) {R:Type}:OvG R:=fun _ _ _=>none
theorem sZ {f:FuncId} (N:Nat) {R:Type}:GOk (X0 gl0) f (q5E N (R:=R)):=fun _ _ _ _ hr=>nomatch hr
def bF {R:Type} (N:Nat) (a0 a1:C) (k1:KD R):Option R:=bif !decide ((aq a0+aq a1) / 18446744073709551616=0)then(k1 [bc 0,bc 11] [])else(k1 [bc ((aq a0+aq a1)%18446744073709551616),bc 0] [])
def NN:=lid "" (@bF R N)
theorem sG {R N a0 a1 k}:@NN R N a0 a1 k=bF N a0 a1 k:=by unfold NN;rw[BQ]
def q4Y:OvG R:=Bq [.int .u64,.int .u64] (FH (NN N)) fun a K J m1=>K (V.tup [V.d (bm ay) (U J 0),V.d (bm ba) (U J 1)]) []
theorem q4Z:okX 82 (@q4Y R N):=CV BT N [] [(82,[([9],(Ct [(4,.d (.int .u64)),(5,.d (.int .i64))]))])] (fun _ _=>sG)
def bG {R:Type} (N:Nat) (a0 a1:C) (k1:KD R):Option R:=bif decide (aq a0<aq a1)then(k1 [bc 0,bc 12] [])else(k1 [bc (ar ay (aq a0-aq a1)),bc 0] [])
def Pd:=lid "" (@bG R N)
theorem sI {R N a0 a1 k}:@Pd R N a0 a1 k=bG N a0 a1 k:=by unfold Pd;rw[BQ]
def q40:OvG R:=Bq [.int .u64,.int .u64] (FH (Pd N)) fun a K J m1=>K (V.tup [V.d (bm ay) (U J 0),V.d (bm ba) (U J 1)]) []
theorem sH:okX 118 (@q40 R N):=CV BT N [] [(118,[([9],(Ct [(4,.d (.int .u64)),(5,.d (.int .i64))]))])] (fun _ _=>sI)
section
variable {R:Type} {N:Nat}
def Ci (a b:Int):Int × Int:=if(a+b) / 18446744073709551616=0 then((a+b)%18446744073709551616,0)else(0,11)
def FP (a b:Int):Int × Int:=if a<b then(0,12)else(IntKind.u64.wrap (a-b),0)
theorem add_eq (a b:C) (k:KD R):NN N a b k=k [.int (Ci a.toInt b.toInt).1,.int (Ci a.toInt b.toInt).2] []:=by rw[sG];unfold bF Ci;by_cases h:(a.toInt+b.toInt) / 18446744073709551616=0 <;> simp[h]
theorem sub_eq (a b:C) (k:KD R):Pd N a b k=k [.int (FP a.toInt b.toInt).1,.int (FP a.toInt b.toInt).2] []:=by rw[sI];unfold bG FP;by_cases h:a.toInt<b.toInt <;> simp[h]
theorem j5 {a b:Int} (h:0<=a) (h2:0<=b) (h3:a+b<18446744073709551616):Ci a b=(a+b,0):=by unfold Ci;rw[if_pos (by omega),Int.emod_eq_of_lt (by omega) (by omega)]
theorem j6 {a b:Int} (h:18446744073709551616<=a+b):Ci a b=(0,11):=by unfold Ci;rw[if_neg (by omega)]
def Tu (_:Nat) (s:Int) (c:C):Int ⊕ Int:=if(Ci s c.toInt).2=0 then .inl (Ci s c.toInt).1 else .inr (Ci s c.toInt).2
def XN:Int ⊕ Int->Int × Int
 | .inl s=>(s,0)| .inr e=>(0,e)
def Nj (l:List C):Int × Int:=XN (Dg Tu 0 0 l)
end
def cF {R:Type} (N:Nat) (a0:C) (k1:KD R):Option R:=bif df (au (ax (bj a0 4))) (au (ax (bj a0 4)))then(k1 [dc [bj a0 0,bj a0 1,bj a0 2,bj a0 3,bw (ax (bj a0 4))]] [])else none
def Pm:=lid "" (@cF R N)
theorem uO {R N a0 k}:@Pm R N a0 k=cF N a0 k:=by unfold Pm;rw[BQ]
def q52:OvG R:=Bq [Bo] (EK (Pm N)) (DM Bo)
theorem uM:okX 66 (@q52 R N):=CV (BJ (W4 N) <| BT) N [] [(66,[([9],⟨[],[(2,.as (.ptr (.l 2) [] Bo))],[],[(.l 2,.box (.d Bo))],[],[]⟩)])] (fun _ _=>uO)
def Xs (a0:C) (k1:KD R):Option R:=Pm N (bj a0 8) (fun J m1=>(bif df (au (ax (bj a0 3))) (au (ax (bj a0 3)))then(k1 [dc [bj a0 0,bj a0 1,bj a0 2,bw (ax (bj a0 3)),bj a0 4,bj a0 5,bj a0 6,bj a0 7,U J 0]] [])else none))
def Qm:=lid "" (@Xs R N)
theorem jF {R N a0 k}:@Qm R N a0 k=Xs N a0 k:=by unfold Qm;rw[BQ]
def Y0:OvG R:=Bq [AV] (EK (Qm N)) (DM AV)
theorem Y1:okX 122 (@Y0 R N):=CV (BJ (YD N) <| BJ (uM N) <| BT) N [(122,[(1,[(8,7)])])] [(122,[([9],⟨[],[(2,.as (.ptr (.l 2) [] AV))],[],[(.l 2,.box (.d AV))],[],[]⟩)])] (fun _ _=>jF)
def Dy:C:=dc [AI (bm ct),AI (ca 2 (bm ba)),dc [dc [dc (bp 32 (bc 0)),dc (bp 32 (bc 0))],bc 0],bw [],AI (ca 2 (bm ay)),AI (ca 2 (bm ay)),AI (bm ba),AI (bm ay),dc [AI (bm ct),AI (bm ay),AI (ca 2 (bm ay)),AI (ca 2 (bm ay)),bw []]]
def Xr (a0 a1 a2:C) (k1:KD R):Option R:=jn (fun J m1=>(bif dg (U J 2)then(k1 [bc 1,Dy] [])else(bif decide (aq (bj (U J 3) 6)=2)then(k1 [bc 31,Dy] [])else(Qm N (U J 3) (fun I m2=>(if 0<=aq (U J 0)/\aq (U J 0)<2 then(NN N (bj (bj (U I 0) 4) (av (aq (U J 0)))) (U J 1) (fun d3 m3=>(if 0<=aq (U J 0)/\aq (U J 0)<2 then(bif !decide (aq (U d3 1)=0)then(k1 [U d3 1,Dy] [])else(NN N (bc 0) (bj (bj (cn (U I 0) 4 (cn (bj (U I 0) 4) (av (aq (U J 0))) (U d3 0))) 4) 0) (fun d4 m4=>(bif !decide (aq (U d4 1)=0)then(bif !decide (aq (U d4 1)=0)then(k1 [U d4 1,Dy] [])else(k1 [bc 0,cn (U I 0) 4 (cn (bj (U I 0) 4) (av (aq (U J 0))) (U d3 0))] []))else(NN N (U d4 0) (bj (bj (cn (U I 0) 4 (cn (bj (U I 0) 4) (av (aq (U J 0))) (U d3 0))) 4) 1) (fun d5 m5=>(bif !decide (aq (U d5 1)=0)then(bif !decide (aq (U d5 1)=0)then(k1 [U d5 1,Dy] [])else(k1 [bc 0,cn (U I 0) 4 (cn (bj (U I 0) 4) (av (aq (U J 0))) (U d3 0))] []))else(k1 [bc 0,cn (U I 0) 4 (cn (bj (U I 0) 4) (av (aq (U J 0))) (U d3 0))] []))))))))else none)))else none)))))) (fun k2=>(bif !decide (aq a1=0)then(bif !decide (aq a1=1)then(k2 [a1,a2,de true,a0,Dy] [])else(k2 [a1,a2,de (decide (aq a2=0)),a0,Dy] []))else(k2 [a1,a2,de (decide (aq a2=0)),a0,Dy] [])))
def OP:=lid "" (@Xr R N)
theorem jE {R N a0 a1 a2 k}:@OP R N a0 a1 a2 k=Xr N a0 a1 a2 k:=by unfold OP;rw[BQ]
def Z8:OvG R:=Bq [AV,.int .i64,.int .u64] (Kx (OP N)) fun a K J m1=>K (V.tup [V.d AV (U J 1),V.d (bm ba) (U J 0)]) []
theorem Z9:okX 106 (@Z8 R N):=CV (BJ (q4Z N) <| BJ (Y1 N) <| BT) N [] [(106,[([0,4,0,1],(Cz [1,2,3,6] [(9,.d .bool)])),
  ([9],⟨[],[(6,.as (.ptr (.l 6) [] AV)),(7,.d (.int .i64))],[],[(.l 6,.box (.d AV))],[],[]⟩)])] (fun _ _=>jE)
section
variable {R:Type} {N:Nat}
def Bh (s:C):List C:=(s.get 4).elems
def zz:C:=.agg [.int 0,.int 0]
def SOk (s:C):Prop:=s= .agg [s.get 0,s.get 1,s.get 2,s.get 3,.slice (Bh s)]
def mkB (id who rts:C) (yk:List C) (put yy ph un yw:C):C:=.agg [id,who,rts,.slice yk,put,yy,ph,un,yw]
theorem uL {s:C} (h:SOk s) (k:KD R):Pm N s k=k [s] []:=by rw[uO];unfold cF;simp only[bh,cond_true];exact congrArg (fun x=>k [x] []) h.symm
section
variable {id who rts:C} {yk:List C} {put yy ph un yw:C}
theorem Y4 (h:SOk yw) (k:KD R):Qm N (mkB id who rts yk put yy ph un yw) k=k [mkB id who rts yk put yy ph un yw] []:=by rw[jF];unfold Xs mkB;simp only[go_sem,uL h,AO,bh,cond_true]
def zB:C:=.agg [.int 0,zz,.agg [.agg [.agg (bp 32 (.int 0)),.agg (bp 32 (.int 0))],.int 0],.slice [],zz,zz,.int 0,.int 0,.agg [.int 0,.int 0,zz,zz,.slice []]]
theorem XX:Dy=zB:=rfl
def KO (id who rts:C) (yk:List C) (put yy ph un yw:C) (side yj:Int):Int × C:=
 if(side≠0/\side≠1)\/yj=0 then(1,zB)else if ph.toInt=2 then(31,zB)else
  if(Ci (put.get side.toNat).toInt yj).2≠0 then((Ci (put.get side.toNat).toInt yj).2,zB)else
   if(Nj [(put.set side.toNat (.int (Ci (put.get side.toNat).toInt yj).1)).get 0,(put.set side.toNat (.int (Ci (put.get side.toNat).toInt yj).1)).get 1]).2≠0 then((Nj [(put.set side.toNat (.int (Ci (put.get side.toNat).toInt yj).1)).get 0,(put.set side.toNat (.int (Ci (put.get side.toNat).toInt yj).1)).get 1]).2,zB)else
    (0,mkB id who rts yk (put.set side.toNat (.int (Ci (put.get side.toNat).toInt yj).1)) yy ph un yw)
theorem q44 (h:SOk yw) (side yj:C) (k:KD R):
  OP N (mkB id who rts yk put yy ph un yw) side yj k=k [.int (KO id who rts yk put yy ph un yw side.toInt yj.toInt).1,(KO id who rts yk put yy ph un yw side.toInt yj.toInt).2] []:=by
 have h6:(mkB id who rts yk put yy ph un yw).get 6=ph:=rfl;rw[jE];unfold Xr KO;rw[XX]
 have e:∀K:KD R,jn K (fun K=>(bif !decide (side.toInt=0)then(bif !decide (side.toInt=1)then K [side,yj,.bool true,mkB id who rts yk put yy ph un yw,zB] []else K [side,yj,.bool (decide (yj.toInt=0)),mkB id who rts yk put yy ph un yw,zB] [])else K [side,yj,.bool (decide (yj.toInt=0)),mkB id who rts yk put yy ph un yw,zB] []))=
   K [side,yj,.bool (decide ((side.toInt≠0/\side.toInt≠1)\/yj.toInt=0)),mkB id who rts yk put yy ph un yw,zB] []:=fun K=>by
  rw[AR];by_cases h0:side.toInt=0;{simp[h0]};{by_cases h1:side.toInt=1 <;> simp[h0,h1]}
 rw[e];by_cases a1:(side.toInt≠0/\side.toInt≠1)\/yj.toInt=0;{simp only[AF,AH,AJ,AL,AX,a1,AE,AB]};have hs:0<=side.toInt/\side.toInt<2:=by omega
 by_cases a2:ph.toInt=2;{simp only[AF,AH,AJ,AL,AX,a1,a2,h6,AE,AB]};simp only[AF,AH,AJ,AL,AX,AG,a1,a2,h6,AE,Y4 h,hs,and_self,add_eq,AB];unfold mkB;simp only[oJ,eS,Int.toNat_zero];by_cases b1:(Ci (put.get side.toInt.toNat).toInt yj.toInt).2=0
 case neg=>simp only[b1,AE,ne_eq,not_false_iff,AB]
 have e2:∀x y:C,(Nj [x,y]).2=if(Ci 0 x.toInt).2=0 then(Ci (Ci 0 x.toInt).1 y.toInt).2 else(Ci 0 x.toInt).2:=fun x y=>by by_cases g1:(Ci 0 x.toInt).2=0;{by_cases g2:(Ci (Ci 0 x.toInt).1 y.toInt).2=0 <;> simp[Nj,Dg,Tu,XN,g1,g2]};{simp[Nj,Dg,Tu,XN,g1]}
 simp only[b1,e2,AE,ne_eq,not_true];by_cases b2:(Ci 0 ((put.set side.toInt.toNat (bc (Ci (put.get side.toInt.toNat).toInt yj.toInt).1)).get 0).toInt).2=0;{simp only[b2,AE,AB];by_cases b3:(Ci (Ci 0 ((put.set side.toInt.toNat (bc (Ci (put.get side.toInt.toNat).toInt yj.toInt).1)).get 0).toInt).1 ((put.set side.toInt.toNat (bc (Ci (put.get side.toInt.toNat).toInt yj.toInt).1)).get 1).toInt).2=0;{simp only[b3,AE,not_true]};{simp only[b3,AE,not_false_iff,AB]}};{simp only[b2,AE,not_false_iff,AB]}
end
end
def WG {R:Type} (N:Nat) (a1:C) (k2:KD R) (k3:KD R):KD R->KD R:=fun k4 J m1=>(bif decide (aq (U J 2)<aq (U J 1))then(if 0<=aq (U J 2)/\aq (U J 2)<(↑(au (ax (U J 0))):Int)then(jn (fun I m2=>(bif dg (U I 0)then(k2 [U J 2] [])else(k4 [U J 0,U J 1,bc (ar ba (aq (U J 2)+1))] []))) (fun k5=>(k5 [de (decide (aq (bj (bt (ax (U J 0)) (av (aq (U J 2))) dj) 0)=aq a1))] [])))else none)else(k3 [] []))
def cE (a0 a1:C) (k1:KD R):Option R:=jn (fun J m1=>(k1 [U J 0] [])) (fun k2=>(jn (fun J m1=>(k2 [bc (-1)] [])) (fun k3=>(BR N (WG N a1 k2 k3) [bj a0 4,bc (↑(au (ax (bj a0 4))):Int),bc 0] []))))
def SW:=lid "" (@cE R N)
theorem uI {R N a0 a1 k}:@SW R N a0 a1 k=cE N a0 a1 k:=by unfold SW;rw[BQ]
def q5X:OvG R:=Bq [Bo,.int .u64] (FH (SW N)) (DM (bm ba))
theorem q5Y:okX 34 (@q5X R N):=CV BT N [(34,[(0,[(2,5)])]),(58,[(0,[(2,5)])])] [(34,[([9],(Ct [(4,.d (.int .i64))]))]),(57,[([1,0,1],⟨[],[],[],[],[.g (.l 3)],[]⟩),([4,1,0,1],⟨[0,1,7],[(8,.d (.int .i64))],[],[],[.g (.l 3)],[]⟩),([9],⟨[],[(4,.d (.int .i64))],[],[],[.g (.l 3)],[]⟩)]),(58,[([9],(Ct [(3,.d .bool)]))])] (fun _ _=>uI)
section
variable {R:Type} {N:Nat}
def findF (id:Int) (i:Nat) (_:Unit) (c:C):Unit ⊕ Nat:=if(c.get 0).toInt=id then .inr i else .inl ()
def cJ:Unit ⊕ Nat->Int
 | .inl _=>-1| .inr i=>i
def Iq (s:C) (id:Int):Int:=cJ (Dg (findF id) 0 () (Bh s))
theorem find_eq (s id:C) (hl:(Bh s).length<1099511627776) (hN:2199023255552<N) (k:KD R):SW N s id k=k [.int (Iq s id.toInt)] []:=by
 rw[uI];unfold cE;rw[AR,AR];refine(SC (F:=WG N id _ _) (fun i (_:Unit)=>[s.get 4,.int (Bh s).length,.int i]) (fun _ _=>[]) (Bh s) (findF id.toInt) (fun _=>k [.int (-1)] []) (fun i=>k [.int i] []) (s0:=()) ?_ ?_ (by omega)).trans ?_
 ·intro i _ c hx hi rec;have h1:(i:Int)<((Bh s).length:Int):=by omega
  have hd:(s.get 4).elems.getD i .nil=c:=FJ hx;have hs:(s.get 4).elems.length=(Bh s).length:=rfl;unfold WG findF;simp only[go_sem,AG,AX,hs,h1,hd,Bp (show i<4611686018427387904 by omega),bz,and_self,if_true,AB];by_cases h:(c.get 0).toInt=id.toInt <;> simp[h]
 ·intro _ rec;unfold WG;simp only[go_sem,AG,eg,if_false,AB]
 ·unfold Iq LI cJ;cases Dg (findF id.toInt) 0 () (Bh s) <;> rfl
end
def Wa {R:Type} (N:Nat) (k1:KD R) (k2:KD R):KD R->KD R:=fun k3 J m1=>(bif decide (aq (U J 2)<(↑(au (ax (bj (U J 1) 4))):Int))then(if 0<=aq (U J 2)/\aq (U J 2)<(↑(au (ax (bj (U J 1) 4))):Int)then(bif decide (aq (bj (bt (ax (bj (U J 1) 4)) (av (aq (U J 2))) dj) 0)=aq (U J 0))then(k1 [U J 2] [])else(k3 [U J 0,U J 1,bc (ar ba (aq (U J 2)+1))] []))else none)else(k2 [] []))
def dD (a0 a1:C) (k1:KD R):Option R:=jn (fun J m1=>(k1 [bc (-1)] [])) (fun k2=>(BR N (Wa N k1 k2) [a1,a0,bc 0] []))
def Sq:=lid "" (@dD R N)
theorem vZ {R N a0 a1 k}:@Sq R N a0 a1 k=dD N a0 a1 k:=by unfold Sq;rw[BQ]
def q7p:OvG R:=Bq [Bo,.int .u64] (FH (Sq N)) (DM (bm ba))
theorem q7q:okX 29 (@q7p R N):=CV BT N [(29,[(0,[(2,5)])])] [(29,[([1,0,1],(Ct [])),
  ([4,1,0,1],(Cz [1,2] [(5,.d (.int .i64))])),
  ([9],(Ct [(4,.d (.int .i64))]))])] (fun _ _=>vZ)
def cP {R:Type} (N:Nat) (a0 a1:C) (k1:KD R):Option R:=bif decide (ar ay (18446744073709551615-aq a0)<aq a1)then(k1 [bc 0,bc 11] [])else(k1 [bc (ar ay (aq a0+aq a1)),bc 0] [])
def Pu:=lid "" (@cP R N)
theorem vN {R N a0 a1 k}:@Pu R N a0 a1 k=cP N a0 a1 k:=by unfold Pu;rw[BQ]
def q6A:OvG R:=Bq [.int .u64,.int .u64] (FH (Pu N)) fun a K J m1=>K (V.tup [V.d (bm ay) (U J 0),V.d (bm ba) (U J 1)]) []
theorem q6B:okX 50 (@q6A R N):=CV BT N [] [(50,[([9],(Ct [(4,.d (.int .u64)),(5,.d (.int .i64))]))])] (fun _ _=>vN)
section
variable {R:Type} {N:Nat}
theorem j7 {a b:Int}:W64 (Ci a b).1:=by unfold Ci;split;{exact⟨Int.emod_nonneg _ (by decide),Int.emod_lt_of_pos _ (by decide)⟩};{exact⟨by decide,by decide⟩}
theorem vI (a b:C) (ha:W64 a.toInt) (hb:W64 b.toInt) (k:KD R):Pu N a b k=k [.int (Ci a.toInt b.toInt).1,.int (Ci a.toInt b.toInt).2] []:=by obtain⟨a1,a2⟩:=ha;obtain⟨b1,b2⟩:=hb;rw[vN];unfold cP;rw[wrap_u64 (by omega) (by omega)];by_cases h:a.toInt+b.toInt<18446744073709551616;{rw[j5 a1 b1 h,show decide (18446744073709551615-a.toInt<b.toInt)=false from by rw[decide_eq_false_iff_not];omega,wrap_u64 (by omega) h];rfl};{rw[j6 (by omega),show decide (18446744073709551615-a.toInt<b.toInt)=true from by rw[decide_eq_true_iff];omega];rfl}
theorem q8e (s id:C) (hl:(Bh s).length<1099511627776) (hN:2199023255552<N) (k:KD R):Sq N s id k=k [.int (Iq s id.toInt)] []:=by
 rw[vZ];unfold dD;rw[AR];refine(SC (F:=Wa N k _) (fun i (_:Unit)=>[id,s,.int i]) (fun _ _=>[]) (Bh s) (findF id.toInt) (fun _=>k [.int (-1)] []) (fun i=>k [.int i] []) (s0:=()) ?_ ?_ (by omega)).trans ?_
 ·intro i _ c hx hi rec;have h1:(i:Int)<((Bh s).length:Int):=by omega
  have hd:(s.get 4).elems.getD i .nil=c:=FJ hx;have hs:(s.get 4).elems.length=(Bh s).length:=rfl;unfold Wa findF;simp only[go_sem,AG,AX,hs,h1,hd,Bp (show i<4611686018427387904 by omega),bz,and_self,if_true,AB];by_cases h:(c.get 0).toInt=id.toInt <;> simp[h]
 ·intro _ rec;unfold Wa;have hs:(s.get 4).elems.length=(Bh s).length:=rfl;simp only[go_sem,AG,hs,eg,if_false,AB]
 ·unfold Iq LI cJ;cases Dg (findF id.toInt) 0 () (Bh s) <;> rfl
end
section
variable {R:Type} {N:Nat}
end
def Vi {R:Type} (N:Nat) (k1:KD R):Option R:=k1 [cn (dc [dc (bp 8 (bc 0)),dc (bp 64 (bc 0)),bc 0]) 0 (cn (cn (cn (cn (cn (cn (cn (cn (AI (ca 8 (bm ct))) 0 (bc 1779033703)) 1 (bc 3144134277)) 2 (bc 1013904242)) 3 (bc 2773480762)) 4 (bc 1359893119)) 5 (bc 2600822924)) 6 (bc 528734635)) 7 (bc 1541459225))] []
def PZ:=lid "" (@Vi R N)
theorem aY {R N k}:@PZ R N k=Vi N k:=by unfold PZ;rw[BQ]
def q4M:OvG R:=Bq [] (fun a=>PZ N) fun a K J m1=>K (V.ptr (Key.l 1) [] DS) [(Key.l 1,O.box (V.d DS (U J 0)))]
theorem q4N:okX 133 (@q4M R N):=CV BT N [] [(133,[([9],⟨[],[(0,.as (.ptr (.l 1) [] DS))],[],[(.l 1,.box (.d DS))],[],[]⟩)])] (fun _ _=>aY)
def NL {R:Type} (N:Nat) (k2:KD R):KD R->KD R:=fun k3 J m1=>(bif decide (aq (U J 3)<aq (U J 1))then(if 0<=aq (U J 3)/\aq (U J 3)<(↑(au (ax (U J 0))):Int)then(k3 [U J 0,U J 1,bc (BV ui ct (ar ct (aq (U J 2)*2^min (av 8) 32)) (ar ct (aq (bt (ax (U J 0)) (av (aq (U J 3))) dj)))),bc (ar ba (aq (U J 3)+1))] [])else none)else(k2 [U J 2] []))
def Vm (a0:C) (k1:KD R):Option R:=if Int.ofNat 0<=0/\Int.ofNat 0<=4/\4<=(↑(au (ax a0)):Int)then(jn (fun J m1=>(k1 [U J 0] [])) (fun k2=>(BR N (NL N k2) [bw (cut (ax a0) 0 4),bc (↑(au (cut (ax a0) 0 4)):Int),bc 0,bc 0] [])))else none
def NM:=lid "" (@Vm R N)
theorem bB {R N a0 k}:@NM R N a0 k=Vm N a0 k:=by unfold NM;rw[BQ]
def q4T:OvG R:=Bq [.slice 1 (.int .u8)] (EK (NM N)) (DM (bm ct))
theorem q4U:okX 178 (@q4T R N):=CV BT N [] [(178,[([1,0,1,1],(Ct [(3,.d (.int .u32))])),
  ([4,1,0,1,1],(Cz [7,8] [(3,.d (.int .u32)),(9,.d (.int .i64))])),
  ([9],(Ct [(2,.d (.int .u32))]))])] (fun _ _=>bB)
def Vk {R:Type} (N:Nat) (k1:KD R):Option R:=k1 [cn (cn (cn (cn (cn (cn (cn (cn (cn (cn (cn (cn (cn (cn (cn (cn (cn (cn (cn (cn (cn (cn (cn (cn (cn (cn (cn (cn (cn (cn (cn (cn (cn (cn (cn (cn (cn (cn (cn (cn (cn (cn (cn (cn (cn (cn (cn (cn (cn (cn (cn (cn (cn (cn (cn (cn (cn (cn (cn (cn (cn (cn (cn (cn (AI (ca 64 (bm ct))) 0 (bc 1116352408)) 1 (bc 1899447441)) 2 (bc 3049323471)) 3 (bc 3921009573)) 4 (bc 961987163)) 5 (bc 1508970993)) 6 (bc 2453635748)) 7 (bc 2870763221)) 8 (bc 3624381080)) 9 (bc 310598401)) 10 (bc 607225278)) 11 (bc 1426881987)) 12 (bc 1925078388)) 13 (bc 2162078206)) 14 (bc 2614888103)) 15 (bc 3248222580)) 16 (bc 3835390401)) 17 (bc 4022224774)) 18 (bc 264347078)) 19 (bc 604807628)) 20 (bc 770255983)) 21 (bc 1249150122)) 22 (bc 1555081692)) 23 (bc 1996064986)) 24 (bc 2554220882)) 25 (bc 2821834349)) 26 (bc 2952996808)) 27 (bc 3210313671)) 28 (bc 3336571891)) 29 (bc 3584528711)) 30 (bc 113926993)) 31 (bc 338241895)) 32 (bc 666307205)) 33 (bc 773529912)) 34 (bc 1294757372)) 35 (bc 1396182291)) 36 (bc 1695183700)) 37 (bc 1986661051)) 38 (bc 2177026350)) 39 (bc 2456956037)) 40 (bc 2730485921)) 41 (bc 2820302411)) 42 (bc 3259730800)) 43 (bc 3345764771)) 44 (bc 3516065817)) 45 (bc 3600352804)) 46 (bc 4094571909)) 47 (bc 275423344)) 48 (bc 430227734)) 49 (bc 506948616)) 50 (bc 659060556)) 51 (bc 883997877)) 52 (bc 958139571)) 53 (bc 1322822218)) 54 (bc 1537002063)) 55 (bc 1747873779)) 56 (bc 1955562222)) 57 (bc 2024104815)) 58 (bc 2227730452)) 59 (bc 2361852424)) 60 (bc 2428436474)) 61 (bc 2756734187)) 62 (bc 3204031479)) 63 (bc 3329325298)] []
def Pb:=lid "" (@Vk R N)
theorem bA {R N k}:@Pb R N k=Vk N k:=by unfold Pb;rw[BQ]
def q4P:OvG R:=Bq [] (fun a=>Pb N) (DM (ca 64 (bm ct)))
theorem q4Q:okX 179 (@q4P R N):=CV BT N [] [(179,[([9],⟨[],[(0,.as (.ptr (.l 0) [] (.arr 64 (.int .u32))))],[],[(.l 0,.box (.d (.arr 64 (.int .u32))))],[],[]⟩)])] (fun _ _=>bA)
def Va {R:Type} (N:Nat) (a0 a1:C) (k1:KD R):Option R:=if 0<=ar ay (32-BV fi ay (ar ay (aq a1)) 31)then(k1 [bc (BV ui ct (ar ct (aq a0*2^min (av (BV fi ay (ar ay (aq a1)) 31)) 32)) (Int.fdiv (aq a0) (2^min (av (ar ay (32-BV fi ay (ar ay (aq a1)) 31))) 32)))] [])else none
def Lc:=lid "" (@Va R N)
theorem aO {R N a0 a1 k}:@Lc R N a0 a1 k=Va N a0 a1 k:=by unfold Lc;rw[BQ]
def q4j:OvG R:=Bq [.int .u32,.int .i64] (FH (Lc N)) (DM (bm ct))
theorem okB {R:Type} (o:OvS (X0 gl0)) {tb hs N n d f xs} {A:Key->Option O} {K:V->List (Key × O)->Option R} {r} (h:exF (X0 gl0) (o.ov R) Mk tb hs N n d f xs A K=some r):∃v L,Cc (X0 gl0) f xs A v L/\K v L=some r:=Ul (ok0 gl0) (mo gl0) (o.cC _) (Yr gl0) _ _ _ _ _ _ h
theorem okA {R:Type} (o:OvS (X0 gl0)) {tb hs N n d f xs} {A:Key->Option O} {K:V->List (Key × O)->Option R} {r} (h:exF (X0 gl0) (o.ov R) Mk tb hs N n d f xs A0 K=some r):∃v L,Cc (X0 gl0) f xs A v L/\K v L=some r:=let ⟨v,L,h1,h2⟩:=okB o h
 ⟨v,L,h1.mono (qP fun _=>rfl),h2⟩
theorem q4k:okX 190 (@q4j R N):=CV BT N [] [(190,[([9],(Ct [(4,.d (.int .u32))]))])] (fun _ _=>aO)
end Go.Proofs.YteealakhniofoaaGreatDoor
