/-
 What the functions on the way compute, part 1.
 Conditions: none.
-/
import Derived.Test.YteealakhniofoaaGreatDoorTf
import Derived.Laws.Externs
import Derived.Lib.Bytealg
import Derived.WalkLawsBesides
set_option linter.all false
noncomputable section
set_option maxRecDepth 100000
set_option maxHeartbeats 4000000
open Array renaming ext->vt,getElem?_eq_getElem->dy
open BitVec renaming ofInt->dz
open Bool renaming false_eq_true->fi
open Go.E.C renaming agg->dv,bool->df,elems->az,get->bj,int->bf,nil->dh,set->cm,slice->cg,toBool->dg,toInt->ar
open Go.E.Ty renaming arr->bu,bool->dq,int->bm
open Go.E.V renaming tup->wh
open Go.IntKind renaming i64->bb,u32->cz,u64->ay,wrap->au
open Go.IntWalk renaming i64_in->im
open Int renaming eq_ofNat_of_zero_le->oy,lt_irrefl->fj,toNat->av,toNat_natCast->bc
open List renaming all_eq_true->dw,getD->br,getD_eq_getElem?_getD->bq,getElem?_eq_getElem->bp,getElem_mem->vz,length->ax,length_append->bt,length_cons->cn,length_map->fq,length_nil->cu,map_cons->dt,mem_append->ed,mem_filter->mr,mem_map->mb,mem_singleton->fv,replicate->bw
open Nat renaming beq->dc,beq_refl->bo,le_refl->bx,mod_eq_of_lt->tr,zero_add->bh,zero_le->dr
open Option renaming ite_none_right_eq_some->ba
namespace Go.Proofs.YteealakhniofoaaGreatDoor
open Go Go.E
variable {R:Type} (N:Nat)
section
variable {gl:Nat->Option (Ty × C)}
def Fk (l:List UInt8) (m c:Int):C:=.agg [.str l,.int m,.int c]
def JV:List C:=[Fk [104,97,108,116] 0 1,Fk [112,117,115,104] 8 1,Fk [108,111,97,100] 1 1,Fk [97,100,100] 0 1,Fk [115,117,98] 0 1,Fk [109,117,108] 0 3,
 Fk [108,101,115,115] 0 1,Fk [115,97,109,101] 0 1,Fk [110,111,116] 0 1,Fk [98,111,116,104] 0 1,Fk [97,110,121] 0 1,Fk [106,117,109,112] 2 1,Fk [105,102] 2 1,
 Fk [116,119,105,99,101] 0 1,Fk [115,119,97,112] 0 1,Fk [100,114,111,112] 0 1,Fk [112,97,105,100] 1 10,Fk [110,111,119] 0 1]
def GF (gl:Nat->Option (Ty × C)):Prop:=gl 0=some (.arr 18 Fb,.agg JV)
def Dh (o:Int):Nat:=if o=1 then 8 else if o=2\/o=16 then 1 else if o=11\/o=12 then 2 else 0
theorem VT (o:Int):Dh o<=8:=by unfold Dh;(repeat' split) <;> omega
theorem q1i:∀(o:Nat),o<18->(JV.getD o .nil).get 1= .int (Dh o):=by
 intro o h;have c:o=0\/o=1\/o=2\/o=3\/o=4\/o=5\/o=6\/o=7\/o=8\/o=9\/o=10\/o=11\/o=12\/o=13\/o=14\/o=15\/o=16\/o=17:=by omega
 rcases c with rfl|rfl|rfl|rfl|rfl|rfl|rfl|rfl|rfl|rfl|rfl|rfl|rfl|rfl|rfl|rfl|rfl|rfl <;> rfl
def bN (p:List C) (i:Nat):Int:=(p.getD i .nil).toInt
def FE (p:List C) (i:Nat):Nat->Int
 |0=>0|k+1=>FE p i k*256+bN p (i+k)
def DD (p:List C) (i:Nat):Int:=
 if p.length<=i then 9 else if 18<=bN p i then 33 else if p.length<i+1+Dh (bN p i)then 9 else 0
theorem MT {p:List C} (h:C.wf (.slice 1 (.int .u8)) (.slice p)) {i:Nat} (hi:i<p.length):p.getD i .nil= .int (bN p i)/\0<=bN p i/\bN p i<=255:=by
 have:=C.q9f (i:=i) h hi;simp only[az,C.wf]at this;have m1:IntKind.u8.min=0:=by decide
 have m2:IntKind.u8.max=255:=by decide
 exact⟨this.1,by unfold bN;omega,by unfold bN;omega⟩
theorem gG {p:List C} (h:C.wf (.slice 1 (.int .u8)) (.slice p)) {i:Nat}:∀{k:Nat},i+k<=p.length->0<=FE p i k/\FE p i k<256^k
 |0,_=>by simp[FE]
 |k+1,hk=>by
  have ih:=gG h (k:=k) (i:=i) (by omega);have hb:=MT h (i:=i+k) (by omega);simp only[FE];have e:(256:Int)^(k+1)=256^k*256:=by rw[Int.pow_succ]
  omega
theorem XR {p:List C} (h:C.wf (.slice 1 (.int .u8)) (.slice p)) {i k:Nat} (hk:i+k<=p.length) (h8:k<=8):0<=FE p i k/\FE p i k<=18446744073709551615/\(k<8->FE p i k<72057594037927936):=by
 obtain⟨h1,h2⟩:=gG h hk;have c:k=0\/k=1\/k=2\/k=3\/k=4\/k=5\/k=6\/k=7\/k=8:=by omega
 rcases c with rfl|rfl|rfl|rfl|rfl|rfl|rfl|rfl|rfl <;> simp at h2 <;> omega
theorem q4N {a b:Int} (ha:0<=a) (ha2:a<72057594037927936) (hb:0<=b) (hb2:b<=255):BR .or .u64 (a*256) b=a*256+b:=by
 obtain⟨x,rfl⟩:=oy ha;obtain⟨y,rfl⟩:=oy hb;have hx:x<72057594037927936:=by omega
 have hy:y<256:=by omega
 have e1:((x:Int)*256)=((x*256:Nat):Int):=by omega
 have key:(x*256)|||y=x*256+y:=by have:=Nat.two_pow_add_eq_or_of_lt (i:=8) (b:=y) (by omega) x;rw[Nat.mul_comm x 256];exact this.symm
 rw[e1];show IntKind.u64.wrap (((dz 64 ((x*256:Nat):Int))|||(dz 64 ((y:Nat):Int))).toNat:Int)=_;simp only[BitVec.toNat_or,BitVec.ofInt_natCast,BitVec.toNat_ofNat];rw[tr (by omega),tr (by omega),key];have m1:IntKind.u64.min=0:=by decide
 have m2:IntKind.u64.max=18446744073709551615:=by decide
 exact(Nm (by omega) (by omega)).trans (by omega)
end
section
variable {gl:Nat->Option (Ty × C)}
theorem Q8 (A:Key->Option O) (cs:List C):Cc (X0 gl) 43 [.d (.slice 1 (.int .u8)) (.slice cs)] A (.ts 1 (.int .u8) cs) []:=by
 refine Jw (n:=8) (ok0 gl) Tryz.func43 rfl rfl (by simp) ?_;intro A' hA;refine CX (Cz (ok0 gl) [] (by kernel_rfl) ?_);simp only[go_sem,↓Bt,↓Bs,↓Br,↓Bq,↓Bu,↓Bm,↓Bl,↓Bj,↓Bk,simprocAttr];refine CX (CX (Cz (ok0 gl) [] (by kernel_rfl) ?_));cases cs with
 |nil=>
  simp only[go_sem,↓Bt,↓Bs,↓Br,↓Bq,↓Bu,↓Bm,↓Bl,↓Bj,↓Bk,simprocAttr];refine Qv rfl ?_ (Gp ?_);{refine CX (Cz (ok0 gl) [] (by kernel_rfl) ?_);simp only[go_sem,↓Bt,↓Bs,↓Br,↓Bq,↓Bu,↓Bm,↓Bl,↓Bj,↓Bk,simprocAttr];refine FM ⟨.inr rfl,?_⟩;simp only[Eu,go_sem,↓Bt,↓Bs,↓Br,↓Bq,↓Bu,↓Bm,↓Bl,↓Bj,↓Bk,simprocAttr,Tryz.f43]};{refine CX (Cz (ok0 gl) [] (by kernel_rfl) ?_);simp only[go_sem,↓Bt,↓Bs,↓Br,↓Bq,↓Bu,↓Bm,↓Bl,↓Bj,↓Bk,simprocAttr];refine FM ⟨.inr rfl,?_⟩;simp only[Eu,go_sem,↓Bt,↓Bs,↓Br,↓Bq,↓Bu,↓Bm,↓Bl,↓Bj,↓Bk,simprocAttr,Tryz.f43]}
 |cons c cs=>
  simp only[go_sem,↓Bt,↓Bs,↓Br,↓Bq,↓Bu,↓Bm,↓Bl,↓Bj,↓Bk,simprocAttr];refine LC _ rfl (fun h=>by simp at h) (fun _=>Gp ?_);refine CX (Cz (ok0 gl) [] (by kernel_rfl) ?_);simp only[go_sem,↓Bt,↓Bs,↓Br,↓Bq,↓Bu,↓Bm,↓Bl,↓Bj,↓Bk,simprocAttr];refine FM ⟨.inr rfl,?_⟩;simp only[Eu,go_sem,↓Bt,↓Bs,↓Br,↓Bq,↓Bu,↓Bm,↓Bl,↓Bj,↓Bk,simprocAttr,Tryz.f43]
theorem Z5 (A:Key->Option O) (cs:List C) (hne:cs≠[]):Cc (X0 gl) 64 [.d (.slice 8 (.int .u64)) (.slice cs)] A (.sr (.l 7) [] 0 cs.length none 8 (.int .u64)) [(.l 7,.box (.d (.arr cs.length (.int .u64)) (.agg cs)))]:=by
 refine Jw (n:=8) (ok0 gl) Tryz.func64 rfl rfl (by simp) ?_;intro A' hA;refine CX (Cz (ok0 gl) [] (by kernel_rfl) ?_);simp only[go_sem,↓Bt,↓Bs,↓Br,↓Bq,↓Bu,↓Bm,↓Bl,↓Bj,↓Bk,simprocAttr];cases cs with
 |nil=>exact absurd rfl hne|cons c cs=>
  refine CX (CX (Cz (ok0 gl) [] (by kernel_rfl) ?_));simp only[go_sem,↓Bt,↓Bs,↓Br,↓Bq,↓Bu,↓Bm,↓Bl,↓Bj,↓Bk,simprocAttr];refine LC _ rfl (fun h=>by simp at h) (fun _=>Gp ?_);refine CX (Cz (ok0 gl) [(7,3)] (by kernel_rfl) ?_);simp only[go_sem,↓Bt,↓Bs,↓Br,↓Bq,↓Bu,↓Bm,↓Bl,↓Bj,↓Bk,simprocAttr];refine FM ⟨.inr rfl,?_⟩;simp only[Eu,go_sem,↓Bt,↓Bs,↓Br,↓Bq,↓Bu,↓Bm,↓Bl,↓Bj,↓Bk,simprocAttr,Tryz.f64] <;> try rfl
theorem Z0 (A:Key->Option O) (cs:List C):Cc (X0 gl) 67 [.d (.slice 32 (.arr 32 (.int .u8))) (.slice cs)] A (.ts 32 (.arr 32 (.int .u8)) cs) []:=by
 refine Jw (n:=8) (ok0 gl) Tryz.func67 rfl rfl (by simp) ?_;intro A' hA;refine CX (Cz (ok0 gl) [] (by kernel_rfl) ?_);simp only[go_sem,↓Bt,↓Bs,↓Br,↓Bq,↓Bu,↓Bm,↓Bl,↓Bj,↓Bk,simprocAttr];refine CX (CX (Cz (ok0 gl) [] (by kernel_rfl) ?_));cases cs with
 |nil=>
  simp only[go_sem,↓Bt,↓Bs,↓Br,↓Bq,↓Bu,↓Bm,↓Bl,↓Bj,↓Bk,simprocAttr];refine Qv rfl ?_ (Gp ?_);{refine CX (Cz (ok0 gl) [] (by kernel_rfl) ?_);simp only[go_sem,↓Bt,↓Bs,↓Br,↓Bq,↓Bu,↓Bm,↓Bl,↓Bj,↓Bk,simprocAttr];refine FM ⟨.inr rfl,?_⟩;simp only[Eu,go_sem,↓Bt,↓Bs,↓Br,↓Bq,↓Bu,↓Bm,↓Bl,↓Bj,↓Bk,simprocAttr,Tryz.f67]};{refine CX (Cz (ok0 gl) [] (by kernel_rfl) ?_);simp only[go_sem,↓Bt,↓Bs,↓Br,↓Bq,↓Bu,↓Bm,↓Bl,↓Bj,↓Bk,simprocAttr];refine FM ⟨.inr rfl,?_⟩;simp only[Eu,go_sem,↓Bt,↓Bs,↓Br,↓Bq,↓Bu,↓Bm,↓Bl,↓Bj,↓Bk,simprocAttr,Tryz.f67]}
 |cons c cs=>
  simp only[go_sem,↓Bt,↓Bs,↓Br,↓Bq,↓Bu,↓Bm,↓Bl,↓Bj,↓Bk,simprocAttr];refine LC _ rfl (fun h=>by simp at h) (fun _=>Gp ?_);refine CX (Cz (ok0 gl) [] (by kernel_rfl) ?_);simp only[go_sem,↓Bt,↓Bs,↓Br,↓Bq,↓Bu,↓Bm,↓Bl,↓Bj,↓Bk,simprocAttr];refine FM ⟨.inr rfl,?_⟩;simp only[Eu,go_sem,↓Bt,↓Bs,↓Br,↓Bq,↓Bu,↓Bm,↓Bl,↓Bj,↓Bk,simprocAttr,Tryz.f67]
theorem Q9 (A:Key->Option O) (cs:List C):Cc (X0 gl) 83 [.d (.slice 64 Cl) (.slice cs)] A (.ts 64 Cl cs) []:=by
 refine Jw (n:=8) (ok0 gl) Tryz.func83 rfl rfl (by simp) ?_;intro A' hA;refine CX (Cz (ok0 gl) [] (by kernel_rfl) ?_);simp only[go_sem,↓Bt,↓Bs,↓Br,↓Bq,↓Bu,↓Bm,↓Bl,↓Bj,↓Bk,simprocAttr];refine CX (CX (Cz (ok0 gl) [] (by kernel_rfl) ?_));cases cs with
 |nil=>
  simp only[go_sem,↓Bt,↓Bs,↓Br,↓Bq,↓Bu,↓Bm,↓Bl,↓Bj,↓Bk,simprocAttr];refine Qv rfl ?_ (Gp ?_);{refine CX (Cz (ok0 gl) [] (by kernel_rfl) ?_);simp only[go_sem,↓Bt,↓Bs,↓Br,↓Bq,↓Bu,↓Bm,↓Bl,↓Bj,↓Bk,simprocAttr];refine FM ⟨.inr rfl,?_⟩;simp only[Eu,go_sem,↓Bt,↓Bs,↓Br,↓Bq,↓Bu,↓Bm,↓Bl,↓Bj,↓Bk,simprocAttr,Tryz.f83]};{refine CX (Cz (ok0 gl) [] (by kernel_rfl) ?_);simp only[go_sem,↓Bt,↓Bs,↓Br,↓Bq,↓Bu,↓Bm,↓Bl,↓Bj,↓Bk,simprocAttr];refine FM ⟨.inr rfl,?_⟩;simp only[Eu,go_sem,↓Bt,↓Bs,↓Br,↓Bq,↓Bu,↓Bm,↓Bl,↓Bj,↓Bk,simprocAttr,Tryz.f83]}
 |cons c cs=>
  simp only[go_sem,↓Bt,↓Bs,↓Br,↓Bq,↓Bu,↓Bm,↓Bl,↓Bj,↓Bk,simprocAttr];refine LC _ rfl (fun h=>by simp at h) (fun _=>Gp ?_);refine CX (Cz (ok0 gl) [] (by kernel_rfl) ?_);simp only[go_sem,↓Bt,↓Bs,↓Br,↓Bq,↓Bu,↓Bm,↓Bl,↓Bj,↓Bk,simprocAttr];refine FM ⟨.inr rfl,?_⟩;simp only[Eu,go_sem,↓Bt,↓Bs,↓Br,↓Bq,↓Bu,↓Bm,↓Bl,↓Bj,↓Bk,simprocAttr,Tryz.f83]
theorem Z4 (A:Key->Option O) (cs:List C):Cc (X0 gl) 78 [.d (.slice 24 Dq) (.slice cs)] A (.ts 24 Dq cs) []:=by
 refine Jw (n:=8) (ok0 gl) Tryz.func78 rfl rfl (by simp) ?_;intro A' hA;refine CX (Cz (ok0 gl) [] (by kernel_rfl) ?_);simp only[go_sem,↓Bt,↓Bs,↓Br,↓Bq,↓Bu,↓Bm,↓Bl,↓Bj,↓Bk,simprocAttr];refine CX (CX (Cz (ok0 gl) [] (by kernel_rfl) ?_));cases cs with
 |nil=>
  simp only[go_sem,↓Bt,↓Bs,↓Br,↓Bq,↓Bu,↓Bm,↓Bl,↓Bj,↓Bk,simprocAttr];refine Qv rfl ?_ (Gp ?_);{refine CX (Cz (ok0 gl) [] (by kernel_rfl) ?_);simp only[go_sem,↓Bt,↓Bs,↓Br,↓Bq,↓Bu,↓Bm,↓Bl,↓Bj,↓Bk,simprocAttr];refine FM ⟨.inr rfl,?_⟩;simp only[Eu,go_sem,↓Bt,↓Bs,↓Br,↓Bq,↓Bu,↓Bm,↓Bl,↓Bj,↓Bk,simprocAttr,Tryz.f78]};{refine CX (Cz (ok0 gl) [] (by kernel_rfl) ?_);simp only[go_sem,↓Bt,↓Bs,↓Br,↓Bq,↓Bu,↓Bm,↓Bl,↓Bj,↓Bk,simprocAttr];refine FM ⟨.inr rfl,?_⟩;simp only[Eu,go_sem,↓Bt,↓Bs,↓Br,↓Bq,↓Bu,↓Bm,↓Bl,↓Bj,↓Bk,simprocAttr,Tryz.f78]}
 |cons c cs=>
  simp only[go_sem,↓Bt,↓Bs,↓Br,↓Bq,↓Bu,↓Bm,↓Bl,↓Bj,↓Bk,simprocAttr];refine LC _ rfl (fun h=>by simp at h) (fun _=>Gp ?_);refine CX (Cz (ok0 gl) [] (by kernel_rfl) ?_);simp only[go_sem,↓Bt,↓Bs,↓Br,↓Bq,↓Bu,↓Bm,↓Bl,↓Bj,↓Bk,simprocAttr];refine FM ⟨.inr rfl,?_⟩;simp only[Eu,go_sem,↓Bt,↓Bs,↓Br,↓Bq,↓Bu,↓Bm,↓Bl,↓Bj,↓Bk,simprocAttr,Tryz.f78]
theorem Z6 (A:Key->Option O) (cs:List C):Cc (X0 gl) 55 [.d (.slice 112 Fy) (.slice cs)] A (.ts 112 Fy cs) []:=by
 refine Jw (n:=8) (ok0 gl) Tryz.func55 rfl rfl (by simp) ?_;intro A' hA;refine CX (Cz (ok0 gl) [] (by kernel_rfl) ?_);simp only[go_sem,↓Bt,↓Bs,↓Br,↓Bq,↓Bu,↓Bm,↓Bl,↓Bj,↓Bk,simprocAttr];refine CX (CX (Cz (ok0 gl) [] (by kernel_rfl) ?_));cases cs with
 |nil=>
  simp only[go_sem,↓Bt,↓Bs,↓Br,↓Bq,↓Bu,↓Bm,↓Bl,↓Bj,↓Bk,simprocAttr];refine Qv rfl ?_ (Gp ?_);{refine CX (Cz (ok0 gl) [] (by kernel_rfl) ?_);simp only[go_sem,↓Bt,↓Bs,↓Br,↓Bq,↓Bu,↓Bm,↓Bl,↓Bj,↓Bk,simprocAttr];refine FM ⟨.inr rfl,?_⟩;simp only[Eu,go_sem,↓Bt,↓Bs,↓Br,↓Bq,↓Bu,↓Bm,↓Bl,↓Bj,↓Bk,simprocAttr,Tryz.f55]};{refine CX (Cz (ok0 gl) [] (by kernel_rfl) ?_);simp only[go_sem,↓Bt,↓Bs,↓Br,↓Bq,↓Bu,↓Bm,↓Bl,↓Bj,↓Bk,simprocAttr];refine FM ⟨.inr rfl,?_⟩;simp only[Eu,go_sem,↓Bt,↓Bs,↓Br,↓Bq,↓Bu,↓Bm,↓Bl,↓Bj,↓Bk,simprocAttr,Tryz.f55]}
 |cons c cs=>
  simp only[go_sem,↓Bt,↓Bs,↓Br,↓Bq,↓Bu,↓Bm,↓Bl,↓Bj,↓Bk,simprocAttr];refine LC _ rfl (fun h=>by simp at h) (fun _=>Gp ?_);refine CX (Cz (ok0 gl) [] (by kernel_rfl) ?_);simp only[go_sem,↓Bt,↓Bs,↓Br,↓Bq,↓Bu,↓Bm,↓Bl,↓Bj,↓Bk,simprocAttr];refine FM ⟨.inr rfl,?_⟩;simp only[Eu,go_sem,↓Bt,↓Bs,↓Br,↓Bq,↓Bu,↓Bm,↓Bl,↓Bj,↓Bk,simprocAttr,Tryz.f55]
theorem Z2 (A:Key->Option O) (cs:List C) (hne:cs≠[]):Cc (X0 gl) 71 [.d (.slice 40 AU) (.slice cs)] A (.sr (.l 7) [] 0 cs.length none 40 AU) [(.l 7,.box (.d (.arr cs.length AU) (.agg cs)))]:=by
 refine Jw (n:=8) (ok0 gl) Tryz.func71 rfl rfl (by simp) ?_;intro A' hA;refine CX (Cz (ok0 gl) [] (by kernel_rfl) ?_);simp only[go_sem,↓Bt,↓Bs,↓Br,↓Bq,↓Bu,↓Bm,↓Bl,↓Bj,↓Bk,simprocAttr];cases cs with
 |nil=>exact absurd rfl hne|cons c cs=>
  refine CX (CX (Cz (ok0 gl) [] (by kernel_rfl) ?_));simp only[go_sem,↓Bt,↓Bs,↓Br,↓Bq,↓Bu,↓Bm,↓Bl,↓Bj,↓Bk,simprocAttr];refine LC _ rfl (fun h=>by simp at h) (fun _=>Gp ?_);refine CX (Cz (ok0 gl) [(7,3)] (by kernel_rfl) ?_);simp only[go_sem,↓Bt,↓Bs,↓Br,↓Bq,↓Bu,↓Bm,↓Bl,↓Bj,↓Bk,simprocAttr];refine FM ⟨.inr rfl,?_⟩;simp only[Eu,go_sem,↓Bt,↓Bs,↓Br,↓Bq,↓Bu,↓Bm,↓Bl,↓Bj,↓Bk,simprocAttr,Tryz.f71] <;> try rfl
end
section
variable {gl:Nat->Option (Ty × C)}
theorem v9 (a b:C):Nu (X0 gl) 100 [.d (.int .u64) a,.d (.int .u64) b,.d (.int .u64) (.int 0)] (.tup [.d (.int .u64) (.int ((a.toInt+b.toInt)%18446744073709551616)),.d (.int .u64) (.int ((a.toInt+b.toInt) / 18446744073709551616))]):=by
 intro Γ w args hl hr;have hs:args.size=3:=hl.symm;obtain⟨e1,_,l1,m1⟩:=EP (hr 0 _ _ rfl (dy (by omega)));obtain⟨e2,_,l2,m2⟩:=EP (hr 1 _ _ rfl (dy (by omega)));obtain⟨e3,_,_,_⟩:=EP (hr 2 _ _ rfl (dy (by omega)));have ea:args=#[.int .u64 a.toInt,.int .u64 b.toInt,.int .u64 0]:=by
  apply vt;{simpa using hs}
  ·intro i h1 h2
   match i with
   |0=>simpa using e1|1=>simpa using e2|2=>simpa[ar]using e3|i+3=>omega
 have z:IntKind.u64.min=0:=by decide
 have z':IntKind.u64.max=18446744073709551615:=by decide
 refine⟨.tuple #[.int .u64 ((a.toInt+b.toInt)%18446744073709551616),.int .u64 ((a.toInt+b.toInt) / 18446744073709551616)],?_,#[_,_],rfl,?_⟩;{have zc:=run_callFunc_extern (P:=(X0 gl).P) (f:=100) (fn:=Tryz.f100) (e:=add64Entry) Tryz.func100 (by decide) rfl (by kernel_rfl) (by kernel_rfl) args w;rw[zc,ea,run_add64 _ _ _ (by omega) (by omega) (by omega) (by omega)];simp}
 ·refine Sm rfl fun i x u hx hu=>?_
  match i with
  |0=>simp at hx hu;subst hx;subst hu;exact⟨rfl,Dx (by omega) (by omega)⟩|1=>simp at hx hu;subst hx;subst hu;exact⟨rfl,Dx (by omega) (by omega)⟩|i+2=>simp at hx
end
def KM:List (Nat × Ty × C)->Nat->Option (Ty × C)
 | [],_=>none|(i,x)::l,g=>bif dc g i then some x else KM l g
theorem pS {gl:Nat->Option (Ty × C)}:∀{l:List (Nat × Ty × C)},l.map (fun p=>gl p.1)=l.map (fun p=>some p.2)->∀g x,KM l g=some x->gl g=some x
 | [],_,g,x,h=>by cases h
 |(i,y)::l,h0,g,x,h=>by
  simp only[dt,List.cons.injEq]at h0;simp only[KM]at h;cases hb:dc g i with
  |true=>
   rw[hb,cond_true]at h;cases h;rw[Nat.eq_of_beq_eq_true hb];exact h0.1
  |false=>
   rw[hb,cond_false]at h;exact pS h0.2 g x h
def Yr:List (Nat × Ty × C):=
 (0,.arr 18 Fb,.agg JV)::
 []
def gl0:Nat->Option (Ty × C):=KM Yr
theorem gf0:GF gl0:=rfl
theorem q1z (gl:Nat->Option (Ty × C)) (h:Yr.map (fun p=>gl p.1)=Yr.map (fun p=>some p.2)):∀g x,gl0 g=some x->gl g=some x:=pS h
def XK:List V->Option V:=fun xs=>match xs with| [.d (.int .u64) a,.d (.int .u64) b,.d (.int .u64) (.int c)]=>if c=0 then some (.tup [.d (.int .u64) (.int ((a.toInt+b.toInt)%18446744073709551616)),.d (.int .u64) (.int ((a.toInt+b.toInt) / 18446744073709551616))])else none|_=>none
def YS:List (Nat × (List V->Option V)):=[]
 ++[(100,XK)]
def Mj:EU:=UW YS
theorem q03 (gl:Nat->Option (Ty × C)):Kq (X0 gl) YS:=by
 unfold YS
 repeat' refine Kq.append ?_ ⟨?_,trivial⟩
 ·exact trivial
 ·intro xs v h;have h:XK xs=some v:=h;show Nu (X0 gl) 100 xs v;unfold XK at h;split at h;{simp only[ba,Option.some.injEq]at h;obtain⟨rfl,rfl⟩:=h;exact v9 _ _};{cases h}
theorem YT (gl:Nat->Option (Ty × C)):Ig (X0 gl) Mj:=lP (q03 gl)
def noX:FuncId->Nat->List (Nat × Nat):=fun _ _=>[]
def j8 (_:Nat) {R:Type}:OvG R:=MX 1 (.int .u8)
theorem Xh (N:Nat) {R:Type}:GOk (X0 gl0) 43 (j8 N (R:=R)):=Qj fun A cs=>Q8 A cs
def g9 (_:Nat) {R:Type}:OvG R:=MX 32 (.arr 32 (.int .u8))
theorem c5 (N:Nat) {R:Type}:GOk (X0 gl0) 67 (g9 N (R:=R)):=Qj fun A cs=>Z0 A cs
def j9 (_:Nat) {R:Type}:OvG R:=MX 64 Cl
theorem g8 (N:Nat) {R:Type}:GOk (X0 gl0) 83 (j9 N (R:=R)):=Qj fun A cs=>Q9 A cs
def Xi (_:Nat) {R:Type}:OvG R:=fun xs _ K=>match xs with| [.d (.slice eb e) (.slice (c::cs))]=>if eb=8/\e= .int .u64 then K (.sr (.l 7) [] 0 (c::cs).length none 8 (.int .u64)) [(.l 7,.box (.d (.arr (c::cs).length (.int .u64)) (.agg (c::cs))))]else none|_=>none
theorem Q0 (N:Nat) {R:Type}:GOk (X0 gl0) 64 (Xi N (R:=R)):=by intro xs A Kr r hr;unfold Xi at hr;split at hr;{simp only[ba]at hr;obtain⟨⟨rfl,rfl⟩,hr⟩:=hr;exact⟨_,_,Z5 A _ (by simp),hr⟩};{cases hr}
def c6 (_:Nat) {R:Type}:OvG R:=MX 24 Dq
theorem c9 (N:Nat) {R:Type}:GOk (X0 gl0) 78 (c6 N (R:=R)):=Qj fun A cs=>Z4 A cs
def Q1 (_:Nat) {R:Type}:OvG R:=MX 112 Fy
theorem Q2 (N:Nat) {R:Type}:GOk (X0 gl0) 55 (Q1 N (R:=R)):=Qj fun A cs=>Z6 A cs
def W64 (a:Int):Prop:=0<=a/\a<18446744073709551616
theorem wrap_u8 (x:Int):IntKind.u8.wrap x=x%256:=by simp[au,IntKind.bits,IntKind.signed]
theorem wrap_i64 {n:Int} (h: -9223372036854775808<=n) (h2:n<9223372036854775808):IntKind.i64.wrap n=n:=im _ (by omega)
theorem Ez {l:List C} {i:Nat} (h:i<l.length):l.getD i .nil∈l:=by rw[bq,bp h];exact vz h
section
variable {gl:Nat->Option (Ty × C)}
def FI (p:List C):Nat->Nat->List Nat->Int × List Nat
 |0,_,bs=>(0,bs)|f+1,i,bs=>if i<p.length then(if DD p i=0 then FI p f (i+1+Dh (bN p i)) (bs++[i])else(DD p i,bs))else(0,bs)
def Hk (p:List C) (i:Nat):Bool:=decide (bN p i=11)||decide (bN p i=12)
def toN (p:List C) (i:Nat):Int:=FE p (i+1) (Dh (bN p i))
def GG (p:List C) (bs:List Nat):List C:=(bs.filter (Hk p)).map fun i=>.int (toN p i)
def GB (bs:List Nat) (c:C):C:=.bool (bs.any fun j=>decide (c=bf (j:Int)))
def Df (p:List C):Int:=
 if 256<p.length then 1 else if(FI p p.length 0 []).1≠0 then(FI p p.length 0 []).1 else
  if(GG p (FI p p.length 0 []).2).all (fun c=>(GB (FI p p.length 0 []).2 c).toBool)then 0 else 10
theorem wJ {p:List C} {i:Nat} {bs:List Nat} {r:Int × List Nat} (hi:i<p.length) (h:FI p (p.length-i) i bs=r):
  (DD p i≠0->r=(DD p i,bs))/\(DD p i=0->i+1+Dh (bN p i)<=p.length/\FI p (p.length-(i+1+Dh (bN p i))) (i+1+Dh (bN p i)) (bs++[i])=r):=by
 have mono:∀(f g j:Nat) (bs:List Nat),p.length-j<=f->p.length-j<=g->FI p f j bs=FI p g j bs:=by
  intro f
  induction f with
  |zero=>
   intro g j bs h1 h2;cases g with
   |zero=>rfl|succ g=>simp only[FI];rw[if_neg (by omega)]
  |succ f ih=>
   intro g j bs h1 h2;cases g with
   |zero=>simp only[FI];rw[if_neg (by omega)]|succ g=>
    simp only[FI];split;{split;{exact ih _ _ _ (by omega) (by omega)};{rfl}};{rfl}
 obtain⟨f,hf⟩:∃f,p.length-i=f+1:=⟨p.length-i-1,by omega⟩;rw[hf]at h;simp only[FI]at h;rw[if_pos hi]at h;refine⟨fun he=>?_,fun he=>⟨?_,?_⟩⟩;{rw[if_neg he]at h;exact h.symm};{unfold DD at he;rw[if_neg (by omega)]at he;split at he;{simp at he};{split at he;{simp at he};{omega}}};{rw[if_pos he]at h;rw[<-h];exact mono _ _ _ _ (by omega) (by omega)}
theorem wH {p:List C} {i:Nat} {bs:List Nat} (hi:p.length<=i):FI p (p.length-i) i bs=(0,bs):=by rw[show p.length-i=0 by omega];rfl
theorem q2R (p:List C) (bs:List Nat) (i:Nat):GG p (bs++[i])=if Hk p i=true then GG p bs++[.int (toN p i)]else GG p bs:=by unfold GG;rw[List.filter_append];by_cases h:Hk p i=true;{rw[if_pos h];simp[h]};{rw[if_neg h];simp[h]}
theorem q2Q (p:List C) (bs:List Nat):(GG p bs).length<=bs.length:=by unfold GG;rw[fq];exact List.length_filter_le _ _
end
abbrev GA {R:Type} (f:C->KD R->Option R):(Nat->C)->KD R->Option R:=fun a=>f (a 0)
abbrev Ef {R:Type} (f:C->C->KD R->Option R):(Nat->C)->KD R->Option R:=fun a=>f (a 0) (a 1)
abbrev Jq {R:Type} (f:C->C->C->KD R->Option R):(Nat->C)->KD R->Option R:=fun a=>f (a 0) (a 1) (a 2)
def DS (t:Ty) {R:Type}:(Nat->C)->(V->List (Key × O)->Option R)->KD R:=fun _ K d _=>K (V.d t (dk d 0)) []
def Ml {R:Type}:(Nat->C)->(V->List (Key × O)->Option R)->KD R:=fun _ K d _=>K (V.d dq (df (dg (dk d 0)))) []
def Cr (a:List Nat) (b:List (Nat × Sh)):Hint:=⟨a,b,[],[],[],[]⟩
def Ct (b:List (Nat × Sh)):Hint:=⟨[],b,[],[],[],[]⟩
abbrev okX (f:Nat) {R:Type} (g:OvG R):Prop:=GOk (X0 gl0) f g
def BS:OvS (X0 gl0):=⟨fun _=>[],fun _ _ h=>nomatch h⟩
def Ap {f:FuncId} {g:(R:Type)->OvG R} (h:∀{R:Type},GOk (X0 gl0) f (g R)) (o:OvS (X0 gl0)):OvS (X0 gl0):=⟨fun R=>(f,g R)::o.g R,fun R=>List.forall_mem_cons.2 ⟨h,o.ok R⟩⟩
def TF {α:Type} (l:List (Nat × List α)) (f:Nat):List α:=(E.look l f).getD []
def dY (l:List (Nat × List (Nat × List (Nat × Nat)))) (f r:Nat):List (Nat × Nat):=TF (TF l f) r
def Tx:List Ty->Nat->(Nat->C)->List V
 | [],_,_=>[]|t::ts,i,a=>.d t (a i)::Tx ts (i+1) a
def Mc:List Ty->List V->Option (List C)
 | [],[]=>some []|t::ts,.d u c::xs=>if u=t then(match Mc ts xs with|some cs=>some (c::cs)|none=>none)else none|_,_=>none
theorem jD:∀(ts:List Ty) (xs:List V) (cs:List C) (i:Nat) (a:Nat->C),Mc ts xs=some cs->(∀j,j<cs.length->a (i+j)=cs.getD j .nil)->xs=Tx ts i a
 | [],[],_,_,_,_,_=>rfl|t::ts,.d u c::xs,cs,i,a,h,ha=>by
  simp only[Mc]at h;split at h
  ·split at h
   ·rename_i hu _ cs' hcs;cases h;subst hu;have h0:=ha 0 (Nat.zero_lt_succ _);have ih:=jD ts xs cs' (i+1) a hcs fun j hj=>by have:=ha (j+1) (Nat.succ_lt_succ hj);rw[show i+1+j=i+(j+1) by omega,this];rfl
    show _=V.d u (a i)::_;rw[<-ih,show a i=c from h0]
   ·cases h
  ·cases h
def CA {R:Type} (ts:List Ty) (P:(Nat->C)->KD R->Option R) (F:(Nat->C)->(V->List (Key × O)->Option R)->KD R):OvG R:=fun xs _ K=>match Mc ts xs with|some cs=>P (dk cs) (F (dk cs) K)|none=>none
theorem jC {R:Type} {ts:List Ty} {P P0:(Nat->C)->KD R->Option R} {F:(Nat->C)->(V->List (Key × O)->Option R)->KD R} {f:Nat} (o:OvS (X0 gl0)) (N n m:Nat) (tb:List (Nat × List (Nat × List (Nat × Nat)))) (hs:List (Nat × Hints)) (e:∀a k,P a k=P0 a k)
  (h:∀a K,exF (X0 gl0) (o.ov R) Mj (dY tb) (TF hs) N n m f (Tx ts 0 a) A0 K=jn (F a K) (P0 a):=by intros;kernel_rfl):GOk (X0 gl0) f (CA ts P F):=by
 intro xs A Kr r hr;unfold CA at hr;split at hr;{rename_i cs hcs;rw[e,<-AW (F (dk cs) Kr) (P0 (dk cs)),<-h]at hr;rw[jD ts xs cs 0 (dk cs) hcs fun j _=>by rw[bh];rfl];obtain⟨v,L,h1,h2⟩:=UR (ok0 gl0) (mo gl0) (o.aW _) (YT gl0) _ _ _ _ _ _ hr;exact⟨v,L,h1.mono (oV fun _=>rfl),h2⟩};{cases hr}
theorem Cg {R:Type} {ts:List Ty} {P P0:(Nat->C)->KD R->Option R} {F:(Nat->C)->(V->List (Key × O)->Option R)->KD R} {f:Nat} (o:OvS (X0 gl0)) (N:Nat) (tb:List (Nat × List (Nat × List (Nat × Nat)))) (hs:List (Nat × Hints)) (e:∀a k,P a k=P0 a k)
  (h:∀a K,exF (X0 gl0) (o.ov R) Mj (dY tb) (TF hs) N 400 8 f (Tx ts 0 a) A0 K=jn (F a K) (P0 a):=by intros;kernel_rfl):GOk (X0 gl0) f (CA ts P F):=jC o N 400 8 tb hs e h
def DA {R:Type} (sa:List Sh) (os:List (Key × OSh)) (P:List C->List Es->KD R->Option R) (F:List C->List Es->(V->List (Key × O)->Option R)->KD R):OvG R:=Vn sa os fun ds ms K=>P ds ms (F ds ms K)
theorem DF {R:Type} {sa:List Sh} {os:List (Key × OSh)} {P P0:List C->List Es->KD R->Option R} {F:List C->List Es->(V->List (Key × O)->Option R)->KD R} {f:Nat} (o:OvS (X0 gl0)) (N:Nat) (tb:List (Nat × List (Nat × List (Nat × Nat)))) (hs:List (Nat × Hints)) (e:∀ds ms k,P ds ms k=P0 ds ms k)
  (h:∀ds ms K,exF (X0 gl0) (o.ov R) Mj (dY tb) (TF hs) N 400 8 f (Sh.Ej sa 0 ds) (AY (CW os (Sh.Hq sa) 0 ds ms)) K=jn (F ds ms K) (P0 ds ms):=by intros;kernel_rfl):GOk (X0 gl0) f (DA sa os P F):=by
 refine tG fun ds ms K r hr=>?_;rw[e,<-AW (F ds ms K) (P0 ds ms),<-h]at hr;obtain⟨v,L,h1,h2⟩:=UR (ok0 gl0) (mo gl0) (o.aW _) (YT gl0) _ _ _ _ _ _ hr;exact⟨v,L,h1,h2⟩
def UX {R:Type} (N:Nat) (k2:KD R):KD R->KD R:=fun k3 d1 m1=>(bif decide (ar (dk d1 5)<ar (dk d1 3))then(if 0<=ar (dk d1 5)/\ar (dk d1 5)<(↑(ax (az (dk d1 2))):Int)then(k3 [dk d1 0,dk d1 1,dk d1 2,dk d1 3,bf (BR BinOp.or ay (au ay (ar (dk d1 4)*2^min (av 8) 64)) (au ay (ar (br (az (dk d1 2)) (av (ar (dk d1 5))) dh)))),bf (au bb (ar (dk d1 5)+1))] [])else none)else(k2 [dk d1 0,dk d1 1,dk d1 4] []))
def YV (a0 a1:C) (k1:KD R):Option R:=bif decide ((↑(ax (az a0)):Int)<=ar a1)then(k1 [bf 0,bf 0,bf 0,bf 9] [])else(if 0<=ar a1/\ar a1<(↑(ax (az a0)):Int)then(bif decide (18<=au bb (ar (br (az a0) (av (ar a1)) dh)))then(k1 [bf 0,bf 0,bf 0,bf 33] [])else(if 0<=au bb (ar (br (az a0) (av (ar a1)) dh))/\au bb (ar (br (az a0) (av (ar a1)) dh))<18 then(bif decide ((↑(ax (az a0)):Int)<au bb (au bb (ar a1+1)+ar (bj (bj (dv JV) (av (au bb (ar (br (az a0) (av (ar a1)) dh))))) 1)))then(k1 [bf 0,bf 0,bf 0,bf 9] [])else(if 0<=au bb (ar a1+1)/\au bb (ar a1+1)<=au bb (au bb (ar a1+1)+ar (bj (bj (dv JV) (av (au bb (ar (br (az a0) (av (ar a1)) dh))))) 1))/\au bb (au bb (ar a1+1)+ar (bj (bj (dv JV) (av (au bb (ar (br (az a0) (av (ar a1)) dh))))) 1))<=(↑(ax (az a0)):Int)then(jn (fun d1 m1=>(k1 [dk d1 0,dk d1 2,dk d1 1,bf 0] [])) (fun k2=>(BO N (UX N k2) [bf (au bb (ar (br (az a0) (av (ar a1)) dh))),bf (au bb (au bb (ar a1+1)+ar (bj (bj (dv JV) (av (au bb (ar (br (az a0) (av (ar a1)) dh))))) 1))),cg (cut (az a0) (au bb (ar a1+1)) (au bb (au bb (ar a1+1)+ar (bj (bj (dv JV) (av (au bb (ar (br (az a0) (av (ar a1)) dh))))) 1)))),bf (↑(ax (cut (az a0) (au bb (ar a1+1)) (au bb (au bb (ar a1+1)+ar (bj (bj (dv JV) (av (au bb (ar (br (az a0) (av (ar a1)) dh))))) 1))))):Int),bf 0,bf 0] [])))else none))else none))else none)
def RO:=lid "" (@YV R N)
theorem lU {R N a0 a1 k}:@RO R N a0 a1 k=YV N a0 a1 k:=by unfold RO;rw[BQ]
def q07:OvG R:=CA [.slice 1 (.int .u8),.int .i64] (Ef (RO N)) fun a K d1 m1=>K (wh
 [V.d (bm bb) (dk d1 0),V.d (bm ay) (dk d1 1),V.d (bm bb) (dk d1 2),
  V.d (bm bb) (dk d1 3)]) []
theorem q08:okX 137 (@q07 R N):=Cg BS N [] [(137,[([1,0,1,1,1,1,1,1],(Cr [4,6] [(5,.d (.int .u64))])),
  ([4,1,0,1,1,1,1,1,1],(Cr [4,6,36,37] [(5,.d (.int .u64)),(38,.d (.int .i64))])),
  ([9],(Ct [(4,.d (.int .i64)),(5,.d (.int .u64)),(6,.d (.int .i64)),(7,.d (.int .i64))]))])] (fun _ _=>lU)
def Zx {R:Type} (N:Nat) (a0:C) (k1:KD R):Option R:=bif decide (ar a0=1)then(k1 [bf 8] [])else(jn (fun d1 m1=>(bif dg (dk d1 1)then(k1 [bf 1] [])else(jn (fun d2 m2=>(bif dg (dk d2 0)then(k1 [bf 2] [])else(k1 [bf 0] []))) (fun k2=>(bif decide (ar (dk d1 0)=11)then(k2 [HQ (df (decide (ar (dk d1 0)=11))) true] [])else(k2 [df (decide (ar (dk d1 0)=12))] [])))))) (fun k2=>(bif decide (ar a0=2)then(k2 [a0,HQ (df (decide (ar a0=2))) true] [])else(k2 [a0,df (decide (ar a0=16))] []))))
def NN:=lid "" (@Zx R N)
theorem qR {R N a0 k}:@NN R N a0 k=Zx N a0 k:=by unfold NN;rw[BQ]
def q3Y:OvG R:=CA [.int .i64] (GA (NN N)) (DS (bm bb))
theorem qQ:okX 130 (@q3Y R N):=Cg BS N [] [(130,[([1,0,3,1,4,1,0,1],(Cr [3] [(6,.d .bool)])),
  ([1,0,3,1,3,1,4,1,0,1],(Ct [(9,.d .bool)])),
  ([9],(Ct [(2,.d (.int .i64))]))])] (fun _ _=>qR)
def Vg (k2:KD R):KD R->KD R:=fun k3 d2 m2=>(NN N (dk d2 2) (fun d3 m3=>(bif decide (ar (dk d2 4)<ar (dk d3 0))then(if 0<=au bb (au bb (ar (dk d2 1)+1)+ar (dk d2 4))/\au bb (au bb (ar (dk d2 1)+1)+ar (dk d2 4))<(↑(ax (az (dk d2 0))):Int)then(k3 [dk d2 0,dk d2 1,dk d2 2,bf (au ay (au ay (ar (dk d2 3)*256)+au ay (ar (br (az (dk d2 0)) (av (au bb (au bb (ar (dk d2 1)+1)+ar (dk d2 4)))) dh)))),bf (au bb (ar (dk d2 4)+1))] [])else none)else(k2 [dk d2 2,dk d2 3] []))))
def aU (a0 a1:C) (k1:KD R):Option R:=bif decide ((↑(ax (az a0)):Int)<=ar a1)then(k1 [bf 0,bf 0,bf 9] [])else(if 0<=ar a1/\ar a1<(↑(ax (az a0)):Int)then(bif decide (17<au bb (ar (br (az a0) (av (ar a1)) dh)))then(k1 [bf 0,bf 0,bf 33] [])else(NN N (bf (au bb (ar (br (az a0) (av (ar a1)) dh)))) (fun d1 m1=>(bif decide ((↑(ax (az a0)):Int)<au bb (au bb (ar a1+1)+ar (dk d1 0)))then(k1 [bf 0,bf 0,bf 9] [])else(jn (fun d2 m2=>(k1 [dk d2 0,dk d2 1,bf 0] [])) (fun k2=>(BO N (Vg N k2) [a0,a1,bf (au bb (ar (br (az a0) (av (ar a1)) dh))),bf 0,bf 0] [])))))))else none)
def Pg:=lid "" (@aU R N)
theorem sG {R N a0 a1 k}:@Pg R N a0 a1 k=aU N a0 a1 k:=by unfold Pg;rw[BQ]
def q4O:OvG R:=CA [.slice 1 (.int .u8),.int .i64] (Ef (Pg N)) fun a K d1 m1=>K (wh [V.d (bm bb) (dk d1 0),V.d (bm ay) (dk d1 1),V.d (bm bb) (dk d1 2)]) []
theorem q4P:okX 129 (@q4O R N):=Cg (Ap (qQ N) <| BS) N [] [(129,[([1,0,1,1,1,1,1,1],(Cr [7] [(8,.d (.int .u64))])),
  ([4,1,0,1,1,1,1,1,1],(Cr [0,1,7] [(8,.d (.int .u64)),(9,.d (.int .i64))])),
  ([9],(Ct [(4,.d (.int .i64)),(5,.d (.int .u64)),(6,.d (.int .i64))]))])] (fun _ _=>sG)
section
variable {R:Type} {N:Nat}
theorem Kj {i:Nat} (h:i<4611686018427387904):IntKind.i64.wrap ((i:Int)+1)=((i+1:Nat):Int):=by rw[im _ (by omega)];omega
theorem hR {b:Int} (h0:0<=b) (h1:b<=255):IntKind.u64.wrap b=b:=by
 have m1:IntKind.u64.min=0:=by decide
 have m2:IntKind.u64.max=18446744073709551615:=by decide
 exact Nm (by omega) (by omega)
theorem AE:(∀{α:Type} {a b:α},cond true a b=a)/\(∀{α:Type} {a b:α},cond false a b=b)/\(∀{h:Decidable True},@decide True h=true)/\(∀{h:Decidable False},@decide False h=false)/\(∀{α:Type} {_:Decidable True} {a b:α},(if True then a else b)=a)/\(∀{α:Type} {_:Decidable False} {a b:α},(if False then a else b)=b)/\(!true)=false/\(!false)=true:=⟨@fun _ _ _=>rfl,@fun _ _ _=>rfl,@fun _=>decide_true _,@fun _=>decide_false _,@fun _ _ _ _=>if_pos trivial,@fun _ _ _ _=>if_neg id,rfl,rfl⟩
theorem q06 (p:List C) (hw:C.wf (.slice 1 (.int .u8)) (.slice p)) (i:Nat) (hl:p.length<=256) (hi:i<=100000) (hN:20<N) (k:KD R):RO N (.slice p) (.int i) k=
  k [.int (if DD p i=0 then bN p i else 0),.int (if DD p i=0 then FE p (i+1) (Dh (bN p i))else 0),.int (if DD p i=0 then((i+1+Dh (bN p i):Nat):Int)else 0),.int (DD p i)] []:=by
 rw[lU];unfold YV;simp only[AQ,AG];by_cases h1:p.length<=i
 ·have h1':(p.length:Int)<=(i:Int):=by omega
  have e:DD p i=9:=by unfold DD;rw[if_pos h1]
  simp only[h1',e,AE,show ¬(9:Int)=0 by decide]
 have h1':¬(p.length:Int)<=(i:Int):=by omega
 have c1:0<=(i:Int)/\(i:Int)<(p.length:Int):=by omega
 obtain⟨b1,b2,b3⟩:=MT hw (i:=i) (by omega);have w1:IntKind.i64.wrap (bN p i)=bN p i:=im _ (by omega);simp only[h1',c1,and_self,AE,bc,b1,AG,w1];by_cases h2:18<=bN p i
 ·have e:DD p i=33:=by unfold DD;rw[if_neg h1,if_pos h2]
  simp only[h2,e,AE,show ¬(33:Int)=0 by decide]
 have hm:bj (bj (dv JV) (bN p i).toNat) 1= .int (Dh (bN p i)):=by
  have:=q1i (bN p i).toNat (by omega)
  rwa [Int.toNat_of_nonneg b2]at this
 have m8:=VT (bN p i);have c2:0<=bN p i/\bN p i<18:=by omega
 simp only[h2,hm,c2,AG,and_self,AE];generalize hmm:Dh (bN p i)=m at hm m8;have w2:IntKind.i64.wrap ((i:Int)+1)=((i+1:Nat):Int):=Kj (by omega);have w3:IntKind.i64.wrap (((i+1:Nat):Int)+(m:Int))=((i+1+m:Nat):Int):=by rw[im _ (by omega)];omega
 simp only[w2,w3];by_cases h3:p.length<i+1+m
 ·have h3':(p.length:Int)<((i+1+m:Nat):Int):=by omega
  have e:DD p i=9:=by unfold DD;rw[if_neg h1,if_neg h2,hmm,if_pos h3]
  simp only[h3',e,AE,show ¬(9:Int)=0 by decide]
 have h3':¬(p.length:Int)<((i+1+m:Nat):Int):=by omega
 have e:DD p i=0:=by unfold DD;rw[if_neg h1,if_neg h2,hmm,if_neg h3]
 have c3:0<=((i+1:Nat):Int)/\((i+1:Nat):Int)<=((i+1+m:Nat):Int)/\((i+1+m:Nat):Int)<=(p.length:Int):=by omega
 have hql:(cut p ((i+1:Nat):Int) ((i+1+m:Nat):Int)).length=m:=by unfold cut;simp;omega
 have hqe:∀j,j<m->(cut p ((i+1:Nat):Int) ((i+1+m:Nat):Int)).getD j .nil= .int (bN p (i+1+j)):=by intro j hj;rw[<-(MT hw (i:=i+1+j) (by omega)).1];unfold cut;simp[bq,List.getElem?_drop,List.getElem?_take,hj]
 simp only[h3',c3,e,and_self,AE,AW];generalize cut p ((i+1:Nat):Int) ((i+1+m:Nat):Int)=q at hql hqe;rw[hql];refine(Fw (F:=UX N _) (fun j=>[.int (bN p i),.int ((i+1+m:Nat):Int),.slice q,.int m,.int (FE p (i+1) j),.int j]) (fun _=>[]) m _ (fun j hj rec=>?_) (fun rec=>?_) (N:=N) (by omega)).trans rfl
 ·obtain⟨a1,a2,a3⟩:=XR hw (i:=i+1) (k:=j) (by omega) (by omega);obtain⟨_,d2,d3⟩:=MT hw (i:=i+1+j) (by omega);have e1:(j:Int)<(m:Int):=by omega
  have e2:0<=(j:Int)/\(j:Int)<(q.length:Int):=by omega
  have e3:((2:Int)^min (av 8) 64)=256:=by decide
  have e4:IntKind.u64.wrap (FE p (i+1) j*256)=FE p (i+1) j*256:=by
   have:=a3 (by omega);have m1:IntKind.u64.min=0:=by decide
   have m2:IntKind.u64.max=18446744073709551615:=by decide
   exact Nm (by omega) (by omega)
  unfold UX;simp only[AF,AJ,AL,AP,AV,Ab,AG,AQ,e1,e2,AE,and_self,bc,hqe j hj,e3,e4,hR d2 d3,q4N a1 (a3 (by omega)) d2 d3,Kj (show j<4611686018427387904 by omega)]
  all_goals rfl
 ·unfold UX;simp only[AF,AJ,AL,AP,AV,Ab,AG,fj,AE]
  all_goals rfl
theorem VS (o:C) (k:KD R):NN N o k=k [.int (Dh o.toInt)] []:=by rw[qR];unfold Zx Dh;by_cases h1:o.toInt=1;{simp[h1]};by_cases h2:o.toInt=2;{simp[h2,AW,dk,HQ,dg]};by_cases h3:o.toInt=16;{simp[h3,AW,dk,HQ,dg]};by_cases h4:o.toInt=11;{simp[h4,AW,dk,HQ,dg]};by_cases h5:o.toInt=12 <;> simp[h1,h2,h3,h4,h5,AW,dk,HQ,dg]
theorem sE (p:List C) (hw:C.wf (.slice 1 (.int .u8)) (.slice p)) (i:Nat) (hl:p.length<=256) (hi:i<=100000) (hN:20<N) (k:KD R):Pg N (.slice p) (.int i) k=
  k [.int (if DD p i=0 then bN p i else 0),.int (if DD p i=0 then FE p (i+1) (Dh (bN p i))else 0),.int (DD p i)] []:=by
 rw[sG];unfold aU;simp only[AQ,AG];by_cases h1:p.length<=i
 ·have h1':(p.length:Int)<=(i:Int):=by omega
  have e:DD p i=9:=by unfold DD;rw[if_pos h1]
  simp only[h1',e,AE,show ¬(9:Int)=0 by decide]
 have h1':¬(p.length:Int)<=(i:Int):=by omega
 have c1:0<=(i:Int)/\(i:Int)<(p.length:Int):=by omega
 obtain⟨b1,b2,b3⟩:=MT hw (i:=i) (by omega);have w1:IntKind.i64.wrap (bN p i)=bN p i:=im _ (by omega);simp only[h1',c1,and_self,AE,bc,b1,AG,w1];by_cases h2:18<=bN p i
 ·have e:DD p i=33:=by unfold DD;rw[if_neg h1,if_pos h2]
  have h2':17<bN p i:=by omega
  simp only[h2',e,AE,show ¬(33:Int)=0 by decide]
 have h2':¬17<bN p i:=by omega
 have m8:=VT (bN p i);obtain⟨m,hmm⟩:∃m,Dh (bN p i)=m:=⟨_,rfl⟩;rw[hmm]at m8;simp only[h2',AE,VS,AF,AG,hmm];have w2:IntKind.i64.wrap ((i:Int)+1)=((i+1:Nat):Int):=Kj (by omega);have w3:IntKind.i64.wrap (((i+1:Nat):Int)+(m:Int))=((i+1+m:Nat):Int):=by rw[im _ (by omega)];omega
 simp only[w2,w3];by_cases h3:p.length<i+1+m
 ·have h3':(p.length:Int)<((i+1+m:Nat):Int):=by omega
  have e:DD p i=9:=by unfold DD;rw[if_neg h1,if_neg h2,hmm,if_pos h3]
  simp only[h3',e,AE,show ¬(9:Int)=0 by decide]
 have h3':¬(p.length:Int)<((i+1+m:Nat):Int):=by omega
 have e:DD p i=0:=by unfold DD;rw[if_neg h1,if_neg h2,hmm,if_neg h3]
 simp only[h3',e,AE,AW];refine(Fw (F:=Vg N _) (fun j=>[.slice p,.int i,.int (bN p i),.int (FE p (i+1) j),.int j]) (fun _=>[]) m _ (fun j hj rec=>?_) (fun rec=>?_) (N:=N) (by omega)).trans rfl
 ·obtain⟨a1,a2,a3⟩:=XR hw (i:=i+1) (k:=j) (by omega) (by omega);obtain⟨d1,d2,d3⟩:=MT hw (i:=i+1+j) (by omega);have a4:=a3 (by omega);have m1:IntKind.u64.min=0:=by decide
  have m2:IntKind.u64.max=18446744073709551615:=by decide
  have e1:(j:Int)<(m:Int):=by omega
  have w4:IntKind.i64.wrap (((i+1:Nat):Int)+(j:Int))=((i+1+j:Nat):Int):=by rw[im _ (by omega)];omega
  have e2:0<=((i+1+j:Nat):Int)/\((i+1+j:Nat):Int)<(p.length:Int):=by omega
  have e4:IntKind.u64.wrap (FE p (i+1) j*256)=FE p (i+1) j*256:=Nm (by omega) (by omega);have e5:IntKind.u64.wrap (FE p (i+1) j*256+bN p (i+1+j))=FE p (i+1) j*256+bN p (i+1+j):=Nm (by omega) (by omega);unfold Vg;simp only[AF,AJ,AL,AP,AV,AG,AQ,VS,hmm,w2,w4,e1,e2,AE,and_self,bc,d1,e4,hR d2 d3,e5,Kj (show j<4611686018427387904 by omega)]
  all_goals rfl
 ·unfold Vg;simp only[AF,AJ,AL,AP,AV,AG,VS,hmm,fj,AE]
  all_goals rfl
end
def gA {R:Type} (c:C) (x:Option R):Option R:=if ax (az c)=ax (az c)then x else none
def gM {R:Type} (t:Ty) (m:Es) (x:Option R):Option R:=if HK t (dE t m)=true then x else none
def nI (c:C):C:=bf (↑(av (ar c)):Int)
theorem AB:(∀{R:Type} {c:C} {x:Option R},gA c x=x)/\(∀{R:Type} {t:Ty} {m:Es} {x:Option R},gM t m x=x)/\(∀{c:C},nI c=bf (↑(av (ar c)):Int)):=⟨fun{_ _ _}=>if_pos rfl,fun{_ t m _}=>if_pos (Ag t m),fun{_}=>rfl⟩
def Xd {R:Type} (N:Nat) (k1:KD R) (k2:KD R):KD R->KD R:=fun k3 d2 m2=>(bif decide (ar (dk d2 2)<ar (dk d2 1))then(if 0<=ar (dk d2 2)/\ar (dk d2 2)<(↑(ax (az (dk d2 0))):Int)then(bif EF dq (dE dq (dm m2 0))then(bif Ir (dE dq (dm m2 0)) (br (az (dk d2 0)) (av (ar (dk d2 2))) dh)then(bif !dg (LK (dE dq (dm m2 0)) (br (az (dk d2 0)) (av (ar (dk d2 2))) dh))then(k1 [bf 10] [])else(gM dq (dm m2 0) (k3 [dk d2 0,dk d2 1,bf (au bb (ar (dk d2 2)+1))] [unE (dE dq (dm m2 0))])))else(k1 [bf 10] []))else none)else none)else(k2 [] []))
def Xe (k1:KD R) (k2:KD R):KD R->KD R:=fun k3 d1 m1=>(bif decide (ar (dk d1 2)<(↑(ax (az (dk d1 0))):Int))then(RO N (dk d1 0) (dk d1 2) (fun d2 m2=>(bif !decide (ar (dk d2 3)=0)then(k1 [dk d2 3] [])else(jn (fun d3 m3=>(jn (fun d4 m4=>(bif dc (ax (az (dk d4 2))) (ax (az (dk d4 2)))then(gM dq (dm m4 0) (k3 [dk d4 0,cg (az (dk d4 2)),dk d4 1] [unE (dE dq (dm m4 0))]))else none)) (fun k4=>(bif dg (dk d3 4)then(bif dc (ax (az (dk d3 3))) (ax (az (dk d3 3)))then(if(ax (az (dk d3 3))+1)*8<=140737488355328/\ax (az (dk d3 3))+1<=9223372036854775807 then(bif dc (ax (az (dk d3 3))+1) (ax (az (dk d3 3)++[dk d3 1]))then(gM dq (dm m3 0) (k4 [dk d3 0,dk d3 2,cg (az (dk d3 3)++[dk d3 1])] [unE (dE dq (dm m3 0))]))else none)else none)else none)else(bif dc (ax (az (dk d3 3))) (ax (az (dk d3 3)))then(gM dq (dm m3 0) (k4 [dk d3 0,dk d3 2,cg (az (dk d3 3))] [unE (dE dq (dm m3 0))]))else none))))) (fun k4=>(bif decide (ar (dk d2 0)=11)then(bif dc (ax (az (dk d1 1))) (ax (az (dk d1 1)))then(if HK dq (Ge (dE dq (dm m1 0)) (bf (au ay (ar (dk d1 2)))) (V.d dq (df true)))=true then(k4 [dk d1 0,dk d2 1,dk d2 2,cg (az (dk d1 1)),df true] [unE (Ge (dE dq (dm m1 0)) (bf (au ay (ar (dk d1 2)))) (V.d dq (df true)))])else none)else none)else(bif dc (ax (az (dk d1 1))) (ax (az (dk d1 1)))then(if HK dq (Ge (dE dq (dm m1 0)) (bf (au ay (ar (dk d1 2)))) (V.d dq (df true)))=true then(k4 [dk d1 0,dk d2 1,dk d2 2,cg (az (dk d1 1)),df (decide (ar (dk d2 0)=12))] [unE (Ge (dE dq (dm m1 0)) (bf (au ay (ar (dk d1 2)))) (V.d dq (df true)))])else none)else none)))))))else(bif dc (ax (az (dk d1 1))) (ax (az (dk d1 1)))then(gM dq (dm m1 0) (k2 [cg (az (dk d1 1))] [unE (dE dq (dm m1 0))]))else none))
def Xf (a0:C) (k1:KD R):Option R:=bif decide (256<(↑(ax (az a0)):Int))then(k1 [bf 1] [])else(jn (fun d1 m1=>(jn (fun d2 m2=>(k1 [bf 0] [])) (fun k2=>(gM dq (dm m1 0) (BO N (Xd N k1 k2) [cg (az (dk d1 0)),bf (↑(ax (az (dk d1 0))):Int),bf 0] [unE (dE dq (dm m1 0))]))))) (fun k2=>(BO N (Xe N k1 k2) [a0,cg [],bf 0] [unE []])))
def Tn:=lid "" (@Xf R N)
theorem iJ {R N a0 k}:@Tn R N a0 k=Xf N a0 k:=by unfold Tn;rw[BQ]
def Xc:OvG R:=CA [.slice 1 (.int .u8)] (GA (Tn N)) (DS (bm bb))
theorem k9:okX 120 (@Xc R N):=Cg (Ap (q08 N) <| BS) N [] [(120,[([1,0,1,1,1,1],(Cr [3] [(4,.sl 8 (.int .u64) 5004)])),
  ([4,1,0,1,1,1,1],(Cr [0,3] [(4,.sl 8 (.int .u64) 5004),(5,.d (.int .i64))])),
  ([0,0,1,1,1,4,1,5,4,1,0,1,1,1,1],(Cr [0,3,7,8] [(4,.sl 8 (.int .u64) 5004),(39,.d .bool)])),
  ([1,0,1,1,1,4,1,5,4,1,0,1,1,1,1],(Cr [0,3,8] [(4,.sl 8 (.int .u64) 5004)])),
  ([1,0,1,1,1,1,1],(Ct [])),
  ([4,1,0,1,1,1,1,1],(Cr [3,45,46] [(47,.d (.int .i64))])),
  ([9],(Ct [(2,.d (.int .i64))]))])] (fun _ _=>iJ)
def SR (a0:C) (k1:KD R) (k2:KD R):KD R->KD R:=fun k3 d2 m2=>(bif decide (ar (dk d2 4)<(↑(ax (az (dk d2 0))):Int))then(jn (fun d3 m3=>(if bu (av (↑(ax (az a0)):Int)) dq=bu (av (↑(ax (az a0)):Int)) dq then(k3 [dk d3 0,nI (dk d3 1),nI (dk d3 2),nI (dk d3 3),bf (au bb (ar (dk d3 4)+1)),dk d3 5] [])else none)) (fun k4=>(jn (fun d3 m3=>(bif dg (dk d3 5)then(if bu (av (↑(ax (az a0)):Int)) dq=bu (av (↑(ax (az a0)):Int)) dq then(k4 [dk d3 0,nI (dk d3 1),nI (dk d3 2),nI (dk d3 3),dk d3 4,dk d3 6] [])else none)else(Pg N (dk d3 0) (dk d3 4) (fun d4 m4=>(jn (fun d5 m5=>(bif dg (dk d5 5)then(k1 [bf 10] [])else(if bu (av (↑(ax (az a0)):Int)) dq=bu (av (↑(ax (az a0)):Int)) dq then(k4 [dk d5 0,nI (dk d5 1),nI (dk d5 2),nI (dk d5 3),dk d5 4,dk d5 6] [])else none))) (fun k5=>(bif decide (au ay (↑(ax (az (dk d3 0))):Int)<=ar (dk d4 1))then(if bu (av (↑(ax (az a0)):Int)) dq=bu (av (↑(ax (az a0)):Int)) dq then(k5 [dk d3 0,nI (dk d3 1),nI (dk d3 2),nI (dk d3 3),dk d3 4,df true,dk d3 6] [])else none)else(if 0<=ar (dk d4 1)/\ar (dk d4 1)<(↑(av (ar (dk d3 2))):Int)then(if bu (av (↑(ax (az a0)):Int)) dq=bu (av (↑(ax (az a0)):Int)) dq then(k5 [dk d3 0,nI (dk d3 1),nI (dk d3 2),nI (dk d3 3),dk d3 4,df !dg (bj (dk d3 6) (av (ar (dk d3 1))+av (ar (dk d4 1)))),dk d3 6] [])else none)else none)))))))) (fun k5=>(if 0<=ar (dk d2 4)/\ar (dk d2 4)<(↑(av (ar (dk d2 2))):Int)then(bif !dg (bj (dk d2 5) (av (ar (dk d2 1))+av (ar (dk d2 4))))then(if bu (av (↑(ax (az a0)):Int)) dq=bu (av (↑(ax (az a0)):Int)) dq then(k5 [dk d2 0,nI (dk d2 1),nI (dk d2 2),nI (dk d2 3),dk d2 4,df true,dk d2 5] [])else none)else(if 0<=ar (dk d2 4)/\ar (dk d2 4)<(↑(ax (az (dk d2 0))):Int)then(bif !decide (ar (br (az (dk d2 0)) (av (ar (dk d2 4))) dh)=11)then(if 0<=ar (dk d2 4)/\ar (dk d2 4)<(↑(ax (az (dk d2 0))):Int)then(if bu (av (↑(ax (az a0)):Int)) dq=bu (av (↑(ax (az a0)):Int)) dq then(k5 [dk d2 0,nI (dk d2 1),nI (dk d2 2),nI (dk d2 3),dk d2 4,df !decide (ar (br (az (dk d2 0)) (av (ar (dk d2 4))) dh)=12),dk d2 5] [])else none)else none)else(if bu (av (↑(ax (az a0)):Int)) dq=bu (av (↑(ax (az a0)):Int)) dq then(k5 [dk d2 0,nI (dk d2 1),nI (dk d2 2),nI (dk d2 3),dk d2 4,df false,dk d2 5] [])else none))else none))else none)))))else(k2 [] []))
def bG (a0:C) (k1:KD R) (k2:KD R):KD R->KD R:=fun k3 d1 m1=>(bif decide (ar (dk d1 4)<(↑(ax (az (dk d1 0))):Int))then(Pg N (dk d1 0) (dk d1 4) (fun d2 m2=>(bif !decide (ar (dk d2 2)=0)then(k1 [dk d2 2] [])else(if 0<=ar (dk d1 4)/\ar (dk d1 4)<(↑(av (ar (dk d1 2))):Int)then(NN N (dk d2 0) (fun d3 m3=>(if bu (av (↑(ax (az a0)):Int)) dq=bu (av (↑(ax (az a0)):Int)) dq then(k3 [dk d1 0,nI (dk d1 1),nI (dk d1 2),nI (dk d1 3),bf (au bb (au bb (ar (dk d1 4)+1)+ar (dk d3 0))),cm (dk d1 5) (av (ar (dk d1 1))+av (ar (dk d1 4))) (df true)] [])else none)))else none))))else(if bu (av (↑(ax (az a0)):Int)) dq=bu (av (↑(ax (az a0)):Int)) dq then(k2 [dk d1 0,nI (dk d1 1),nI (dk d1 2),nI (dk d1 3),dk d1 5] [])else none))
def bH (a0:C) (k1:KD R):Option R:=bif decide (256<(↑(ax (az a0)):Int))then(k1 [bf 1] [])else(if 0<=(↑(ax (az a0)):Int)/\(↑(ax (az a0)):Int)<=(↑(ax (az a0)):Int)/\(↑(ax (az a0)):Int)<=9223372036854775807/\av (↑(ax (az a0)):Int)*1<=140737488355328 then(jn (fun d1 m1=>(jn (fun d2 m2=>(k1 [bf 0] [])) (fun k2=>(if bu (av (↑(ax (az a0)):Int)) dq=bu (av (↑(ax (az a0)):Int)) dq then(BO N (SR N a0 k1 k2) [dk d1 0,nI (dk d1 1),nI (dk d1 2),nI (dk d1 3),bf 0,dk d1 4] [])else none)))) (fun k2=>(if bu (av (↑(ax (az a0)):Int)) dq=bu (av (↑(ax (az a0)):Int)) dq then(BO N (bG N a0 k1 k2) [a0,bf 0,bf (↑(av (↑(ax (az a0)):Int)):Int),bf (↑(av (↑(ax (az a0)):Int)):Int),bf 0,dv (bw (av (↑(ax (az a0)):Int)) (AH dq))] [])else none)))else none)
def Vr:=lid "" (@bH R N)
theorem tQ {R N a0 k}:@Vr R N a0 k=bH N a0 k:=by unfold Vr;rw[BQ]
def bF:OvG R:=CA [.slice 1 (.int .u8)] (GA (Vr N)) (DS (bm bb))
theorem q5t:okX 113 (@bF R N):=Cg (Ap (q4P N) <| Ap (qQ N) <| BS) N [] [(113,[([0,1,1,1,1],(Cr [0,3] [])),
  ([4,0,1,1,1,1],(Cr [0,3] [(4,.d (.int .i64))])),
  ([1,0,1,1,1,1,1],(Ct [])),
  ([4,1,0,1,1,1,1,1],(Cr [0,3] [(8,.d (.int .i64))])),
  ([0,1,5,4,1,0,1,1,1,1,1],(Cr [0,3,8] [])),
  ([0,0,4,0,1,5,4,1,0,1,1,1,1,1],(Cr [0,3,8] [(64,.d .bool)])),
  ([0,1,1,4,0,1,5,4,1,0,1,1,1,1,1],(Cr [0,3,8] [(83,.d .bool)])),
  ([9],(Ct [(2,.d (.int .i64))]))])] (fun _ _=>tQ)
section
variable {R:Type} {N:Nat}
def bE (j:Nat):C × C:=(.int j,.bool true)
theorem gS (x:C) (j:Nat):C.beq x (.int j)=decide (x= .int (j:Int)):=by rw[Bool.eq_iff_iff,C.beq_iff,decide_eq_true_eq]
theorem Yu (c:C):∀bs:List Nat,FY (bs.map bE) c=(GB bs c).toBool
 | []=>rfl|j::bs=>by have ih:=Yu c bs;simp only[GB,dg]at ih;simp only[dt,bE,FY,GB,dg,List.any_cons,gS];rw[ih];cases decide (c= .int (j:Int)) <;> rfl
theorem mR (c:C):∀bs:List Nat,FY (bs.map bE) c=true->getM (bs.map bE) c= .bool true
 | [],h=>by cases h
 |j::bs,h=>by have ih:=mR c bs;simp only[dt,bE,FY,getM]at ih h ⊢;cases hb:C.beq c (.int j);{rw[hb]at h;simp only[cond_false]at h ⊢;exact ih h};{rfl}
theorem Vp (i:Nat):∀bs:List Nat,i∉bs->Ge (dE dq (bs.map bE)) (.int i) (V.d dq (.bool true))=dE dq ((bs++[i]).map bE)
 | [],_=>rfl|j::bs,h=>by
  have ih:=Vp i bs fun x=>h (List.mem_cons_of_mem _ x);have e:C.beq (.int (i:Int)) (.int (j:Int))=false:=by rw[gS,decide_eq_false_iff_not];intro x;injection x with x;exact h (by rw[show i=j by omega];exact List.mem_cons_self)
  simp only[dE,dt,List.map_append,bE,Ge,List.cons_append]at ih ⊢;rw[e];simp only[fi,if_false];rw[ih]
theorem QV {i:Nat} (h:i<=100000):IntKind.u64.wrap (i:Int)=i:=by
 have m1:IntKind.u64.min=0:=by decide
 have m2:IntKind.u64.max=18446744073709551615:=by decide
 exact Nm (by omega) (by omega)
theorem OX (m:Es):dm [m] 0=m:=rfl
theorem iL {p:List C} (h0:¬256<p.length) {bs:List Nat} (h:(0,bs)=FI p p.length 0 []):Df p=if(GG p bs).all (fun c=>(GB bs c).toBool)then 0 else 10:=by unfold Df;rw[if_neg h0,<-h,if_neg (by simp)]
theorem iK {p:List C} (h0:¬256<p.length) {bs:List Nat} {e:Int} (he:e≠0) (h:FI p p.length 0 []=(e,bs)):Df p=e:=by unfold Df;rw[if_neg h0,h,if_pos he]
theorem k8 (p:List C) (hw:C.wf (.slice 1 (.int .u8)) (.slice p)) (hN:1000<N) (k:KD R):Tn N (.slice p) k=k [.int (Df p)] []:=by
 rw[iJ];unfold Xf;simp only[AQ];by_cases h0:256<p.length
 ·have h0':(256:Int)<(p.length:Int):=by omega
  have e:Df p=1:=by unfold Df;rw[if_pos h0]
  simp only[h0',e,AE]
 have h0':¬(256:Int)<(p.length:Int):=by omega
 simp only[h0',AE,AW,AB]
 refine LX (F:=Xe N k _) (fun x:Nat × List Nat=>[.slice p,.slice (GG p x.2),.int x.1]) (fun x=>[x.2.map bE]) (fun x=>p.length-x.1)
  (fun x=>x.1<=p.length/\x.2.length<=x.1/\(∀j∈x.2,j<x.1)/\FI p (p.length-x.1) x.1 x.2=FI p p.length 0 []) (fun _=>k [.int (Df p)] []) ?_ N (0,[]) ⟨dr _,bx _,(fun _ h=>nomatch h),rfl⟩ (by show p.length-0<N;omega)
 rintro⟨i,bs⟩ ⟨hi,hb,hj,hS⟩ rec zp;dsimp only at hi hb hj hS zp;have hln:=q2Q p bs;unfold Xe;by_cases hlt:i<p.length
 ·have z6N:(i:Int)<(p.length:Int):=by omega
  obtain⟨s1,s2⟩:=wJ hlt hS;simp only[AF,AJ,AL,AP,AG,AQ,z6N,AE,q06 p hw i (show p.length<=256 by omega) (show i<=100000 by omega) (show 20<N by omega),AB];by_cases he:DD p i=0
  ·obtain⟨q1,q2⟩:=s2 he;have hbi:i∉bs:=fun x=>Nat.lt_irrefl _ (hj _ x)
   have hr:=zp (i+1+Dh (bN p i),bs++[i]) ⟨q1,by show(bs++[i]).length<=i+1+Dh (bN p i);simp;omega,fun j h=>by
    show j<i+1+Dh (bN p i);rcases ed.1 h with h|h;{have:=hj _ h;omega}
    ·rw[fv.1 h];omega,q2⟩ (by show p.length-(i+1+Dh (bN p i))<p.length-i;omega)
   have g1:((GG p bs).length+1)*8<=140737488355328/\(GG p bs).length+1<=9223372036854775807:=by omega
   rw[q2R]at hr;by_cases l1:bN p i=11;{rw[if_pos (by simp[Hk,l1])]at hr;simp only[he,AW,l1,OX,QV (show i<=100000 by omega),Vp i bs hbi,Ag,Ah,bo,AZ,AG,AQ,AF,AJ,AL,AP,AV,AE,g1,and_self,bt,cn,cu,bh,AB];rw[<-hr,l1];unfold toN;rw[l1]};{by_cases l2:bN p i=12;{rw[if_pos (by simp[Hk,l2])]at hr;simp only[he,AW,l2,show ¬(12:Int)=11 by decide,OX,QV (show i<=100000 by omega),Vp i bs hbi,Ag,Ah,bo,AZ,AG,AQ,AF,AJ,AL,AP,AV,AE,g1,and_self,bt,cn,cu,bh,AB];rw[<-hr,l2];unfold toN;rw[l2]};{rw[if_neg (by simp[Hk,l1,l2])]at hr;simp only[he,AW,l1,l2,OX,QV (show i<=100000 by omega),Vp i bs hbi,Ag,Ah,bo,AZ,AG,AQ,AF,AJ,AL,AP,AV,AE,hr,AB]}}
  ·rw[iK h0 he (s1 he)];simp only[he,AE]
 ·have z6N:¬(i:Int)<(p.length:Int):=by omega
  obtain rfl:i=p.length:=by omega
  rw[wH (bx _)]at hS;simp only[AF,AJ,AL,AG,AQ,z6N,AE,bo,OX,Ag,Ah,AB];rw[iL h0 hS];generalize hL:GG p bs=L at hln
  refine LX (F:=Xd N k _) (fun j:Nat=>[.slice L,.int L.length,.int j]) (fun _=>[bs.map bE]) (fun j=>L.length-j) (fun j=>j<=L.length/\∀c∈L.take j,(GB bs c).toBool=true)
   (fun _=>k [.int (if L.all (fun c=>(GB bs c).toBool)then 0 else 10)] []) ?_ N 0 ⟨dr _,fun _ h=>by simp at h⟩ (by show L.length-0<N;omega)
  rintro j ⟨hj1,yr⟩ z7w z7x;unfold Xd;by_cases hjl:j<L.length
  ·have e1:(j:Int)<(L.length:Int):=by omega
   have e2:0<=(j:Int)/\(j:Int)<(L.length:Int):=by omega
   have z7Q:L.getD j .nil∈L:=by rw[bq,bp hjl];exact vz hjl
   by_cases hin:(GB bs (L.getD j .nil)).toBool=true
   ·have hh:FY (bs.map bE) (L.getD j .nil)=true:=(Yu _ _).trans hin
    have:=z7x (j+1) ⟨hjl,fun c hc=>by
     rw[List.take_add_one,ed]at hc;rcases hc with hc|hc;{exact yr c hc}
     ·rw[bp hjl]at hc;simp only[Option.toList_some,fv]at hc;subst hc;rw[bq,bp hjl]at hin;exact hin⟩ (by omega)
    simp only[AF,AJ,AL,AG,AQ,e1,e2,AE,and_self,OX,BU,PE,mP,bc,hh,mR _ _ hh,AZ,Ag,Ah,Kj (show j<4611686018427387904 by omega),this,AB]
   ·have hh:FY (bs.map bE) (L.getD j .nil)=false:=(Yu _ _).trans (by simpa using hin);have er:L.all (fun c=>(GB bs c).toBool)=false:=by cases h:L.all (fun c=>(GB bs c).toBool);{rfl};{exact absurd (dw.1 h _ z7Q) hin}
    simp only[AF,AJ,AL,AG,AQ,e1,e2,AE,and_self,OX,BU,PE,bc,hh,er,fi,AB]
  ·have e1:¬(j:Int)<(L.length:Int):=by omega
   rw[List.take_of_length_le (by omega)]at yr;have er:L.all (fun c=>(GB bs c).toBool)=true:=by rw[dw];exact yr
   simp only[AJ,AL,AG,e1,AE,er,AB]
end
section
variable {R:Type} {N:Nat}
def Gu (bs:List Nat) (n:Nat):List C:=(List.range n).map fun j=>.bool (decide (j∈bs))
theorem q1e {bs:List Nat} {n i:Nat} (h:i<n):(Gu bs n).getD i .nil= .bool (decide (i∈bs)):=by simp[Gu,bq,h]
theorem q1g (bs:List Nat) (n i:Nat):(Gu bs n).set i (.bool true)=Gu (bs++[i]) n:=by
 apply List.ext_getElem?;intro j;simp only[Gu,List.getElem?_set,fq,List.length_range,List.getElem?_map];by_cases hj:j<n;{rw[List.getElem?_range hj];by_cases e:i=j;{subst e;simp[hj]};{have e':¬j=i:=fun h=>e h.symm;simp[e,e']}}
 ·have h1:(List.range n)[j]? =none:=by simp;omega
  rw[h1];split;{rename_i e;subst e;rw[if_neg hj];rfl};{rfl}
theorem q1f (n:Nat):Gu [] n=bw n (.bool false):=by simp[Gu,List.map_const']
theorem gQ (bs:List Nat) (x:Int):(GB bs (.int x)).toBool=true↔∃j∈bs,x=(j:Int):=by simp[GB,dg]
theorem gB (p:List C) (bs:List Nat):(GG p bs).all (fun c=>(GB bs c).toBool)=true↔∀j∈bs,Hk p j=true->∃j'∈bs,toN p j=(j':Int):=by rw[dw];unfold GG;constructor;{intro h j hj hl;exact(gQ _ _).1 (h _ (mb.2 ⟨j,mr.2 ⟨hj,hl⟩,rfl⟩))};{intro h c hc;obtain⟨j,hj,rfl⟩:=mb.1 hc;obtain⟨a,b⟩:=mr.1 hj;exact(gQ _ _).2 (h j a b)}
theorem q5s (p:List C) (hw:C.wf (.slice 1 (.int .u8)) (.slice p)) (hN:1000<N) (k:KD R):Vr N (.slice p) k=k [.int (Df p)] []:=by
 have hz:((0:Nat):Int)=0:=rfl;have t0:av 0=0:=rfl;rw[tQ];unfold bH;simp only[AQ];by_cases h0:256<p.length
 ·have h0':(256:Int)<(p.length:Int):=by omega
  have e:Df p=1:=by unfold Df;rw[if_pos h0]
  simp only[h0',e,AE]
 have h0':¬(256:Int)<(p.length:Int):=by omega
 have g0:0<=(p.length:Int)/\(p.length:Int)<=(p.length:Int)/\(p.length:Int)<=9223372036854775807/\av (p.length:Int)*1<=140737488355328:=by omega
 have g2:p.length*1<=140737488355328:=by omega
 simp only[h0',AE,g0,g2,and_self,eq_self,AW,bc,AB];rw[show AH dq= .bool false from rfl,<-q1f]
 refine LX (F:=bG N (.slice p) k _) (fun x:Nat × List Nat=>[.slice p,.int 0,.int p.length,.int p.length,.int x.1,.agg (Gu x.2 p.length)]) (fun _=>[]) (fun x=>p.length-x.1)
  (fun x=>x.1<=p.length/\(∀j∈x.2,j<x.1/\DD p j=0)/\FI p (p.length-x.1) x.1 x.2=FI p p.length 0 []) (fun _=>k [.int (Df p)] []) ?_ N (0,[]) ⟨dr _,(fun _ h=>nomatch h),rfl⟩ (by show p.length-0<N;omega)
 rintro⟨i,bs⟩ ⟨hi,hj,hS⟩ rec zp;dsimp only at hi hj hS zp;unfold bG;by_cases hlt:i<p.length
 ·have z6N:(i:Int)<(p.length:Int):=by omega
  obtain⟨s1,s2⟩:=wJ hlt hS;simp only[AF,AJ,AL,AP,AV,Ab,AG,AQ,z6N,AE,sE p hw i (show p.length<=256 by omega) (show i<=100000 by omega) (show 20<N by omega),AB];by_cases he:DD p i=0
  ·obtain⟨q1,q2⟩:=s2 he
   have hr:=zp (i+1+Dh (bN p i),bs++[i]) ⟨q1,(fun j h=>by
    show j<i+1+Dh (bN p i)/\DD p j=0;rcases ed.1 h with h|h;{have:=hj _ h;exact⟨by omega,this.2⟩}
    ·rw[fv.1 h];exact⟨by omega,he⟩),q2⟩ (by show p.length-(i+1+Dh (bN p i))<p.length-i;omega)
   have m8:=VT (bN p i);have w3:IntKind.i64.wrap (((i+1:Nat):Int)+(Dh (bN p i):Int))=((i+1+Dh (bN p i):Nat):Int):=by rw[im _ (by omega)];omega
   have g1:0<=(i:Int)/\(i:Int)<(p.length:Int):=by omega
   have zj:cm (dv (Gu bs p.length)) i (df true)=dv (Gu (bs++[i]) p.length):=congrArg dv (q1g bs p.length i);simp only[he,AE,bc,g1,and_self,eq_self,VS,AF,AG,t0,hz,bh,Kj (show i<4611686018427387904 by omega),w3,zj,hr,AB]
  ·rw[iK h0 he (s1 he)];simp only[he,AE]
 ·have z6N:¬(i:Int)<(p.length:Int):=by omega
  obtain rfl:i=p.length:=by omega
  rw[wH (bx _)]at hS;simp only[AF,AJ,AL,AP,AV,Ab,AG,AQ,z6N,AE,eq_self,bc,t0,hz,AB];rw[iL h0 hS]
  refine LX (F:=SR N (.slice p) k _) (fun i:Nat=>[.slice p,.int 0,.int p.length,.int p.length,.int i,.agg (Gu bs p.length)]) (fun _=>[]) (fun i=>p.length-i)
   (fun i=>i<=p.length/\∀j∈bs,j<i->Hk p j=true->∃j'∈bs,toN p j=(j':Int)) (fun _=>k [.int (if(GG p bs).all (fun c=>(GB bs c).toBool)then 0 else 10)] []) ?_ N 0 ⟨dr _,fun _ _ h=>by omega⟩ (by show p.length-0<N;omega)
  rintro i ⟨hi1,yr⟩ z7w z7x;unfold SR;by_cases hil:i<p.length
  case neg=>
   have e1:¬(i:Int)<(p.length:Int):=by omega
   rw[if_pos ((gB p bs).2 fun j hb hl=>yr j hb (by have:=(hj j hb).1;omega) hl)];simp only[AF,AV,AG,AQ,e1,AE,AB]
  have e1:(i:Int)<(p.length:Int):=by omega
  have g1:0<=(i:Int)/\(i:Int)<(p.length:Int):=by omega
  have hg:∀j,j<p.length->bj (dv (Gu bs p.length)) j= .bool (decide (j∈bs)):=fun j h=>q1e h
  have next:(i∈bs->Hk p i=true->∃j'∈bs,toN p i=(j':Int))->z7w [.slice p,.int 0,.int p.length,.int p.length,.int ((i+1:Nat):Int),.agg (Gu bs p.length)] []=k [.int (if(GG p bs).all (fun c=>(GB bs c).toBool)then 0 else 10)] []:=fun h=>
   z7x (i+1) ⟨hil,fun j hb hji hl=>by
    by_cases e:j=i;{subst e;exact h hb hl}
    ·exact yr j hb (by omega) hl⟩ (by omega)
  by_cases hin:i∈bs
  case neg=>
   have:=next fun h=>absurd h hin
   simp only[AW,AF,AJ,AL,AP,AV,Ab,Af,AG,AQ,AZ,e1,g1,AE,and_self,bc,t0,hz,bh,hg i hil,hin,eq_self,Kj (show i<4611686018427387904 by omega),this,AB]
  obtain⟨b1,b2,b3⟩:=MT hw hil;by_cases hl:Hk p i=true
  case neg=>
   have l1:¬bN p i=11:=fun h=>hl (by simp[Hk,h]);have l2:¬bN p i=12:=fun h=>hl (by simp[Hk,h]);have:=next fun _ h=>absurd h hl
   simp only[AW,AF,AJ,AL,AP,AV,Ab,Af,AG,AQ,AZ,e1,g1,AE,and_self,bc,t0,hz,bh,hg i hil,hin,b1,l1,l2,eq_self,Kj (show i<4611686018427387904 by omega),this,AB]
  have he:=(hj i hin).2;have ht:0<=toN p i:=by
   unfold toN;have e:=he;unfold DD at e;have:i+1+Dh (bN p i)<=p.length:=by split at e;{simp at e};{split at e;{simp at e};{split at e;{simp at e};{omega}}}
   exact(XR hw this (VT _)).1
  have key:SR N (.slice p) k (fun _ _=>k [.int 0] []) z7w [.slice p,.int 0,.int p.length,.int p.length,.int i,.agg (Gu bs p.length)] []=
    if toN p i<p.length/\(toN p i).toNat∈bs then z7w [.slice p,.int 0,.int p.length,.int p.length,.int ((i+1:Nat):Int),.agg (Gu bs p.length)] []else k [.int 10] []:=by
   unfold SR;have ho:=fun k:KD R=>sE p hw i (show p.length<=256 by omega) (show i<=100000 by omega) (show 20<N by omega) k;simp only[he,if_true,AB]at ho;rw[show FE p (i+1) (Dh (bN p i))=toN p i from rfl]at ho;have l12:bN p i=11\/bN p i=12:=by simpa[Hk]using hl
   have d12:¬(12:Int)=11:=by decide
   by_cases c1:(p.length:Int)<=toN p i
   ·have c2:¬(toN p i<(p.length:Int)/\(toN p i).toNat∈bs):=by omega
    rcases l12 with l|l <;> simp only[AW,AF,AJ,AL,AP,AV,Ab,Af,AG,AQ,AZ,e1,g1,AE,and_self,bc,t0,hz,bh,hg i hil,hin,b1,l,d12,eq_self,ho,QV (show p.length<=100000 by omega),c1,c2,AB]
   ·have c2:0<=toN p i/\toN p i<(p.length:Int):=by omega
    have c3:=hg (toN p i).toNat (by omega);by_cases c4:(toN p i).toNat∈bs;{rcases l12 with l|l <;> simp only[AW,AF,AJ,AL,AP,AV,Ab,Af,AG,AQ,AZ,e1,g1,AE,and_self,bc,t0,hz,bh,hg i hil,hin,b1,l,d12,eq_self,ho,QV (show p.length<=100000 by omega),c1,c2,c3,c4,Kj (show i<4611686018427387904 by omega),AB]};{rcases l12 with l|l <;> simp only[AW,AF,AJ,AL,AP,AV,Ab,Af,AG,AQ,AZ,e1,g1,AE,and_self,and_false,bc,t0,hz,bh,hg i hil,hin,b1,l,d12,eq_self,ho,QV (show p.length<=100000 by omega),c1,c2,c3,c4,AB]}
  refine key.trans ?_;by_cases c:toN p i<p.length/\(toN p i).toNat∈bs;{rw[if_pos c];exact next fun _ _=>⟨_,c.2,by omega⟩}
  ·have er:¬(GG p bs).all (fun c=>(GB bs c).toBool)=true:=fun h=>c (by
    obtain⟨j',h1,h2⟩:=(gB p bs).1 h i hin hl;have:=(hj j' h1).1;exact⟨by omega,by rw[h2,bc];exact h1⟩)
   rw[if_neg c,if_neg er]
theorem Y0 (_:GF gl0) (A:Key->Option O) (p:List C):Cc (X0 gl0) 120 [.d (.slice 1 (.int .u8)) (.slice p)] A (.d (.int .i64) (.int (Df p))) []:=by refine Xy (ts:=[.slice 1 (.int .u8)]) (cs:=[.slice p]) fun W=>?_;refine aK (k9 1001) ?_;show Xc 1001 [.d (.slice 1 (.int .u8)) (.slice p)] A kR=_;simp only[Xc,CA,Mc,and_self,if_true,AF,AJ,AL,AP,AV,GA,Ef,Jq,DS,Ml,AB];rw[k8 p (W 0 _ _ rfl rfl) (by omega)];rfl
theorem q6a (A:Key->Option O) (p:List C):Cc (X0 gl0) 113 [.d (.slice 1 (.int .u8)) (.slice p)] A (.d (.int .i64) (.int (Df p))) []:=by refine Xy (ts:=[.slice 1 (.int .u8)]) (cs:=[.slice p]) fun W=>?_;refine aK (q5t 1001) ?_;show bF 1001 [.d (.slice 1 (.int .u8)) (.slice p)] A kR=_;simp only[bF,CA,Mc,and_self,if_true,AF,AJ,AL,AP,AV,GA,Ef,Jq,DS,Ml,AB];rw[q5s p (W 0 _ _ rfl rfl) (by omega)];rfl
end
theorem dM {X:Cx} {f:FuncId} {eb:Nat} {e:Ty} {c:C} {A:Key->Option O} {v:V} {L:List (Key × O)} (h:Cc X f [.d (.slice eb e) (.slice c.elems)] A v L):Cc X f [.d (.slice eb e) c] A v L:=by intro A' Γ w args hA hg hc hn hr;have hs:args.size=1:=hn.symm;have h0:AI Γ (.d (.slice eb e) c) args[0]:=hr 0 _ _ rfl (dy (by omega:0<args.size));obtain⟨h2,_⟩:=(Ci rfl rfl).1 h0;simp only[AA,AO]at h2;obtain⟨_,_,_,cs,rfl,_⟩:=h2;exact h A' Γ w args hA hg hc hn hr
def Tp {R:Type}:OvG R:=fun xs _ K=>match xs with| [.d t c]=>if t= .slice 1 (.int .u8)then K (.d (.int .i64) (.int (Df c.elems))) []else none|_=>none
def iR (_:Nat) {R:Type}:OvG R:=Tp
theorem Y1 (N:Nat) {R:Type}:GOk (X0 gl0) 120 (iR N (R:=R)):=by intro xs A Kr r hr;unfold iR Tp at hr;split at hr;{simp only[ba]at hr;obtain⟨rfl,hr⟩:=hr;exact⟨_,_,dM (Y0 gf0 A _),hr⟩};{cases hr}
def uD (_:Nat) {R:Type}:OvG R:=Tp
theorem q6b (N:Nat) {R:Type}:GOk (X0 gl0) 113 (uD N (R:=R)):=by intro xs A Kr r hr;unfold uD Tp at hr;split at hr;{simp only[ba]at hr;obtain⟨rfl,hr⟩:=hr;exact⟨_,_,dM (q6a A _),hr⟩};{cases hr}
section
variable {R:Type}
theorem nS {K:KD R} {B:KD R->Option R} (ds:List C) (ms:List Es) (h:∀k,B k=k ds ms):jn K B=K ds ms:=by rw[AW];exact h K
end
theorem iP (ad:Option Addr) (cap:Nat) (w:World):Calls Tryz.prog 71 #[.slice ad 0 cap] w fun e w'=>(∃b,e= .returned (.slice b 0 0))/\Ext w w':=by
 have hq:∀(a:Option Addr) (c:Nat) (w:World),(binOp .eql 166 (.slice a 0 c) (.slice none 0 0)).run Tryz.prog w= .ok (.bool a.isNone) w:=fun a c w=>by have hu:∃E,Tryz.prog.underlying 166=some (.slice E):=⟨212,by kernel_rfl⟩;obtain⟨E,hu⟩:=hu;simp[binOp,run_equal_slice_nil w 166 E a 0 c hu]
 cases ad
 all_goals
  go_enter Tryz.func71,Tryz.ntmps71
  go_wp2
 all_goals go_ret
 ·exact⟨⟨_,rfl⟩,Ext.refl _⟩
 ·exact⟨⟨_,rfl⟩,Ext.alloc _ _⟩
theorem Z1 (A:Key->Option O) (cs:List C):Cc (X0 gl0) 71 [.d (.slice 40 AU) (.slice cs)] A (.sr (.l 7) [] 0 cs.length none 40 AU) [(.l 7,.box (.d (.arr cs.length AU) (.agg cs)))]:=by
 cases cs with
 |cons c cs=>exact Z2 A _ (by simp)|nil=>
  intro A' Γ w args hA' hg hc hn hr;obtain⟨cc,hok⟩:=hc;have hs:args.size=1:=hn.symm;have h0:AI Γ (.d (.slice 40 AU) (.slice [])) args[0]:=hr 0 _ _ rfl (dy (by omega:0<args.size));obtain⟨h1,_⟩:=(Ci rfl rfl).1 h0;simp only[AA,AO]at h1;obtain⟨ad,n,cap,cs,e1,e2,e3,e4,e5,e6,e7⟩:=h1;cases e1;have e3:n=0:=by simpa using e3.symm
  subst e3;have ea:args=#[.slice ad 0 cap]:=by
   apply vt;{simpa using hs}
   ·intro i h1 h2
    match i with
    |0=>simpa using e2|i+1=>omega
  rw[ea];refine(iP ad cap w).mono fun e w' he=>?_;obtain⟨⟨b,he1⟩,he2⟩:=he;refine⟨_,Γ,he1,.refl Γ,?_,WM⟩;exact((cc.ext he2).fB (t:=7) (e:=AU) rfl).congr (fun _=>rfl) (fun _=>rfl) (fun _ h=>h)
def Z8:List Sh:=[.vec (.g (.l 1)) 40 AU]
def Z9:List (Key × OSh):=[(.l 1,.box (.arr AU))]
theorem Z3 (A:Key->Option O) (n M:Nat) (c:C) (h:n<=c.elems.length) (hA0:A (.l 1)=some (.box (.d (.arr M AU) c))):Cc (X0 gl0) 71 [.sr (.g (.l 1)) [] 0 n none 40 AU] A (.sr (.l 7) [] 0 n none 40 AU) [(.l 7,.box (.d (.arr n AU) (.agg (c.elems.take n))))]:=by
 rcases Nat.eq_zero_or_pos n with rfl|hn
 ·intro A' Γ w args hA' hg hc hn hr;obtain⟨cc,hok⟩:=hc;have hs:args.size=1:=hn.symm;have h0:AI Γ (.sr (.g (.l 1)) [] 0 0 none 40 AU) args[0]:=hr 0 _ _ rfl (dy (by omega:0<args.size));obtain⟨cap,ad,e2,_,_⟩:=cQ h0;have ea:args=#[.slice ad 0 cap]:=by
   apply vt;{simpa using hs}
   ·intro i h1 h2
    match i with
    |0=>simpa using e2|i+1=>omega
  rw[ea];refine(iP ad cap w).mono fun e w' he=>?_;obtain⟨⟨b,he1⟩,he2⟩:=he;refine⟨_,Γ,he1,.refl Γ,?_,WM⟩;exact((cc.ext he2).fB (t:=7) (e:=AU) rfl).congr (fun _=>rfl) (fun _=>rfl) (fun _ h=>h)
 ·generalize hgl:gl0=gl;have ht:(c.elems.take n).length=n:=by simp[h]
  have hne:¬c.elems.take n=[]:=fun h1=>by rw[h1]at ht;simp at ht;omega
  have hz:(n==0)=false:=by simp;omega
  refine Jw (n:=8) (ok0 gl) Tryz.func71 rfl rfl (by simp) ?_;intro A' hA;have ha:=hA _ _ hA0;refine CX (Cz (ok0 gl) [] (by kernel_rfl) ?_);simp only[go_sem,↓Bt,↓Bs,↓Br,↓Bq,↓Bu,↓Bm,↓Bl,↓Bj,↓Bk,simprocAttr];refine CX (CX (Cz (ok0 gl) [] (by kernel_rfl) ?_));simp only[go_sem,↓Bt,↓Bs,↓Br,↓Bq,↓Bu,↓Bm,↓Bl,↓Bj,↓Bk,simprocAttr,hz];refine LC _ rfl (fun h=>by simp at h) (fun _=>Gp ?_);refine CX (Cz (ok0 gl) [(7,3)] (by kernel_rfl) ?_);simp only[go_sem,↓Bt,↓Bs,↓Br,↓Bq,↓Bu,↓Bm,↓Bl,↓Bj,↓Bk,simprocAttr,ha,List.drop_zero,ht];refine⟨hne,?_⟩;refine FM ⟨.inr rfl,?_⟩;simp only[Eu,go_sem,↓Bt,↓Bs,↓Br,↓Bq,↓Bu,↓Bm,↓Bl,↓Bj,↓Bk,simprocAttr,Tryz.f71] <;> try rfl
def iM (_:Nat) {R:Type}:OvG R:=fun xs A K=>match xs with| [.d (.slice eb e) c]=>if eb=40/\e=AU then K (.sr (.l 7) [] 0 c.elems.length none 40 AU) [(.l 7,.box (.d (.arr c.elems.length AU) (.agg c.elems)))]else none|xs=>Vn Z8 Z9 (fun ds _ K=>if(dk ds 0).toInt.toNat<=(dk ds 1).elems.length then K (.sr (.l 7) [] 0 (dk ds 0).toInt.toNat none 40 AU) [(.l 7,.box (.d (.arr (dk ds 0).toInt.toNat AU) (.agg ((dk ds 1).elems.take (dk ds 0).toInt.toNat))))]else none) xs A K
theorem Q3 (N:Nat) {R:Type}:GOk (X0 gl0) 71 (iM N (R:=R)):=by intro xs A Kr r hr;unfold iM at hr;split at hr;{simp only[ba]at hr;obtain⟨⟨rfl,rfl⟩,hr⟩:=hr;exact⟨_,_,dM (Z1 A _),hr⟩};{refine tG (fun ds ms K r hr=>?_) _ _ _ _ hr;split at hr;{exact⟨_,_,Z3 _ _ (dk ds 1).elems.length _ ‹_› rfl,hr⟩};{cases hr}}
def q4A (_:Nat) {R:Type}:OvG R:=fun _ _ _=>none
theorem rG {f:FuncId} (N:Nat) {R:Type}:GOk (X0 gl0) f (q4A N (R:=R)):=fun _ _ _ _ hr=>nomatch hr
def Zv {R:Type} (N:Nat) (a0 a1:C) (k1:KD R):Option R:=bif !decide ((ar a0+ar a1) / 18446744073709551616=0)then(k1 [bf 0,bf 11] [])else(k1 [bf ((ar a0+ar a1)%18446744073709551616),bf 0] [])
def NM:=lid "" (@Zv R N)
theorem qN {R N a0 a1 k}:@NM R N a0 a1 k=Zv N a0 a1 k:=by unfold NM;rw[BQ]
def q3U:OvG R:=CA [.int .u64,.int .u64] (Ef (NM N)) fun a K d1 m1=>K (wh [V.d (bm ay) (dk d1 0),V.d (bm bb) (dk d1 1)]) []
theorem q3V:okX 82 (@q3U R N):=Cg BS N [] [(82,[([9],(Ct [(4,.d (.int .u64)),(5,.d (.int .i64))]))])] (fun _ _=>qN)
def Zw {R:Type} (N:Nat) (a0 a1:C) (k1:KD R):Option R:=bif decide (ar a0<ar a1)then(k1 [bf 0,bf 12] [])else(k1 [bf (au ay (ar a0-ar a1)),bf 0] [])
def PZ:=lid "" (@Zw R N)
theorem qP {R N a0 a1 k}:@PZ R N a0 a1 k=Zw N a0 a1 k:=by unfold PZ;rw[BQ]
def q3W:OvG R:=CA [.int .u64,.int .u64] (Ef (PZ N)) fun a K d1 m1=>K (wh [V.d (bm ay) (dk d1 0),V.d (bm bb) (dk d1 1)]) []
theorem qO:okX 118 (@q3W R N):=Cg BS N [] [(118,[([9],(Ct [(4,.d (.int .u64)),(5,.d (.int .i64))]))])] (fun _ _=>qP)
section
variable {R:Type} {N:Nat}
def Bh (a b:Int):Int × Int:=if(a+b) / 18446744073709551616=0 then((a+b)%18446744073709551616,0)else(0,11)
def Dp (a b:Int):Int × Int:=if a<b then(0,12)else(IntKind.u64.wrap (a-b),0)
theorem add_eq (a b:C) (k:KD R):NM N a b k=k [.int (Bh a.toInt b.toInt).1,.int (Bh a.toInt b.toInt).2] []:=by rw[qN];unfold Zv Bh;by_cases h:(a.toInt+b.toInt) / 18446744073709551616=0 <;> simp[h]
theorem sub_eq (a b:C) (k:KD R):PZ N a b k=k [.int (Dp a.toInt b.toInt).1,.int (Dp a.toInt b.toInt).2] []:=by rw[qP];unfold Zw Dp;by_cases h:a.toInt<b.toInt <;> simp[h]
theorem fR {a b:Int} (h:0<=a) (h2:0<=b) (h3:a+b<18446744073709551616):Bh a b=(a+b,0):=by unfold Bh;rw[if_pos (by omega),Int.emod_eq_of_lt (by omega) (by omega)]
theorem ag {a b:Int} (h:18446744073709551616<=a+b):Bh a b=(0,11):=by unfold Bh;rw[if_neg (by omega)]
def Jp (_:Nat) (s:Int) (c:C):Int ⊕ Int:=if(Bh s c.toInt).2=0 then .inl (Bh s c.toInt).1 else .inr (Bh s c.toInt).2
def Nk:Int ⊕ Int->Int × Int
 | .inl s=>(s,0)| .inr e=>(0,e)
def Hy (l:List C):Int × Int:=Nk (CQ Jp 0 0 l)
end
def aZ {R:Type} (N:Nat) (a0:C) (k1:KD R):Option R:=bif dc (ax (az (bj a0 4))) (ax (az (bj a0 4)))then(k1 [dv [bj a0 0,bj a0 1,bj a0 2,bj a0 3,cg (az (bj a0 4))]] [])else none
def Pj:=lid "" (@aZ R N)
theorem sX {R N a0 k}:@Pj R N a0 k=aZ N a0 k:=by unfold Pj;rw[BQ]
def q4Y:OvG R:=CA [Bp] (GA (Pj N)) (DS Bp)
theorem sW:okX 66 (@q4Y R N):=Cg (Ap (g8 N) <| BS) N [] [(66,[([9],⟨[],[(2,.as (.ptr (.l 2) [] Bp))],[],[(.l 2,.box (.d Bp))],[],[]⟩)])] (fun _ _=>sX)
def XW (a0:C) (k1:KD R):Option R:=Pj N (bj a0 8) (fun d1 m1=>(bif dc (ax (az (bj a0 3))) (ax (az (bj a0 3)))then(k1 [dv [bj a0 0,bj a0 1,bj a0 2,cg (az (bj a0 3)),bj a0 4,bj a0 5,bj a0 6,bj a0 7,dk d1 0]] [])else none))
def Qg:=lid "" (@XW R N)
theorem gW {R N a0 k}:@Qg R N a0 k=XW N a0 k:=by unfold Qg;rw[BQ]
def u5:OvG R:=CA [AR] (GA (Qg N)) (DS AR)
theorem u6:okX 122 (@u5 R N):=Cg (Ap (Xh N) <| Ap (sW N) <| BS) N [(122,[(1,[(8,7)])])] [(122,[([9],⟨[],[(2,.as (.ptr (.l 2) [] AR))],[],[(.l 2,.box (.d AR))],[],[]⟩)])] (fun _ _=>gW)
def Du:C:=dv [AH (bm cz),AH (bu 2 (bm bb)),dv [dv [dv (bw 32 (bf 0)),dv (bw 32 (bf 0))],bf 0],cg [],AH (bu 2 (bm ay)),AH (bu 2 (bm ay)),AH (bm bb),AH (bm ay),dv [AH (bm cz),AH (bm ay),AH (bu 2 (bm ay)),AH (bu 2 (bm ay)),cg []]]
def XV (a0 a1 a2:C) (k1:KD R):Option R:=jn (fun d1 m1=>(bif dg (dk d1 2)then(k1 [bf 1,Du] [])else(bif decide (ar (bj (dk d1 3) 6)=2)then(k1 [bf 31,Du] [])else(Qg N (dk d1 3) (fun d2 m2=>(if 0<=ar (dk d1 0)/\ar (dk d1 0)<2 then(NM N (bj (bj (dk d2 0) 4) (av (ar (dk d1 0)))) (dk d1 1) (fun d3 m3=>(if 0<=ar (dk d1 0)/\ar (dk d1 0)<2 then(bif !decide (ar (dk d3 1)=0)then(k1 [dk d3 1,Du] [])else(NM N (bf 0) (bj (bj (cm (dk d2 0) 4 (cm (bj (dk d2 0) 4) (av (ar (dk d1 0))) (dk d3 0))) 4) 0) (fun d4 m4=>(bif !decide (ar (dk d4 1)=0)then(bif !decide (ar (dk d4 1)=0)then(k1 [dk d4 1,Du] [])else(k1 [bf 0,cm (dk d2 0) 4 (cm (bj (dk d2 0) 4) (av (ar (dk d1 0))) (dk d3 0))] []))else(NM N (dk d4 0) (bj (bj (cm (dk d2 0) 4 (cm (bj (dk d2 0) 4) (av (ar (dk d1 0))) (dk d3 0))) 4) 1) (fun d5 m5=>(bif !decide (ar (dk d5 1)=0)then(bif !decide (ar (dk d5 1)=0)then(k1 [dk d5 1,Du] [])else(k1 [bf 0,cm (dk d2 0) 4 (cm (bj (dk d2 0) 4) (av (ar (dk d1 0))) (dk d3 0))] []))else(k1 [bf 0,cm (dk d2 0) 4 (cm (bj (dk d2 0) 4) (av (ar (dk d1 0))) (dk d3 0))] []))))))))else none)))else none)))))) (fun k2=>(bif !decide (ar a1=0)then(bif !decide (ar a1=1)then(k2 [a1,a2,df true,a0,Du] [])else(k2 [a1,a2,df (decide (ar a2=0)),a0,Du] []))else(k2 [a1,a2,df (decide (ar a2=0)),a0,Du] [])))
def OI:=lid "" (@XV R N)
theorem gV {R N a0 a1 a2 k}:@OI R N a0 a1 a2 k=XV N a0 a1 a2 k:=by unfold OI;rw[BQ]
def u3:OvG R:=CA [AR,.int .i64,.int .u64] (Jq (OI N)) fun a K d1 m1=>K (wh [V.d AR (dk d1 1),V.d (bm bb) (dk d1 0)]) []
theorem u4:okX 106 (@u3 R N):=Cg (Ap (q3V N) <| Ap (u6 N) <| BS) N [] [(106,[([0,4,0,1],(Cr [1,2,3,6] [(9,.d .bool)])),
  ([9],⟨[],[(6,.as (.ptr (.l 6) [] AR)),(7,.d (.int .i64))],[],[(.l 6,.box (.d AR))],[],[]⟩)])] (fun _ _=>gV)
section
variable {R:Type} {N:Nat}
def BZ (s:C):List C:=(s.get 4).elems
def zz:C:=.agg [.int 0,.int 0]
def SOk (s:C):Prop:=s= .agg [s.get 0,s.get 1,s.get 2,s.get 3,.slice (BZ s)]
def mkB (id who rts:C) (ym:List C) (put yz ph un yx:C):C:=.agg [id,who,rts,.slice ym,put,yz,ph,un,yx]
theorem sV {s:C} (h:SOk s) (k:KD R):Pj N s k=k [s] []:=by rw[sX];unfold aZ;simp only[bo,cond_true];exact congrArg (fun x=>k [x] []) h.symm
section
variable {id who rts:C} {ym:List C} {put yz ph un yx:C}
theorem p8 (h:SOk yx) (k:KD R):Qg N (mkB id who rts ym put yz ph un yx) k=k [mkB id who rts ym put yz ph un yx] []:=by rw[gW];unfold XW mkB;simp only[go_sem,sV h,AQ,bo,cond_true]
def zB:C:=.agg [.int 0,zz,.agg [.agg [.agg (bw 32 (.int 0)),.agg (bw 32 (.int 0))],.int 0],.slice [],zz,zz,.int 0,.int 0,.agg [.int 0,.int 0,zz,zz,.slice []]]
theorem XA:Du=zB:=rfl
def KP (id who rts:C) (ym:List C) (put yz ph un yx:C) (side yk:Int):Int × C:=
 if(side≠0/\side≠1)\/yk=0 then(1,zB)else if ph.toInt=2 then(31,zB)else
  if(Bh (put.get side.toNat).toInt yk).2≠0 then((Bh (put.get side.toNat).toInt yk).2,zB)else
   if(Hy [(put.set side.toNat (.int (Bh (put.get side.toNat).toInt yk).1)).get 0,(put.set side.toNat (.int (Bh (put.get side.toNat).toInt yk).1)).get 1]).2≠0 then((Hy [(put.set side.toNat (.int (Bh (put.get side.toNat).toInt yk).1)).get 0,(put.set side.toNat (.int (Bh (put.get side.toNat).toInt yk).1)).get 1]).2,zB)else
    (0,mkB id who rts ym (put.set side.toNat (.int (Bh (put.get side.toNat).toInt yk).1)) yz ph un yx)
theorem q30 (h:SOk yx) (side yk:C) (k:KD R):
  OI N (mkB id who rts ym put yz ph un yx) side yk k=k [.int (KP id who rts ym put yz ph un yx side.toInt yk.toInt).1,(KP id who rts ym put yz ph un yx side.toInt yk.toInt).2] []:=by
 have h6:(mkB id who rts ym put yz ph un yx).get 6=ph:=rfl;rw[gV];unfold XV KP;rw[XA]
 have e:∀K:KD R,jn K (fun K=>(bif !decide (side.toInt=0)then(bif !decide (side.toInt=1)then K [side,yk,.bool true,mkB id who rts ym put yz ph un yx,zB] []else K [side,yk,.bool (decide (yk.toInt=0)),mkB id who rts ym put yz ph un yx,zB] [])else K [side,yk,.bool (decide (yk.toInt=0)),mkB id who rts ym put yz ph un yx,zB] []))=
   K [side,yk,.bool (decide ((side.toInt≠0/\side.toInt≠1)\/yk.toInt=0)),mkB id who rts ym put yz ph un yx,zB] []:=fun K=>by
  rw[AW];by_cases h0:side.toInt=0;{simp[h0]};{by_cases h1:side.toInt=1 <;> simp[h0,h1]}
 rw[e];by_cases a1:(side.toInt≠0/\side.toInt≠1)\/yk.toInt=0;{simp only[AF,AJ,AL,AP,AZ,a1,AE,AB]};have hs:0<=side.toInt/\side.toInt<2:=by omega
 by_cases a2:ph.toInt=2;{simp only[AF,AJ,AL,AP,AZ,a1,a2,h6,AE,AB]};simp only[AF,AJ,AL,AP,AZ,AG,a1,a2,h6,AE,p8 h,hs,and_self,add_eq,AB];unfold mkB;simp only[q1r,wO,Int.toNat_zero];by_cases b1:(Bh (put.get side.toInt.toNat).toInt yk.toInt).2=0
 case neg=>simp only[b1,AE,ne_eq,not_false_iff,AB]
 have e2:∀x y:C,(Hy [x,y]).2=if(Bh 0 x.toInt).2=0 then(Bh (Bh 0 x.toInt).1 y.toInt).2 else(Bh 0 x.toInt).2:=fun x y=>by by_cases g1:(Bh 0 x.toInt).2=0;{by_cases g2:(Bh (Bh 0 x.toInt).1 y.toInt).2=0 <;> simp[Hy,CQ,Jp,Nk,g1,g2]};{simp[Hy,CQ,Jp,Nk,g1]}
 simp only[b1,e2,AE,ne_eq,not_true];by_cases b2:(Bh 0 ((put.set side.toInt.toNat (bf (Bh (put.get side.toInt.toNat).toInt yk.toInt).1)).get 0).toInt).2=0;{simp only[b2,AE,AB];by_cases b3:(Bh (Bh 0 ((put.set side.toInt.toNat (bf (Bh (put.get side.toInt.toNat).toInt yk.toInt).1)).get 0).toInt).1 ((put.set side.toInt.toNat (bf (Bh (put.get side.toInt.toNat).toInt yk.toInt).1)).get 1).toInt).2=0;{simp only[b3,AE,not_true]};{simp only[b3,AE,not_false_iff,AB]}};{simp only[b2,AE,not_false_iff,AB]}
end
end
def Vi {R:Type} (N:Nat) (a1:C) (k2:KD R) (k3:KD R):KD R->KD R:=fun k4 d1 m1=>(bif decide (ar (dk d1 2)<ar (dk d1 1))then(if 0<=ar (dk d1 2)/\ar (dk d1 2)<(↑(ax (az (dk d1 0))):Int)then(jn (fun d2 m2=>(bif dg (dk d2 0)then(k2 [dk d1 2] [])else(k4 [dk d1 0,dk d1 1,bf (au bb (ar (dk d1 2)+1))] []))) (fun k5=>(k5 [df (decide (ar (bj (br (az (dk d1 0)) (av (ar (dk d1 2))) dh) 0)=ar a1))] [])))else none)else(k3 [] []))
def aY (a0 a1:C) (k1:KD R):Option R:=jn (fun d1 m1=>(k1 [dk d1 0] [])) (fun k2=>(jn (fun d1 m1=>(k2 [bf (-1)] [])) (fun k3=>(BO N (Vi N a1 k2 k3) [bj a0 4,bf (↑(ax (az (bj a0 4))):Int),bf 0] []))))
def SF:=lid "" (@aY R N)
theorem sS {R N a0 a1 k}:@SF R N a0 a1 k=aY N a0 a1 k:=by unfold SF;rw[BQ]
def q4T:OvG R:=CA [Bp,.int .u64] (Ef (SF N)) (DS (bm bb))
theorem q4U:okX 34 (@q4T R N):=Cg BS N [(34,[(0,[(2,5)])]),(58,[(0,[(2,5)])])] [(34,[([9],(Ct [(4,.d (.int .i64))]))]),(57,[([1,0,1],⟨[],[],[],[],[.g (.l 3)],[]⟩),([4,1,0,1],⟨[0,1,7],[(8,.d (.int .i64))],[],[],[.g (.l 3)],[]⟩),([9],⟨[],[(4,.d (.int .i64))],[],[],[.g (.l 3)],[]⟩)]),(58,[([9],(Ct [(3,.d .bool)]))])] (fun _ _=>sS)
section
variable {R:Type} {N:Nat}
def Mp (side:Int) (l:List C):List C:=(l.filter fun c=>decide ((c.get 1).toInt=side)).map fun c=>c.get 2
def KF (s:C) (side:Int):Int × Int:=Hy (Mp side (BZ s))
def Wh (_:Nat) (s:Int) (c:C):Int ⊕ Int:=if(Dp s c.toInt).2=0 then .inl (Dp s c.toInt).1 else .inr (Dp s c.toInt).2
def Oy (s put:C) (side:Int):Int × Int:=
 if side≠0/\side≠1 then(0,1)else if(KF s side).2≠0 then(0,(KF s side).2)else
  if(Hy [put.get side.toNat,(s.get 2).get (1-side).toNat]).2≠0 then(0,(Hy [put.get side.toNat,(s.get 2).get (1-side).toNat]).2)else
   Nk (CQ Wh 0 (Hy [put.get side.toNat,(s.get 2).get (1-side).toNat]).1 [(s.get 2).get side.toNat,(s.get 3).get side.toNat,.int (KF s side).1])
def findF (id:Int) (i:Nat) (_:Unit) (c:C):Unit ⊕ Nat:=if(c.get 0).toInt=id then .inr i else .inl ()
def Vk:Unit ⊕ Nat->Int
 | .inl _=>-1| .inr i=>i
def Fj (s:C) (id:Int):Int:=Vk (CQ (findF id) 0 () (BZ s))
theorem find_eq (s id:C) (hl:(BZ s).length<1099511627776) (hN:2199023255552<N) (k:KD R):SF N s id k=k [.int (Fj s id.toInt)] []:=by
 rw[sS];unfold aY;rw[AW,AW];refine(LY (F:=Vi N id _ _) (fun i (_:Unit)=>[s.get 4,.int (BZ s).length,.int i]) (fun _ _=>[]) (BZ s) (findF id.toInt) (fun _=>k [.int (-1)] []) (fun i=>k [.int i] []) (s0:=()) ?_ ?_ (by omega)).trans ?_
 ·intro i _ c hx hi rec;have h1:(i:Int)<((BZ s).length:Int):=by omega
  have hd:(s.get 4).elems.getD i .nil=c:=Fo hx;have hs:(s.get 4).elems.length=(BZ s).length:=rfl;unfold Vi findF;simp only[go_sem,AG,AZ,hs,h1,hd,CV (show i<4611686018427387904 by omega),Int.natCast_nonneg,and_self,if_true,AB];by_cases h:(c.get 0).toInt=id.toInt <;> simp[h]
 ·intro _ rec;unfold Vi;simp only[go_sem,AG,fj,if_false,AB]
 ·unfold Fj IB Vk;cases CQ (findF id.toInt) 0 () (BZ s) <;> rfl
def Hx (s:C) (i:Nat) (_:Unit) (c:C):Unit ⊕ Int:=
 if((c.get 1).toInt≠0/\(c.get 1).toInt≠1)\/(c.get 2).toInt=0 then .inr 1 else if Fj s (c.get 0).toInt=i then .inl ()else .inr 7
def Oz (s put:C) (_:Nat) (_:Unit) (side:Int):Unit ⊕ Int:=if(Oy s put side).2=0 then .inl ()else .inr (Oy s put side).2
def okE:Unit ⊕ Int->Int
 | .inl _=>0| .inr e=>e
def Nf (s put:C):Int:=
 if 200<(s.get 1).toInt\/8<(BZ s).length then 8 else match CQ (Hx s) 0 () (BZ s)with| .inl _=>okE (CQ (Oz s put) 0 () [0,1])| .inr e=>e
end
def WD {R:Type} (N:Nat) (k1:KD R) (k2:KD R):KD R->KD R:=fun k3 d1 m1=>(bif decide (ar (dk d1 2)<(↑(ax (az (bj (dk d1 1) 4))):Int))then(if 0<=ar (dk d1 2)/\ar (dk d1 2)<(↑(ax (az (bj (dk d1 1) 4))):Int)then(bif decide (ar (bj (br (az (bj (dk d1 1) 4)) (av (ar (dk d1 2))) dh) 0)=ar (dk d1 0))then(k1 [dk d1 2] [])else(k3 [dk d1 0,dk d1 1,bf (au bb (ar (dk d1 2)+1))] []))else none)else(k2 [] []))
def bZ (a0 a1:C) (k1:KD R):Option R:=jn (fun d1 m1=>(k1 [bf (-1)] [])) (fun k2=>(BO N (WD N k1 k2) [a1,a0,bf 0] []))
def SZ:=lid "" (@bZ R N)
theorem uE {R N a0 a1 k}:@SZ R N a0 a1 k=bZ N a0 a1 k:=by unfold SZ;rw[BQ]
def q6c:OvG R:=CA [Bp,.int .u64] (Ef (SZ N)) (DS (bm bb))
theorem q6d:okX 29 (@q6c R N):=Cg BS N [(29,[(0,[(2,5)])])] [(29,[([1,0,1],(Ct [])),
  ([4,1,0,1],(Cr [1,2] [(5,.d (.int .i64))])),
  ([9],(Ct [(4,.d (.int .i64))]))])] (fun _ _=>uE)
def bJ {R:Type} (N:Nat) (a0 a1:C) (k1:KD R):Option R:=bif decide (au ay (18446744073709551615-ar a0)<ar a1)then(k1 [bf 0,bf 11] [])else(k1 [bf (au ay (ar a0+ar a1)),bf 0] [])
def Lk:=lid "" (@bJ R N)
theorem tU {R N a0 a1 k}:@Lk R N a0 a1 k=bJ N a0 a1 k:=by unfold Lk;rw[BQ]
def q5v:OvG R:=CA [.int .u64,.int .u64] (Ef (Lk N)) fun a K d1 m1=>K (wh [V.d (bm ay) (dk d1 0),V.d (bm bb) (dk d1 1)]) []
theorem bI:okX 50 (@q5v R N):=Cg BS N [] [(50,[([9],(Ct [(4,.d (.int .u64)),(5,.d (.int .i64))]))])] (fun _ _=>tU)
def cB (k2:KD R):KD R->KD R:=fun k3 d1 m1=>(jn (fun d2 m2=>(bif dg (dk d2 5)then(if 0<=ar (dk d2 4)/\ar (dk d2 4)<(↑(ax (az (bj (dk d2 1) 4))):Int)then(jn (fun d3 m3=>(k3 [dk d3 0,dk d3 1,dk d3 3,dk d3 4,bf (au bb (ar (dk d3 2)+1))] [])) (fun k4=>(bif decide (ar (bj (br (az (bj (dk d2 1) 4)) (av (ar (dk d2 4))) dh) 1)=ar (dk d2 0))then(if 0<=ar (dk d2 4)/\ar (dk d2 4)<(↑(ax (az (bj (dk d2 1) 4))):Int)then(Lk N (dk d2 2) (bj (br (az (bj (dk d2 1) 4)) (av (ar (dk d2 4))) dh) 2) (fun d3 m3=>(k4 [dk d2 0,dk d2 1,dk d2 4,dk d3 0,dk d3 1] [])))else none)else(k4 [dk d2 0,dk d2 1,dk d2 4,dk d2 2,dk d2 3] []))))else none)else(k2 [dk d2 2,dk d2 3] []))) (fun k4=>(bif decide (ar (dk d1 4)<(↑(ax (az (bj (dk d1 1) 4))):Int))then(k4 [dk d1 0,dk d1 1,dk d1 2,dk d1 3,dk d1 4,df (decide (ar (dk d1 3)=0))] [])else(k4 [dk d1 0,dk d1 1,dk d1 2,dk d1 3,dk d1 4,df false] []))))
def cC (a0 a1:C) (k1:KD R):Option R:=jn (fun d1 m1=>(k1 [dk d1 0,dk d1 1] [])) (fun k2=>(BO N (cB N k2) [a1,a0,bf 0,bf 0,bf 0] []))
def Sb:=lid "" (@cC R N)
theorem uG {R N a0 a1 k}:@Sb R N a0 a1 k=cC N a0 a1 k:=by unfold Sb;rw[BQ]
def q6g:OvG R:=CA [Bp,.int .i64] (Ef (Sb N)) fun a K d1 m1=>K (wh [V.d (bm ay) (dk d1 0),V.d (bm bb) (dk d1 1)]) []
theorem q6h:okX 49 (@q6g R N):=Cg (Ap (bI N) <| BS) N [(49,[(0,[(2,5)])])] [(49,[([1,0,1,1],(Ct [(6,.d (.int .u64)),(7,.d (.int .i64))])),
  ([4,1,0,1,1],(Cr [1,2] [(6,.d (.int .u64)),(7,.d (.int .i64)),(8,.d (.int .i64))])),
  ([0,0,5,4,1,0,1,1],(Cr [1,2,6,7,8] [(17,.d .bool)])),
  ([1,4,0,1,5,4,1,0,1,1],(Cr [1,2,8] [(6,.d (.int .u64)),(7,.d (.int .i64))])),
  ([9],(Ct [(4,.d (.int .u64)),(5,.d (.int .i64))]))])] (fun _ _=>uG)
def bK {R:Type} (N:Nat) (a0 a1:C) (k1:KD R):Option R:=bif decide (ar a0<ar a1)then(k1 [bf 0,bf 12] [])else(k1 [bf (au ay (ar a0-ar a1)),bf 0] [])
def SS:=lid "" (@bK R N)
theorem tV {R N a0 a1 k}:@SS R N a0 a1 k=bK N a0 a1 k:=by unfold SS;rw[BQ]
def q5w:OvG R:=CA [.int .u64,.int .u64] (Ef (SS N)) fun a K d1 m1=>K (wh [V.d (bm ay) (dk d1 0),V.d (bm bb) (dk d1 1)]) []
theorem q5x:okX 51 (@q5w R N):=Cg BS N [] [(51,[([9],(Ct [(4,.d (.int .u64)),(5,.d (.int .i64))]))])] (fun _ _=>tV)
def WG (k1:KD R) (k2:KD R):KD R->KD R:=fun k3 d4 m4=>(bif decide (ar (dk d4 1)<3)then(if 0<=ar (dk d4 1)/\ar (dk d4 1)<3 then(SS N (dk d4 0) (bj (dk d4 2) (av (ar (dk d4 1)))) (fun d5 m5=>(bif !decide (ar (dk d5 1)=0)then(k1 [bf 0,dk d5 1] [])else(k3 [dk d5 0,bf (au bb (ar (dk d4 1)+1)),dk d4 2] []))))else none)else(k2 [dk d4 0] []))
def cA (a0 a1 a2:C) (k1:KD R):Option R:=jn (fun d1 m1=>(bif dg (dk d1 3)then(k1 [bf 0,bf 1] [])else(Sb N (dk d1 1) (dk d1 0) (fun d2 m2=>(bif !decide (ar (dk d2 1)=0)then(k1 [bf 0,dk d2 1] [])else(if 0<=ar (dk d1 0)/\ar (dk d1 0)<2 then(if 0<=au bb (1-ar (dk d1 0))/\au bb (1-ar (dk d1 0))<2 then(Lk N (bj (dk d1 2) (av (ar (dk d1 0)))) (bj (bj (dk d1 1) 2) (av (au bb (1-ar (dk d1 0))))) (fun d3 m3=>(bif !decide (ar (dk d3 1)=0)then(k1 [bf 0,dk d3 1] [])else(if 0<=ar (dk d1 0)/\ar (dk d1 0)<2 then(if 0<=ar (dk d1 0)/\ar (dk d1 0)<2 then(jn (fun d4 m4=>(k1 [dk d4 0,bf 0] [])) (fun k2=>(BO N (WG N k1 k2) [dk d3 0,bf 0,cm (cm (cm (AH (bu 3 (bm ay))) 0 (bj (bj (dk d1 1) 2) (av (ar (dk d1 0))))) 1 (bj (bj (dk d1 1) 3) (av (ar (dk d1 0))))) 2 (dk d2 0)] [])))else none)else none))))else none)else none)))))) (fun k2=>(bif !decide (ar a2=0)then(k2 [a2,a0,a1,df !decide (ar a2=1)] [])else(k2 [a2,a0,a1,df false] [])))
def Sa:=lid "" (@cA R N)
theorem uF {R N a0 a1 a2 k}:@Sa R N a0 a1 a2 k=cA N a0 a1 a2 k:=by unfold Sa;rw[BQ]
def q6e:OvG R:=CA [Bp,.arr 2 (.int .u64),.int .i64] (Jq (Sa N)) fun a K d1 m1=>K (wh [V.d (bm ay) (dk d1 0),V.d (bm bb) (dk d1 1)]) []
theorem q6f:okX 30 (@q6e R N):=Cg (Ap (q6h N) <| Ap (bI N) <| Ap (q5x N) <| BS) N [(30,[(0,[(3,5),(4,5)]),(6,[(38,7)])])] [(30,[([0,0,1],(Cr [2,3,4] [(19,.d .bool)])),
  ([1,0,1,1,1,1,1,1,1],(Ct [(10,.d (.int .u64))])),
  ([4,1,0,1,1,1,1,1,1,1],(Cr [12] [(10,.d (.int .u64)),(13,.d (.int .i64))])),
  ([9],(Ct [(6,.d (.int .u64)),(7,.d (.int .i64))]))])] (fun _ _=>uF)
def Sc (k1:KD R) (k2:KD R):KD R->KD R:=fun k3 d3 m3=>(bif decide (ar (dk d3 2)<2)then(Sa N (dk d3 0) (dk d3 1) (dk d3 2) (fun d4 m4=>(bif !decide (ar (dk d4 1)=0)then(k1 [dk d4 1] [])else(k3 [dk d3 0,dk d3 1,bf (au bb (ar (dk d3 2)+1))] []))))else(k2 [] []))
def WH (k1:KD R) (k2:KD R):KD R->KD R:=fun k3 d2 m2=>(bif decide (ar (dk d2 2)<(↑(ax (az (bj (dk d2 0) 4))):Int))then(if 0<=ar (dk d2 2)/\ar (dk d2 2)<(↑(ax (az (bj (dk d2 0) 4))):Int)then(jn (fun d3 m3=>(bif dg (dk d3 3)then(k1 [bf 1] [])else(SZ N (dk d3 0) (bj (dk d3 4) 0) (fun d4 m4=>(bif decide (ar (dk d4 0)<ar (dk d3 2))then(k1 [bf 7] [])else(k3 [dk d3 0,dk d3 1,bf (au bb (ar (dk d3 2)+1))] [])))))) (fun k4=>(bif !decide (ar (bj (br (az (bj (dk d2 0) 4)) (av (ar (dk d2 2))) dh) 1)=0)then(bif !decide (ar (bj (br (az (bj (dk d2 0) 4)) (av (ar (dk d2 2))) dh) 1)=1)then(k4 [dk d2 0,dk d2 1,dk d2 2,df true,br (az (bj (dk d2 0) 4)) (av (ar (dk d2 2))) dh] [])else(k4 [dk d2 0,dk d2 1,dk d2 2,df (decide (ar (bj (br (az (bj (dk d2 0) 4)) (av (ar (dk d2 2))) dh) 2)=0)),br (az (bj (dk d2 0) 4)) (av (ar (dk d2 2))) dh] []))else(k4 [dk d2 0,dk d2 1,dk d2 2,df (decide (ar (bj (br (az (bj (dk d2 0) 4)) (av (ar (dk d2 2))) dh) 2)=0)),br (az (bj (dk d2 0) 4)) (av (ar (dk d2 2))) dh] []))))else none)else(k2 [dk d2 0,dk d2 1] []))
def cD (a0 a1:C) (k1:KD R):Option R:=jn (fun d1 m1=>(bif dg (dk d1 2)then(k1 [bf 8] [])else(jn (fun d2 m2=>(jn (fun d3 m3=>(k1 [bf 0] [])) (fun k2=>(BO N (Sc N k1 k2) [dk d2 0,dk d2 1,bf 0] [])))) (fun k2=>(BO N (WH N k1 k2) [dk d1 0,dk d1 1,bf 0] []))))) (fun k2=>(bif decide (200<ar (bj a0 1))then(k2 [a0,a1,df true] [])else(k2 [a0,a1,df (decide (8<(↑(ax (az (bj a0 4))):Int)))] [])))
def Sd:=lid "" (@cD R N)
theorem uH {R N a0 a1 k}:@Sd R N a0 a1 k=cD N a0 a1 k:=by unfold Sd;rw[BQ]
def q6i:OvG R:=CA [Bp,.arr 2 (.int .u64)] (Ef (Sd N)) (DS (bm bb))
theorem okB {R:Type} (o:OvS (X0 gl0)) {tb hs N n d f xs} {A:Key->Option O} {K:V->List (Key × O)->Option R} {r} (h:exF (X0 gl0) (o.ov R) Mj tb hs N n d f xs A K=some r):∃v L,Cc (X0 gl0) f xs A v L/\K v L=some r:=UR (ok0 gl0) (mo gl0) (o.aW _) (YT gl0) _ _ _ _ _ _ h
theorem okA {R:Type} (o:OvS (X0 gl0)) {tb hs N n d f xs} {A:Key->Option O} {K:V->List (Key × O)->Option R} {r} (h:exF (X0 gl0) (o.ov R) Mj tb hs N n d f xs A0 K=some r):∃v L,Cc (X0 gl0) f xs A v L/\K v L=some r:=let ⟨v,L,h1,h2⟩:=okB o h
 ⟨v,L,h1.mono (oV fun _=>rfl),h2⟩
theorem q6j:okX 7 (@q6i R N):=Cg (Ap (q6d N) <| Ap (q6f N) <| BS) N [(7,[(0,[(2,5),(3,5)])])] [(7,[([0,0,1],(Cr [2,3] [(18,.d .bool)])),
  ([1,0,1,1],(Cr [2,3] [])),
  ([4,1,0,1,1],(Cr [2,3] [(5,.d (.int .i64))])),
  ([0,0,1,4,0,1,5,4,1,0,1,1],(Cr [2,3,5,6] [(43,.d .bool)])),
  ([1,0,1,1,1],(Ct [])),
  ([4,1,0,1,1,1],(Cr [2,3] [(7,.d (.int .i64))])),
  ([9],(Ct [(4,.d (.int .i64))]))])] (fun _ _=>uH)
end Go.Proofs.YteealakhniofoaaGreatDoor
