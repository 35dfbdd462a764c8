/-
 A framework for runs of Go code over abstract data: what it needs, and that it is sound, part 8.
 Conditions: none.
-/
import Derived.Test.YtgdonkaoajbclaaGreatDoorEg
set_option linter.all false
set_option maxRecDepth 100000
set_option maxHeartbeats 4000000
open Bool renaming true_and->qq
open Go.E.C renaming get->bc
open List renaming getElem?_eq_some_iff->bz,map_cons->ed,zipWith->ke
namespace Go.E
open Go
@[go_sem] theorem AF {a0 l}:dk (a0::l) 0=a0:=rfl
@[go_sem] theorem AL {a0 a1 l}:dk (a0::a1::l) 1=a1:=rfl
@[go_sem] theorem AP {a0 a1 a2 l}:dk (a0::a1::a2::l) 2=a2:=rfl
@[go_sem] theorem AU {a0 a1 a2 a3 l}:dk (a0::a1::a2::a3::l) 3=a3:=rfl
@[go_sem] theorem Ab {a0 a1 a2 a3 a4 l}:dk (a0::a1::a2::a3::a4::l) 4=a4:=rfl
@[go_sem] theorem Av {a0 a1 a2 a3 a4 a5 l}:dk (a0::a1::a2::a3::a4::a5::l) 5=a5:=rfl
@[go_sem] theorem Ba {a0 a1 a2 a3 a4 a5 a6 l}:dk (a0::a1::a2::a3::a4::a5::a6::l) 6=a6:=rfl
@[go_sem] theorem DD {a0 a1 a2 a3 a4 a5 a6 a7 l}:dk (a0::a1::a2::a3::a4::a5::a6::a7::l) 7=a7:=rfl
@[go_sem] theorem Da {a0 a1 a2 a3 a4 a5 a6 a7 a8 l}:dk (a0::a1::a2::a3::a4::a5::a6::a7::a8::l) 8=a8:=rfl
@[go_sem] theorem FJ {a0 a1 a2 a3 a4 a5 a6 a7 a8 a9 l}:dk (a0::a1::a2::a3::a4::a5::a6::a7::a8::a9::l) 9=a9:=rfl
@[go_sem] theorem Gb {a0 a1 a2 a3 a4 a5 a6 a7 a8 a9 a10 l}:dk (a0::a1::a2::a3::a4::a5::a6::a7::a8::a9::a10::l) 10=a10:=rfl
@[go_sem] theorem Ny {a0 a1 a2 a3 a4 a5 a6 a7 a8 a9 a10 a11 l}:dk (a0::a1::a2::a3::a4::a5::a6::a7::a8::a9::a10::a11::l) 11=a11:=rfl
@[go_sem] theorem Qv {a0 a1 a2 a3 a4 a5 a6 a7 a8 a9 a10 a11 a12 l}:dk (a0::a1::a2::a3::a4::a5::a6::a7::a8::a9::a10::a11::a12::l) 12=a12:=rfl
@[go_sem] theorem Qw {a0 a1 a2 a3 a4 a5 a6 a7 a8 a9 a10 a11 a12 a13 l}:dk (a0::a1::a2::a3::a4::a5::a6::a7::a8::a9::a10::a11::a12::a13::l) 13=a13:=rfl
@[go_sem] theorem Qx {a0 a1 a2 a3 a4 a5 a6 a7 a8 a9 a10 a11 a12 a13 a14 l}:dk (a0::a1::a2::a3::a4::a5::a6::a7::a8::a9::a10::a11::a12::a13::a14::l) 14=a14:=rfl
@[go_sem] theorem EW {a0 l}:bc (.agg (a0::l)) 0=a0:=rfl
@[go_sem] theorem GI {a0 a1 l}:bc (.agg (a0::a1::l)) 1=a1:=rfl
@[go_sem] theorem Km {a0 a1 a2 l}:bc (.agg (a0::a1::a2::l)) 2=a2:=rfl
@[go_sem] theorem cP {a0 a1 a2 a3 l}:bc (.agg (a0::a1::a2::a3::l)) 3=a3:=rfl
@[go_sem] theorem MM {a0 a1 a2 a3 a4 l}:bc (.agg (a0::a1::a2::a3::a4::l)) 4=a4:=rfl
@[go_sem] theorem WA {a0 a1 a2 a3 a4 a5 l}:bc (.agg (a0::a1::a2::a3::a4::a5::l)) 5=a5:=rfl
@[go_sem] theorem WB {a0 a1 a2 a3 a4 a5 a6 l}:bc (.agg (a0::a1::a2::a3::a4::a5::a6::l)) 6=a6:=rfl
@[go_sem] theorem q6u {a0 a1 a2 a3 a4 a5 a6 a7 l}:bc (.agg (a0::a1::a2::a3::a4::a5::a6::a7::l)) 7=a7:=rfl
@[go_sem] theorem WC {a0 a1 a2 a3 a4 a5 a6 a7 a8 l}:bc (.agg (a0::a1::a2::a3::a4::a5::a6::a7::a8::l)) 8=a8:=rfl
@[go_sem] theorem HY {a0 b l}:C.set (.agg (a0::l)) 0 b= .agg (b::l):=rfl
@[go_sem] theorem IC {a0 a1 b l}:C.set (.agg (a0::a1::l)) 1 b= .agg (a0::b::l):=rfl
@[go_sem] theorem YT {a0 a1 a2 b l}:C.set (.agg (a0::a1::a2::l)) 2 b= .agg (a0::a1::b::l):=rfl
@[go_sem] theorem q1u {a0 a1 a2 a3 b l}:C.set (.agg (a0::a1::a2::a3::l)) 3 b= .agg (a0::a1::a2::b::l):=rfl
@[go_sem] theorem mG {a0 a1 a2 a3 a4 b l}:C.set (.agg (a0::a1::a2::a3::a4::l)) 4 b= .agg (a0::a1::a2::a3::b::l):=rfl
attribute [go_sem] AQ Nat.beq_refl Bool.and_true qq Bool.not_true Bool.not_false beq_self_eq_true Int.toNat_natCast decide_true decide_false Bool.cond_decide Int.toNat_zero Int.toNat_one
attribute [go_sem 500] Int.ofNat_eq_natCast
attribute [go_sem] Int.cast_ofNat_Int
@[go_sem] theorem z48 (a b:Bool):Dt (.bool a) b= .bool b:=rfl
@[go_sem] theorem q3p (c:C):C.beq c c=true:=(C.beq_iff c c).2 rfl
def pK (a b:C):C.beq a b=decide (a=b):=by rw[Bool.eq_iff_iff,C.beq_iff,decide_eq_true_eq]
def Hr {R ι:Type} {F} (st:ι->List C) (sm:ι->List Es) (μ:ι->Nat) (P:ι->Prop) (spec:ι->Option R)
  (h:∀i,P i->∀rec:KD R,(∀j,P j->μ j<μ i->rec (st j) (sm j)=spec j)->F rec (st i) (sm i)=spec i):∀(N:Nat) (i:ι),P i->μ i<N->Ac N F (st i) (sm i)=spec i
 |0,_,_,h2=>absurd h2 (Nat.not_lt_zero _)
 |N+1,i,h1,h2=>by
  rw[Bm];exact h i h1 _ fun j hj hlt=>Hr st sm μ P spec h N j hj (by omega)
def Dd {R:Type} {F} (st:Nat->List C) (sm:Nat->List Es) (m:Nat) (r:Option R) (step:∀i,i<m->∀rec:KD R,F rec (st i) (sm i)=rec (st (i+1)) (sm (i+1))) (stop:∀rec:KD R,F rec (st m) (sm m)=r) {N:Nat} (hN:m<N):
  Ac N F (st 0) (sm 0)=r:=by
 refine Hr (F:=F) st sm (fun i=>m-i) (fun i=>i<=m) (fun _=>r) (fun i hi rec zd=>?_) N 0 (Nat.zero_le _) (by omega);by_cases e:i=m
 ·subst e;exact stop rec
 ·rw[step i (by omega) rec];exact zd (i+1) (by omega) (by omega)
def VZ {X f ts cs A v L} (h:(∀(i:Nat) (t:Ty) (c:C),ts[i]? =some t->cs[i]? =some c->C.wf t c)->Bg X f (ke V.d ts cs) A v L):Bg X f (ke V.d ts cs) A v L:=by
 intro A' Γ w args hA hg hc hn hr;refine h (fun i t c ht hcs=>?_) A' Γ w args hA hg hc hn hr;have hx:(ke V.d ts cs)[i]? =some (.d t c):=by simp[List.getElem?_zipWith,ht,hcs]
 have hs:(CW 1000 (ke V.d ts cs))[i]? =some (.d t c):=by rw[Ub,hx];rfl
 have hl:i<args.size:=by rw[<-hn];exact(bz.1 hx).1
 exact(hr i _ _ hs (Array.getElem?_eq_getElem hl)).wf
def q6A {w gl gl'} (h:NT w gl) (hs:∀g x,gl' g=some x->gl g=some x):NT w gl':=fun g τ c hg=>h g τ c (hs g (τ,c) hg)
def XE {X f g} (h:GOk X f g) {xs A v L} (hr:g xs A kR=some (v,L)):Bg X f xs A v L:=by
 obtain⟨v',L',h1,h2⟩:=h xs A kR (v,L) hr;simp only[kR,Option.some.injEq,Prod.mk.injEq]at h2;obtain⟨rfl,rfl⟩:=h2;exact h1
def BG {α σ ε:Type} (f:Nat->σ->α->σ ⊕ ε):Nat->σ->List α->σ ⊕ ε
 |_,s,[]=>.inl s
 |i,s,c::l=>match f i s c with
  | .inl s'=>BG f (i+1) s' l
  | .inr e=>.inr e
def EA {R σ ε:Type} (fin:σ->Option R) (err:ε->Option R):σ ⊕ ε->Option R
 | .inl s=>fin s
 | .inr e=>err e
def Ol {α R σ ε:Type} {F} (st:Nat->σ->List C) (sm:Nat->σ->List Es) (l:List α) (f:Nat->σ->α->σ ⊕ ε) (fin:σ->Option R) (err:ε->Option R) (P:Nat->σ->Prop) {s0} {N:Nat}
  (h0:P 0 s0) (step:∀i s c,l[i]? =some c->P i s->(∀rec:KD R,F rec (st i s) (sm i s)=match f i s c with
   | .inl s'=>rec (st (i+1) s') (sm (i+1) s')
   | .inr e=>err e)/\(∀s',f i s c= .inl s'->P (i+1) s'))
  (stop:∀s,P l.length s->∀rec:KD R,F rec (st l.length s) (sm l.length s)=fin s) (hN:l.length<N):
  Ac N F (st 0 s0) (sm 0 s0)=EA fin err (BG f 0 s0 l):=by
 have key:=Hr (R:=R) (ι:=Nat × σ) (F:=F) (fun x=>st x.1 x.2) (fun x=>sm x.1 x.2) (fun x=>l.length-x.1) (fun x=>x.1<=l.length/\P x.1 x.2) (fun x=>EA fin err (BG f x.1 x.2 (l.drop x.1)))
  (fun x hx rec zd=>?_) N (0,s0) ⟨Nat.zero_le _,h0⟩ (by show l.length-0<N;omega)
 ·simpa using key
 ·obtain⟨i,s⟩:=x;obtain⟨h1,h2⟩:=hx;dsimp only at h1 h2 zd ⊢;by_cases h:i=l.length
  ·subst h;rw[stop s h2,List.drop_length];rfl
  ·have hi:i<l.length:=by omega
   obtain⟨h3,h4⟩:=step i s l[i] (List.getElem?_eq_getElem hi) h2;rw[h3,List.drop_eq_getElem_cons hi];simp only[BG];cases hf:f i s l[i]with
   |inl s'=>exact zd (i+1,s') ⟨hi,h4 s' hf⟩ (by dsimp only;omega)
   |inr e=>rfl
def Hs {α R σ ε:Type} {F} (st:Nat->σ->List C) (sm:Nat->σ->List Es) (l:List α) (f:Nat->σ->α->σ ⊕ ε) (fin:σ->Option R) (err:ε->Option R) {s0} {N:Nat}
  (step:∀i s c,l[i]? =some c->i<l.length->∀rec:KD R,F rec (st i s) (sm i s)=match f i s c with
   | .inl s'=>rec (st (i+1) s') (sm (i+1) s')
   | .inr e=>err e)
  (stop:∀s,∀rec:KD R,F rec (st l.length s) (sm l.length s)=fin s) (hN:l.length<N):
  Ac N F (st 0 s0) (sm 0 s0)=EA fin err (BG f 0 s0 l):=
 Ol st sm l f fin err (fun _ _=>True) trivial (fun i s c hc _=>⟨step i s c hc (bz.1 hc).1,fun _ _=>trivial⟩) (fun s _=>stop s) hN
def HD {l:List C} {i:Nat} {c} (h:l[i]? =some c):l.getD i .nil=c:=by rw[List.getD_eq_getElem?_getD,h];rfl
def BM {i:Nat} (h:i<4611686018427387904):IntKind.i64.wrap ((i:Int)+1)=((i+1:Nat):Int):=by rw[IntWalk.i64_in _ (by omega)];omega
def wrap_u64 {n:Int} (h:0<=n) (h2:n<18446744073709551616):IntKind.u64.wrap n=n:=by
 have hm1:IntKind.u64.min=0:=by decide
 have hm2:IntKind.u64.max=18446744073709551615:=by decide
 exact Lj (by omega) (by omega)
@[go_sem] theorem z2P (g:Key->Key) (τ:Ty) (m:Es):List.map (fun c=>(Prod.fst c,V.ren g id (Prod.snd c))) (dE τ m)=dE τ m:=by
 unfold dE;rw[List.map_map];exact List.map_congr_left fun _ _=>rfl
attribute [go_sem] EF DN
@[go_sem] theorem VA (τ:Ty):∀m:Es,DM τ (dE τ m)=true
 | []=>rfl
 |_::m=>by
  have:=VA τ m;have h:Ty.beq τ τ=true:=(Ty.beq_iff τ τ).2 rfl;simp only[dE,ed,DM,h,qq]at this ⊢;exact this
def Ez:Es->C->Bool
 | [],_=>false
 |(k,_)::l,c=>bif C.beq c k then true else Ez l c
def getM:Es->C->C
 | [],_=>.nil
 |(k,v)::l,c=>bif C.beq c k then v else getM l c
@[go_sem] theorem WD (τ:Ty) (c:C):∀m:Es,Ie (dE τ m) c=Ez m c
 | []=>rfl
 |(k,v)::m=>by
  have:=WD τ c m;simp only[dE,ed,Ie,Ez]at this ⊢;rw[this]
@[go_sem] theorem vL (τ:Ty) (c:C):∀m:Es,Kl (dE τ m) c=getM m c
 | []=>rfl
 |(k,v)::m=>by
  have:=vL τ c m;simp only[dE,ed,Kl,getM]at this ⊢;rw[this]
def Gl:Ty:=.struct 65 [0,64] [(.arr 2 (.arr 32 (.int .u8))),(.int .i64)]
def DI:Ty:=.struct 36 [0,1,2,3,35] [(.int .u64),(.int .i64),(.int .u64),(.arr 32 (.int .u8)),(.int .u64)]
def Bi:Ty:=.struct 7 [0,1,2,4,6] [(.int .u32),(.int .u64),(.arr 2 (.int .u64)),(.arr 2 (.int .u64)),(.slice 64 DI)]
def GU:Ty:=.struct 1024 [0,512] [(.arr 32 (.arr 16 (.int .u8))),(.arr 32 (.arr 16 (.int .u8)))]
def Ca:Ty:=.struct 1026 [0,1024,1025] [GU,(.int .u32),(.slice 32 (.arr 32 (.int .u8)))]
def Dw:Ty:=.struct 2059 [0,7] [Bi,(.arr 2 Ca)]
def Bo:Ty:=.struct 2 [0,1] [.str,.str]
def Ax:Ty:=.struct 82 [0,1,3,68,69,71,73,74,75] [(.int .u32),(.arr 2 (.int .i64)),Gl,(.slice 1 (.int .u8)),(.arr 2 (.int .u64)),(.arr 2 (.int .u64)),(.int .i64),(.int .u64),Bi]
def ER:Ty:=.struct 65 [0,32,64] [(.arr 32 (.int .u8)),(.arr 32 (.int .u8)),(.int .u64)]
def DJ:Ty:=.struct 3 [0,2] [Bo,(.slice 72 ER)]
def FY:Ty:=.struct 1 [0] [.map]
def Ag:Ty:=.struct 33 [0,32] [(.arr 32 (.int .u8)),(.int .u64)]
def YZ:Ty:=.struct 3 [0,1,2] [(.slice 8 (.int .u64)),(.slice 1 .bool),(.int .u64)]
def Fp:Ty:=.struct 73 [0,8,72] [(.arr 8 (.int .u32)),(.arr 64 (.int .u8)),(.int .u64)]
def q1U:Ty:=.struct 3 [0,1,2] [.str,(.int .i64),(.int .i64)]
def GV:Ty:=.struct 2 [0,1] [(.slice 8 (.int .u64)),(.int .i64)]
def ND:Ty:=.struct 68 [0,2,66] [Bo,(.arr 2 (.arr 32 (.int .u8))),(.arr 2 (.slice 24 (.slice 32 (.arr 32 (.int .u8)))))]
def IK:Ty:=.struct 43 [0,1,2,3,10,11] [(.int .i64),(.int .i64),(.int .u64),Bi,(.int .i64),(.arr 32 (.int .u8))]
def mX:Ty:=.struct 169 [0,82,164,165,166,167] [Ax,Ax,.ptr,.ptr,(.int .u64),(.arr 2 (.int .u64))]
end Go.E
