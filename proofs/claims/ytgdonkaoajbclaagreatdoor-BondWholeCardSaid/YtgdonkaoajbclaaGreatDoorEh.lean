/-
Runs of Go code over abstract data are sound, part 8.
Conditions: none.
-/
import Derived.Test.YtgdonkaoajbclaaGreatDoorEg
set_option linter.all false
set_option maxRecDepth 100000
set_option maxHeartbeats 4000000
open Bool renaming true_and->qp
open Go.E.C renaming get->ax
open List renaming getElem?_eq_some_iff->bu,map_cons->dy,zipWith->kb
namespace Go.E
open Go
@[go_sem] theorem AF {a0 l}:dk (a0::l) 0=a0:=rfl
@[go_sem] theorem AK {a0 a1 l}:dk (a0::a1::l) 1=a1:=rfl
@[go_sem] theorem AO {a0 a1 a2 l}:dk (a0::a1::a2::l) 2=a2:=rfl
@[go_sem] theorem AV {a0 a1 a2 a3 l}:dk (a0::a1::a2::a3::l) 3=a3:=rfl
@[go_sem] theorem Ac {a0 a1 a2 a3 a4 l}:dk (a0::a1::a2::a3::a4::l) 4=a4:=rfl
@[go_sem] theorem Av {a0 a1 a2 a3 a4 a5 l}:dk (a0::a1::a2::a3::a4::a5::l) 5=a5:=rfl
@[go_sem] theorem BW {a0 a1 a2 a3 a4 a5 a6 l}:dk (a0::a1::a2::a3::a4::a5::a6::l) 6=a6:=rfl
@[go_sem] theorem Cm {a0 a1 a2 a3 a4 a5 a6 a7 l}:dk (a0::a1::a2::a3::a4::a5::a6::a7::l) 7=a7:=rfl
@[go_sem] theorem DK {a0 a1 a2 a3 a4 a5 a6 a7 a8 l}:dk (a0::a1::a2::a3::a4::a5::a6::a7::a8::l) 8=a8:=rfl
@[go_sem] theorem Ee {a0 a1 a2 a3 a4 a5 a6 a7 a8 a9 l}:dk (a0::a1::a2::a3::a4::a5::a6::a7::a8::a9::l) 9=a9:=rfl
@[go_sem] theorem Fj {a0 a1 a2 a3 a4 a5 a6 a7 a8 a9 a10 l}:dk (a0::a1::a2::a3::a4::a5::a6::a7::a8::a9::a10::l) 10=a10:=rfl
@[go_sem] theorem OA {a0 a1 a2 a3 a4 a5 a6 a7 a8 a9 a10 a11 l}:dk (a0::a1::a2::a3::a4::a5::a6::a7::a8::a9::a10::a11::l) 11=a11:=rfl
@[go_sem] theorem OB {a0 a1 a2 a3 a4 a5 a6 a7 a8 a9 a10 a11 a12 l}:dk (a0::a1::a2::a3::a4::a5::a6::a7::a8::a9::a10::a11::a12::l) 12=a12:=rfl
@[go_sem] theorem RB {a0 a1 a2 a3 a4 a5 a6 a7 a8 a9 a10 a11 a12 a13 l}:dk (a0::a1::a2::a3::a4::a5::a6::a7::a8::a9::a10::a11::a12::a13::l) 13=a13:=rfl
@[go_sem] theorem RC {a0 a1 a2 a3 a4 a5 a6 a7 a8 a9 a10 a11 a12 a13 a14 l}:dk (a0::a1::a2::a3::a4::a5::a6::a7::a8::a9::a10::a11::a12::a13::a14::l) 14=a14:=rfl
@[go_sem] theorem Eg {a0 l}:ax (.agg (a0::l)) 0=a0:=rfl
@[go_sem] theorem GR {a0 a1 l}:ax (.agg (a0::a1::l)) 1=a1:=rfl
@[go_sem] theorem Kt {a0 a1 a2 l}:ax (.agg (a0::a1::a2::l)) 2=a2:=rfl
@[go_sem] theorem cV {a0 a1 a2 a3 l}:ax (.agg (a0::a1::a2::a3::l)) 3=a3:=rfl
@[go_sem] theorem Oa {a0 a1 a2 a3 a4 l}:ax (.agg (a0::a1::a2::a3::a4::l)) 4=a4:=rfl
@[go_sem] theorem cW {a0 a1 a2 a3 a4 a5 l}:ax (.agg (a0::a1::a2::a3::a4::a5::l)) 5=a5:=rfl
@[go_sem] theorem cX {a0 a1 a2 a3 a4 a5 a6 l}:ax (.agg (a0::a1::a2::a3::a4::a5::a6::l)) 6=a6:=rfl
@[go_sem] theorem q6S {a0 a1 a2 a3 a4 a5 a6 a7 l}:ax (.agg (a0::a1::a2::a3::a4::a5::a6::a7::l)) 7=a7:=rfl
@[go_sem] theorem WH {a0 a1 a2 a3 a4 a5 a6 a7 a8 l}:ax (.agg (a0::a1::a2::a3::a4::a5::a6::a7::a8::l)) 8=a8:=rfl
@[go_sem] theorem Hf {a0 b l}:C.set (.agg (a0::l)) 0 b= .agg (b::l):=rfl
@[go_sem] theorem IM {a0 a1 b l}:C.set (.agg (a0::a1::l)) 1 b= .agg (a0::b::l):=rfl
@[go_sem] theorem YY {a0 a1 a2 b l}:C.set (.agg (a0::a1::a2::l)) 2 b= .agg (a0::a1::b::l):=rfl
@[go_sem] theorem q1K {a0 a1 a2 a3 b l}:C.set (.agg (a0::a1::a2::a3::l)) 3 b= .agg (a0::a1::a2::b::l):=rfl
@[go_sem] theorem mP {a0 a1 a2 a3 a4 b l}:C.set (.agg (a0::a1::a2::a3::a4::l)) 4 b= .agg (a0::a1::a2::a3::b::l):=rfl
attribute [go_sem] AP Nat.beq_refl Bool.and_true qp Bool.not_true Bool.not_false beq_self_eq_true Int.toNat_natCast decide_true decide_false Bool.cond_decide Int.toNat_zero Int.toNat_one
attribute [go_sem 500] Int.ofNat_eq_natCast
attribute [go_sem] Int.cast_ofNat_Int
@[go_sem] theorem z5z (a b:Bool):Dz (.bool a) b= .bool b:=rfl
@[go_sem] theorem q3M (c:C):C.beq c c=true:=(C.beq_iff c c).2 rfl
def pY (a b:C):C.beq a b=decide (a=b):=by rw[Bool.eq_iff_iff,C.beq_iff,decide_eq_true_eq]
def Hy {R ι:Type} {F} (st:ι->List C) (sm:ι->List Es) (μ:ι->Nat) (P:ι->Prop) (spec:ι->Option R)
  (h:∀i,P i->∀rec:KD R,(∀j,P j->μ j<μ i->rec (st j) (sm j)=spec j)->F rec (st i) (sm i)=spec i):∀(N:Nat) (i:ι),P i->μ i<N->Ae N F (st i) (sm i)=spec i
 |0,_,_,h2=>absurd h2 (Nat.not_lt_zero _)|N+1,i,h1,h2=>by rw[Bq];exact h i h1 _ fun j hj hlt=>Hy st sm μ P spec h N j hj (by omega)
def DX {R:Type} {F} (st:Nat->List C) (sm:Nat->List Es) (m:Nat) (r:Option R) (step:∀i,i<m->∀rec:KD R,F rec (st i) (sm i)=rec (st (i+1)) (sm (i+1))) (stop:∀rec:KD R,F rec (st m) (sm m)=r) {N:Nat} (hN:m<N):
  Ae N F (st 0) (sm 0)=r:=by
 refine Hy (F:=F) st sm (fun i=>m-i) (fun i=>i<=m) (fun _=>r) (fun i hi rec zd=>?_) N 0 (Nat.zero_le _) (by omega);by_cases e:i=m;{subst e;exact stop rec};{rw[step i (by omega) rec];exact zd (i+1) (by omega) (by omega)}
def Vd {X f ts cs A v L} (h:(∀(i:Nat) (t:Ty) (c:C),ts[i]? =some t->cs[i]? =some c->C.wf t c)->Bo X f (kb V.d ts cs) A v L):Bo X f (kb V.d ts cs) A v L:=by
 intro A' Γ w args hA hg hc hn hr;refine h (fun i t c ht hcs=>?_) A' Γ w args hA hg hc hn hr;have hx:(kb V.d ts cs)[i]? =some (.d t c):=by simp[List.getElem?_zipWith,ht,hcs]
 have hs:(CZ 1000 (kb V.d ts cs))[i]? =some (.d t c):=by rw[Ue,hx];rfl
 have hl:i<args.size:=by rw[<-hn];exact(bu.1 hx).1
 exact(hr i _ _ hs (Array.getElem?_eq_getElem hl)).wf
def q6Y {w gl gl'} (h:NV w gl) (hs:∀g x,gl' g=some x->gl g=some x):NV w gl':=fun g τ c hg=>h g τ c (hs g (τ,c) hg)
def XH {X f g} (h:GOk X f g) {xs A v L} (hr:g xs A kR=some (v,L)):Bo X f xs A v L:=by obtain⟨v',L',h1,h2⟩:=h xs A kR (v,L) hr;simp only[kR,Option.some.injEq,Prod.mk.injEq]at h2;obtain⟨rfl,rfl⟩:=h2;exact h1
def Ax {α σ ε:Type} (f:Nat->σ->α->σ ⊕ ε):Nat->σ->List α->σ ⊕ ε
 |_,s,[]=>.inl s|i,s,c::l=>match f i s c with| .inl s'=>Ax f (i+1) s' l| .inr e=>.inr e
def EI {R σ ε:Type} (fin:σ->Option R) (err:ε->Option R):σ ⊕ ε->Option R
 | .inl s=>fin s| .inr e=>err e
def Ot {α R σ ε:Type} {F} (st:Nat->σ->List C) (sm:Nat->σ->List Es) (l:List α) (f:Nat->σ->α->σ ⊕ ε) (fin:σ->Option R) (err:ε->Option R) (P:Nat->σ->Prop) {s0} {N:Nat}
  (h0:P 0 s0) (step:∀i s c,l[i]? =some c->P i s->(∀rec:KD R,F rec (st i s) (sm i s)=match f i s c with| .inl s'=>rec (st (i+1) s') (sm (i+1) s')| .inr e=>err e)/\(∀s',f i s c= .inl s'->P (i+1) s'))
  (stop:∀s,P l.length s->∀rec:KD R,F rec (st l.length s) (sm l.length s)=fin s) (hN:l.length<N):
  Ae N F (st 0 s0) (sm 0 s0)=EI fin err (Ax f 0 s0 l):=by
 have key:=Hy (R:=R) (ι:=Nat × σ) (F:=F) (fun x=>st x.1 x.2) (fun x=>sm x.1 x.2) (fun x=>l.length-x.1) (fun x=>x.1<=l.length/\P x.1 x.2) (fun x=>EI fin err (Ax f x.1 x.2 (l.drop x.1)))
  (fun x hx rec zd=>?_) N (0,s0) ⟨Nat.zero_le _,h0⟩ (by show l.length-0<N;omega)
 ·simpa using key
 ·obtain⟨i,s⟩:=x;obtain⟨h1,h2⟩:=hx;dsimp only at h1 h2 zd ⊢;by_cases h:i=l.length;{subst h;rw[stop s h2,List.drop_length];rfl}
  ·have hi:i<l.length:=by omega
   obtain⟨h3,h4⟩:=step i s l[i] (List.getElem?_eq_getElem hi) h2;rw[h3,List.drop_eq_getElem_cons hi];simp only[Ax];cases hf:f i s l[i]with
   |inl s'=>exact zd (i+1,s') ⟨hi,h4 s' hf⟩ (by dsimp only;omega)|inr e=>rfl
def Hz {α R σ ε:Type} {F} (st:Nat->σ->List C) (sm:Nat->σ->List Es) (l:List α) (f:Nat->σ->α->σ ⊕ ε) (fin:σ->Option R) (err:ε->Option R) {s0} {N:Nat}
  (step:∀i s c,l[i]? =some c->i<l.length->∀rec:KD R,F rec (st i s) (sm i s)=match f i s c with| .inl s'=>rec (st (i+1) s') (sm (i+1) s')| .inr e=>err e)
  (stop:∀s,∀rec:KD R,F rec (st l.length s) (sm l.length s)=fin s) (hN:l.length<N):
  Ae N F (st 0 s0) (sm 0 s0)=EI fin err (Ax f 0 s0 l):=
 Ot st sm l f fin err (fun _ _=>True) trivial (fun i s c hc _=>⟨step i s c hc (bu.1 hc).1,fun _ _=>trivial⟩) (fun s _=>stop s) hN
def HK {l:List C} {i:Nat} {c} (h:l[i]? =some c):l.getD i .nil=c:=by rw[List.getD_eq_getElem?_getD,h];rfl
def BK {i:Nat} (h:i<4611686018427387904):IntKind.i64.wrap ((i:Int)+1)=((i+1:Nat):Int):=by rw[IntWalk.i64_in _ (by omega)];omega
def wrap_u64 {n:Int} (h:0<=n) (h2:n<18446744073709551616):IntKind.u64.wrap n=n:=by
 have hm1:IntKind.u64.min=0:=by decide
 have hm2:IntKind.u64.max=18446744073709551615:=by decide
 exact Lp (by omega) (by omega)
@[go_sem] theorem z3c (g:Key->Key) (τ:Ty) (m:Es):List.map (fun c=>(Prod.fst c,V.ren g id (Prod.snd c))) (dE τ m)=dE τ m:=by unfold dE;rw[List.map_map];exact List.map_congr_left fun _ _=>rfl
attribute [go_sem] Dn Cu
@[go_sem] theorem VE (τ:Ty):∀m:Es,DT τ (dE τ m)=true
 | []=>rfl|_::m=>by have:=VE τ m;have h:Ty.beq τ τ=true:=(Ty.beq_iff τ τ).2 rfl;simp only[dE,dy,DT,h,qp]at this ⊢;exact this
def FG:Es->C->Bool
 | [],_=>false|(k,_)::l,c=>bif C.beq c k then true else FG l c
def getM:Es->C->C
 | [],_=>.nil|(k,v)::l,c=>bif C.beq c k then v else getM l c
@[go_sem] theorem WI (τ:Ty) (c:C):∀m:Es,Il (dE τ m) c=FG m c
 | []=>rfl|(k,v)::m=>by have:=WI τ c m;simp only[dE,dy,Il,FG]at this ⊢;rw[this]
@[go_sem] theorem wB (τ:Ty) (c:C):∀m:Es,Ks (dE τ m) c=getM m c
 | []=>rfl|(k,v)::m=>by have:=wB τ c m;simp only[dE,dy,Ks,getM]at this ⊢;rw[this]
def Gu:Ty:=.struct 65 [0,64] [(.arr 2 (.arr 32 (.int .u8))),(.int .i64)]
def DQ:Ty:=.struct 36 [0,1,2,3,35] [(.int .u64),(.int .i64),(.int .u64),(.arr 32 (.int .u8)),(.int .u64)]
def Bk:Ty:=.struct 7 [0,1,2,4,6] [(.int .u32),(.int .u64),(.arr 2 (.int .u64)),(.arr 2 (.int .u64)),(.slice 64 DQ)]
def Gb:Ty:=.struct 1024 [0,512] [(.arr 32 (.arr 16 (.int .u8))),(.arr 32 (.arr 16 (.int .u8)))]
def Cd:Ty:=.struct 1026 [0,1024,1025] [Gb,(.int .u32),(.slice 32 (.arr 32 (.int .u8)))]
def EE:Ty:=.struct 2059 [0,7] [Bk,(.arr 2 Cd)]
def Br:Ty:=.struct 2 [0,1] [.str,.str]
def Az:Ty:=.struct 82 [0,1,3,68,69,71,73,74,75] [(.int .u32),(.arr 2 (.int .i64)),Gu,(.slice 1 (.int .u8)),(.arr 2 (.int .u64)),(.arr 2 (.int .u64)),(.int .i64),(.int .u64),Bk]
def EP:Ty:=.struct 65 [0,32,64] [(.arr 32 (.int .u8)),(.arr 32 (.int .u8)),(.int .u64)]
def DB:Ty:=.struct 3 [0,2] [Br,(.slice 72 EP)]
def Ff:Ty:=.struct 1 [0] [.map]
def AX:Ty:=.struct 33 [0,32] [(.arr 32 (.int .u8)),(.int .u64)]
def Yg:Ty:=.struct 3 [0,1,2] [(.slice 8 (.int .u64)),(.slice 1 .bool),(.int .u64)]
def Fy:Ty:=.struct 73 [0,8,72] [(.arr 8 (.int .u32)),(.arr 64 (.int .u8)),(.int .u64)]
def q2f:Ty:=.struct 3 [0,1,2] [.str,(.int .i64),(.int .i64)]
def Gc:Ty:=.struct 2 [0,1] [(.slice 8 (.int .u64)),(.int .i64)]
def NG:Ty:=.struct 68 [0,2,66] [Br,(.arr 2 (.arr 32 (.int .u8))),(.arr 2 (.slice 24 (.slice 32 (.arr 32 (.int .u8)))))]
def IW:Ty:=.struct 43 [0,1,2,3,10,11] [(.int .i64),(.int .i64),(.int .u64),Bk,(.int .i64),(.arr 32 (.int .u8))]
def nJ:Ty:=.struct 169 [0,82,164,165,166,167] [Az,Az,.ptr,.ptr,(.int .u64),(.arr 2 (.int .u64))]
end Go.E
