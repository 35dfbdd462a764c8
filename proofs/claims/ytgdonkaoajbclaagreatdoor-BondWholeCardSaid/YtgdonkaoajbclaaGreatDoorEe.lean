/-
Runs of Go code over abstract data are sound, part 5.
Conditions: none.
-/
import Derived.Test.YtgdonkaoajbclaaGreatDoorEd
import Derived.ScopeJumps
import Derived.ProofKit
import Derived.LaidMore
import Derived.OpenShut
import Derived.Stop.Joined
import Derived.ChangeStays
import Derived.Deep.DeepHandedRow
import Derived.Lib.LaidTab
import Derived.LoopN
set_option linter.all false
noncomputable section
set_option maxRecDepth 100000
set_option maxHeartbeats 4000000
open Array renaming all_eq_true'->pg,getD->qa,getD_eq_getD_getElem?->im,replicate->nu
open Bool renaming and_eq_true->az,and_true->jy,eq_iff_iff->kl,false_eq_true->fe,false_or->jr,not_eq_true'->jt,not_true->ta,or_eq_true->tc,or_eq_true_iff->ux,or_false->xy
open Classical renaming byContradiction->qi,choose_spec->ry
open Go.Act renaming put->sg
open Go.Addr renaming add->od
open Go.DataW renaming TrodAll->lg,trod->lu,weights->pj,weightsAll->qj,weightsEach->mn
open Go.DataW.TrodAll renaming lt->si
open Go.E.C renaming elems->ao,eqb->rp
open Go.E.G renaming part->wq
open Go.E.S renaming get->yf,obj->jj,start->kc
open Go.Oper renaming looksAt->uc
open Go.Region renaming binds->tg,ready->nq,wanted->jk
open Go.Value renaming okWide->tw
open Go.World renaming cell?->nt,sameAt->ya
open List renaming all_cons->tf,all_eq_true->eh,cons_append->ji,countP_append->vh,getD_eq_getElem?_getD->bh,getElem?_append_left->fm,getElem?_eq_getElem->bg,getElem?_eq_none->gb,getElem?_eq_some_iff->bu,getElem?_map->dg,getElem?_of_mem->uj,getElem?_range->ir,getElem?_take->fu,getElem?_toArray->kr,head?_drop->xa,length_append->bt,length_cons->cg,length_nil->de,mapM_cons->ub,map_nil->vo,mem_append->dw,mem_cons->fz,mem_cons_of_mem->ez,mem_filter->mi,mem_filterMap->vi,mem_map->ny,mem_of_getElem?->fg,mem_range->gp,nil_append->fx,range->fi,size_toArray->iv,zipWith->kb
open Nat renaming le_of_lt->qw,le_refl->bx,lt_or_ge->kh,lt_succ_iff_lt_or_eq->nf,strongRecOn->xt,zero_le->dv,zero_mul->gy
open Option renaming bind_eq_some_iff->mw,bind_some->gh,getD_none->qy,getD_some->jh,isSome_none->px,isSome_some->py,map_eq_some_iff->eu,map_map->rr,map_none->oc,map_some->gj
open Option.some renaming injEq->ek
open Prod.mk renaming injEq->gm
namespace Go.E
open Go
section
def dep (ops:List Oper) (i j:Nat):Prop:=∃o,ops[i]? =some o/\∃e∈o.after,tg .any e=true/\e.on=j
inductive Anc (ops:List Oper):Nat->Nat->Prop where
 |one {i j:Nat}:dep ops i j->Anc ops j i|step {i j k:Nat}:dep ops i k->Anc ops j k->Anc ops j i
def Anc.closed {ops:List Oper} {D:Nat->Prop} (hD:∀i j,D i->dep ops i j->D j) {i j:Nat} (h:Anc ops j i) (hi:D i):D j:=by
 induction h with
 |one h=>exact hD _ _ hi h|step h _ ih=>exact ih (hD _ _ hi h)
structure Res where
 t:Nat
 v:V
 lo:List (Key × O)
 tn:List (Nat × Option Nat)
 s1:S
def om (s:S):Key ⊕ Nat->Option (O ⊕ Option Nat)
 | .inl k=>(s.obj k).map .inl| .inr t=>(look s.tk t).map .inr
def Res.om (r:Res):Key ⊕ Nat->Option (O ⊕ Option Nat)
 | .inl k=>(AR r.lo k).map .inl| .inr t=>(look r.tn t).map .inr
def S.step (s:S) (o:Oper) (r:Res):S:=
 bif r.t==0 then s.set o.dst r.v else bif r.t==1 then(s.add r.lo r.tn).set o.dst r.v else r.s1.set o.dst r.v
def gV (s:S) (d:Option Nat) (v:V):om (s.set d v)=om s:=by cases d <;> rfl
def Yx (s:S) (d:Option Nat) (v:V):(s.set d v).A=s.A:=by cases d <;> rfl
def Q4 (s:S) (lo:List (Key × O)) (tn:List (Nat × Option Nat)) (k:Key ⊕ Nat) {r:Res} (h1:r.lo=lo) (h2:r.tn=tn):om (s.add lo tn) k=match r.om k with|some x=>some x|none=>om s k:=by
 subst h1;subst h2;cases k with
 |inl k=>
  simp only[om,Res.om,S.add,jj,Bx,LH];cases AR r.lo k <;> rfl
 |inr t=>
  simp only[om,Res.om,S.add,Md];cases look r.tn t <;> rfl
def gW {s:S} {o} {r:Res} (h:r.t=0):om (s.step o r)=om s:=by unfold S.step;rw[h];exact gV _ _ _
def XK {s:S} {o} {r:Res} (h:r.t=1) (k:Key ⊕ Nat):om (s.step o r) k=match r.om k with|some x=>some x|none=>om s k:=by unfold S.step;rw[h];exact(congrFun (gV _ _ _) k).trans (Q4 s _ _ k rfl rfl)
def Q5 {s:S} {o} {r:Res} (h:r.t=2):om (s.step o r)=om r.s1:=by unfold S.step;rw[h];exact gV _ _ _
def q6V {s:S} {o:Oper} {r:Res} (h3:r.t=0\/r.t=1\/r.t=2) (h2:r.t=2->r.s1.env=s.env) (t:Nat):(s.step o r).get t=if o.dst=some t then r.v else s.get t:=by
 unfold S.step;rcases h3 with h|h|h;{rw[h];exact Jw _ _ _ _};{rw[h];exact Jw _ _ _ _}
 ·have e:r.s1.get t=s.get t:=by simp only[yf,h2 h]
  rw[h,<-e];exact Jw _ _ _ _
def q3f {s:S} {o} {r:Res} (h3:r.t=0\/r.t=1\/r.t=2) (h2:r.t=2->r.s1.A=s.A):(s.step o r).A=s.A:=by unfold S.step;rcases h3 with h|h|h;{rw[h];exact Yx _ _ _};{rw[h];exact Yx _ _ _};{rw[h,<-h2 h];exact Yx _ _ _}
def GB (ops:Array Oper) (s:S) (o:Oper):Option Bool:=
 match o.guard with
 |none=>some true|some (j,want)=>match GS ops j with|none=>none|some t=>match s.get t with| .d .bool c=>some (c.toBool==want)| .tup []=>some false|_=>none
def NX (X:Cx) (Q:S->Prop) (o:Oper) (ρ:Operand->V) (v:V):Prop:=
 ∀(Γ:G) (w:World) (a:Act) (s:S),Γ.gl=X.gl->AQ Γ w s->Q s->(∀y∈o.op.operands,AG Γ (ρ y) (a.eval y))->Au X.P o a w (BC Γ w s v)
def OkR (X:Cx) (Q:S->Prop) (ops:Array Oper) (base s:S) (o:Oper) (r:Res):Prop:=
 (GB ops s o=some false/\r.t=0/\r.v= .tup [])\/
 (GB ops s o=some true/\(
  (r.t=0/\NX X Q o (Ak X.gl s) r.v)\/
  (r.t=1/\ZB X base o (Ak X.gl s) s r.v r.lo r.tn/\Uw s r.lo r.tn)\/
  (r.t=2/\oT X o (Ak X.gl s) s r.v r.s1)))
def OkR.mono {X Q Q' ops base s o r} (h:OkR X Q ops base s o r) (hq:∀s,Q' s->Q s):OkR X Q' ops base s o r:=by rcases h with h|⟨h0,h|h|h⟩;{exact .inl h};{exact .inr ⟨h0,.inl ⟨h.1,fun Γ w a s g c q=>h.2 Γ w a s g c (hq s q)⟩⟩};{exact .inr ⟨h0,.inr (.inl h)⟩};{exact .inr ⟨h0,.inr (.inr h)⟩}
def QC (n:Nat) (c:Nat->S) (s:S):Prop:=∀k o,(∀p,p<=n->(c p).obj k=some o)->s.obj k=some o
def Bc (rs:Nat->Res):Nat->Nat
 |0=>0|i+1=>if(rs i).t=2 then i+1 else Bc rs i
def Hx (rs:Nat->Res):∀i,Bc rs i<=i
 |0=>bx _|i+1=>by simp only[Bc];split;exact bx _;exact Nat.le_succ_of_le (Hx rs i)
def WW (rs:Nat->Res):∀i k,k<i->(rs k).t=2->k<Bc rs i
 |0,k,h,_=>by omega
 |i+1,k,h,ht=>by simp only[Bc];split;{exact h};{rename_i hi;refine WW rs i k ?_ ht;rcases nf.1 h with h|h;{exact h};{subst h;exact absurd ht hi}}
def dS (rs:Nat->Res):∀i,Bc rs i=0\/∃k,Bc rs i=k+1/\(rs k).t=2
 |0=>.inl rfl|i+1=>by simp only[Bc];split;{exact .inr ⟨i,rfl,‹_›⟩};{exact dS rs i}
structure Canon (X:Cx) (ops:List Oper) (s0:S) (rs:Nat->Res) (c:Nat->S):Prop where
 c0:c 0=s0
 cs:∀i o,ops[i]? =some o->c (i+1)=(c i).step o (rs i)
 ok:∀i o,ops[i]? =some o->OkR X (QC ops.length c) ops.toArray (c (Bc rs i)) (c i) o (rs i)
 tri:∀i,(rs i).t=0\/(rs i).t=1\/(rs i).t=2
def writes (ops:List Oper) (j t:Nat):Prop:=∃o,ops[j]? =some o/\o.dst=some t
def looks (ops:List Oper) (i t:Nat):Prop:=∃o,ops[i]? =some o/\t∈o.looksAt ops.toArray
structure Orders (ops:List Oper) (rs:Nat->Res):Prop where
 lt:∀i j,dep ops i j->j<i
 tt:∀i j,i<ops.length->j<ops.length->(rs i).t=2->(rs j).t≠0->j≠i->(j<i/\Anc ops j i)\/(i<j/\Anc ops i j)
 CZ:∀i j t,j≠i->writes ops j t->looks ops i t->(j<i/\Anc ops j i)\/(i<j/\Anc ops i j)
 one:∀i j t,writes ops i t->writes ops j t->i=j
def OkR.env {X Q ops} {base s:S} {o} {r:Res} (h:OkR X Q ops base s o r) (ht:r.t=2):r.s1.env=s.env/\r.s1.A=s.A:=by rcases h with h|⟨_,h|h|h⟩;{omega};{omega};{omega};{exact⟨h.2.2.1,h.2.1⟩}
section
variable {X:Cx} {ops:List Oper} {s0:S} {rs:Nat->Res} {c:Nat->S}
def getOp {i:Nat} (h:i<ops.length):∃o,ops[i]? =some o:=⟨_,bg h⟩
def Canon.A (K:Canon X ops s0 rs c):∀i,i<=ops.length->(c i).A=s0.A
 |0,_=>by rw[K.c0]
 |i+1,h=>by obtain⟨o,ho⟩:=getOp (ops:=ops) (i:=i) (by omega);rw[K.cs i o ho,q3f (K.tri i) (fun ht=>((K.ok i o ho).env ht).2),K.A i (by omega)]
def Canon.wH (K:Canon X ops s0 rs c) {i:Nat} {o:Oper} (ho:ops[i]? =some o) (t:Nat):(c (i+1)).get t=if o.dst=some t then(rs i).v else(c i).get t:=by rw[K.cs i o ho];exact q6V (K.tri i) (fun ht=>((K.ok i o ho).env ht).1) t
def Canon.HL (K:Canon X ops s0 rs c) (Od:Orders ops rs) {j t:Nat} (hw:writes ops j t):∀i,j<i->i<=ops.length->(c i).get t=(rs j).v
 |0,h,_=>by omega
 |i+1,h,hi=>by obtain⟨o,ho⟩:=getOp (ops:=ops) (i:=i) (by omega);rw[K.wH ho];by_cases hji:j=i;{subst hji;obtain⟨o',h1,h2⟩:=hw;rw[ho]at h1;cases h1;rw[if_pos h2]};{have hd:¬o.dst=some t:=fun e=>hji (Od.one j i t hw ⟨o,ho,e⟩);rw[if_neg hd];exact K.HL Od hw i (by omega) (by omega)}
def Canon.WG (K:Canon X ops s0 rs c) {t:Nat}:∀i,i<=ops.length->(∀j,j<i->¬writes ops j t)->(c i).get t=s0.get t
 |0,_,_=>by rw[K.c0]
 |i+1,hi,hw=>by obtain⟨o,ho⟩:=getOp (ops:=ops) (i:=i) (by omega);have hd:¬o.dst=some t:=fun e=>hw i (by omega) ⟨o,ho,e⟩;rw[K.wH ho,if_neg hd];exact K.WG i (by omega) (fun j hj=>hw j (by omega))
def Canon.fresh (K:Canon X ops s0 rs c) {i:Nat} (hi:i<ops.length) (ht:(rs i).t=1) {k x} (h:(rs i).om k=some x):om (c i) k=none:=by
 obtain⟨o,ho⟩:=getOp hi;rcases K.ok i o ho with h1|⟨_,h1|h1|h1⟩;{omega};{omega}
 ·have hf:=h1.2.2;cases k with
  |inl k=>
   simp only[Res.om,eu]at h;obtain⟨y,h,_⟩:=h;simp only[om,hf.l k y h,oc]
  |inr t=>
   simp only[Res.om,eu]at h;obtain⟨y,h,_⟩:=h;have:=hf.t t y h;simp only[S.known]at this;simp only[om];cases hh:look (c i).tk t with
   |none=>rfl|some z=>rw[hh]at this;cases this
 ·omega
def Canon.mono (K:Canon X ops s0 rs c) {k x} {i:Nat}:∀j,i<=j->j<=ops.length->(∀m,i<=m->m<j->(rs m).t≠2)->om (c i) k=some x->om (c j) k=some x
 |0,h,_,_,hx=>by have:i=0:=by omega
                 subst this;exact hx
 |j+1,h,hj,hn,hx=>by by_cases he:i=j+1;{subst he;exact hx};{have ih:=K.mono j (by omega) (by omega) (fun m h1 h2=>hn m h1 (by omega)) hx;obtain⟨o,ho⟩:=getOp (ops:=ops) (i:=j) (by omega);rw[K.cs j o ho];rcases K.tri j with h1|h1|h1;{rw[gW h1];exact ih};{rw[XK h1];cases hr:(rs j).om k with|none=>exact ih|some y=>have:=K.fresh (by omega) h1 hr;rw[ih]at this;cases this};{exact absurd h1 (hn j (by omega) (by omega))}}
def Canon.obj (K:Canon X ops s0 rs c) (k:Key ⊕ Nat):∀i,i<=ops.length->
  (∀j x,j<i->Bc rs i<=j->(rs j).t=1->(rs j).om k=some x->om (c i) k=some x)/\
  ((∀j,j<i->Bc rs i<=j->(rs j).t=1->(rs j).om k=none)->om (c i) k=om (c (Bc rs i)) k)
 |0,_=>⟨fun j x h=>by omega,fun _=>rfl⟩|i+1,hi=>by
  obtain⟨h1,h2⟩:=K.obj k i (by omega);obtain⟨o,ho⟩:=getOp (ops:=ops) (i:=i) (by omega);simp only[Bc];rcases K.tri i with ht|ht|ht;{rw[if_neg (by omega),K.cs i o ho,gW ht];refine⟨fun j x h3 h4 h5 h6=>?_,fun h3=>h2 fun j h4 h5 h6=>h3 j (by omega) h5 h6⟩;rcases nf.1 h3 with h7|h7;{exact h1 j x h7 h4 h5 h6};{subst h7;omega}};{rw[if_neg (by omega),K.cs i o ho,XK ht];refine⟨fun j x h3 h4 h5 h6=>?_,fun h3=>?_⟩;{rcases nf.1 h3 with h7|h7;{have:=h1 j x h7 h4 h5 h6;cases hr:(rs i).om k with|none=>exact this|some y=>have h8:=K.fresh (by omega) ht hr;rw[this]at h8;cases h8};{subst h7;rw[h6]}};{rw[h3 i (by omega) (Nat.le_of_lt_succ (Nat.lt_succ_of_le (Hx rs i))) ht];exact h2 fun j h4 h5 h6=>h3 j (by omega) h5 h6}};{rw[if_pos ht];exact⟨fun j x h3 h4=>by omega,fun _=>rfl⟩}
end
end
section
section
variable {X:Cx} {ops:List Oper} {s0:S} {rs:Nat->Res} {c:Nat->S}
def IZ (X:Cx) (ops:List Oper) (s0:S) (rs:Nat->Res) (c:Nat->S) (Γ0:G) (n:Nat) (D:Nat->Prop) (a:Act) (w:World):Prop:=
 ∃Γ sD p,GLe Γ0 Γ/\Γ.gl=X.gl/\AQ Γ w sD/\AOk s0.A/\a.tmps.size=n/\a.defers=[]/\
  p<=ops.length/\(p=0\/∃k,p=k+1/\(rs k).t=2/\D k)/\(∀k,D k->(rs k).t=2->k<p)/\
  (∀k j x,D j->p<=j->(rs j).t=1->(rs j).om k=some x->om sD k=some x)/\
  (∀k,(∀j,D j->p<=j->(rs j).t=1->(rs j).om k=none)->om sD k=om (c p) k)/\
  (∀j t,D j->writes ops j t->AG Γ (rs j).v (a.tmps.getD t undef))/\
  (∀t,(∀j,D j->¬writes ops j t)->AG Γ (s0.get t) (a.tmps.getD t undef))
def q2W {Γ} {a:Act} {s:S} {o:Oper} {b:Bool} {l} (h:GB l s o=some b) (hs:∀t,t∈o.looksAt l->AG Γ (s.get t) (a.tmps.getD t undef)):
  jk o (yielded l a.tmps)=b:=by
 unfold GB at h;split at h;{rename_i hg;cases h;simp[jk,hg]}
 ·rename_i j want hg;split at h;{cases h}
  ·rename_i t ht
   have hst:=hs t (by
    simp only[uc,hg,dw];right;simp only[GS]at ht;rw[ht];simp)
   split at h;{rename_i b' hb;cases h;rw[hb]at hst;exact wK hg ht hst};{rename_i hb;cases h;rw[hb]at hst;exact wL hg ht hst};{cases h}
def q6w {Γ:G} {w} {s s':S} {a:Act} (hgl:Γ.gl=X.gl) (c:AQ Γ w s') {y} (hy:XM y=true) (ht:∀t,y= .tmp t->AG Γ (s.get t) (a.tmps.getD t undef)):
  AG Γ (Ak X.gl s y) (a.eval y):=by
 cases y with
 |tmp t=>exact ht t rfl|const v=>exact Vr (y:=.const v) (s:=⟨[],[],fun _=>none,[]⟩) hgl c (fun i=>by simp[yf,look,AG]) hy|global g=>exact Vr (y:=.global g) (s:=⟨[],[],fun _=>none,[]⟩) (a:=a) hgl c (fun i=>by simp[yf,look,AG]) hy|func f=>exact Vr (y:=.func f) (s:=⟨[],[],fun _=>none,[]⟩) (a:=a) hgl c (fun i=>by simp[yf,look,AG]) hy
def U9 {a:Act} {d:Option Nat} {v} {t:Nat} (h:d≠some t):(a.put d v).tmps.getD t undef=a.tmps.getD t undef:=by
 cases d with
 |none=>rfl|some e=>
  have:e≠t:=fun he=>h (by rw[he]);simp only[sg,im,Array.getElem?_setIfInBounds_ne this]
def z1d {a:Act} {t:Nat} {v} (h:t<a.tmps.size):(a.put (some t) v).tmps.getD t undef=v:=by simp[sg,h]
def z0B {s s':S} (h:∀k,om s' k=om s k) (k:Key):s'.obj k=s.obj k:=by have:=h (.inl k);simp only[om]at this;cases h1:s'.obj k <;> cases h2:s.obj k <;> rw[h1,h2]at this;{cases this};{cases this};{cases this;rfl}
def Q6 {s s':S} (h:∀k,om s' k=om s k) (t:Nat):look s'.tk t=look s.tk t:=by have:=h (.inr t);simp only[om]at this;cases h1:look s'.tk t <;> cases h2:look s.tk t <;> rw[h1,h2]at this;{cases this};{cases this};{cases this;rfl}
def AQ.om {Γ w s s'} (c:AQ Γ w s) (h:∀k,Go.E.om s' k=Go.E.om s k):AQ Γ w s':=
 c.congr (z0B h) (zA (Q6 h)) (fun t ht=>by rw[xL (Q6 h)];exact ht)
def XJ {s:S} {k o}:om s (.inl k)=some (.inl o)↔s.obj k=some o:=by simp[om]
def gU {s:S} {k}:om s (.inl k)=none↔s.obj k=none:=by simp[om]
variable {Γ0:G} {n:Nat} {D:Nat->Prop}
theorem z4C (hP:Aq X.P=true) (K:Canon X ops s0 rs c) (Od:Orders ops rs) (hok:∀o∈ops,IG n o=true) (hDl:∀j,D j->j<ops.length) (hD:∀i j,D i->dep ops i j->D j) {i:Nat} (hi:i<ops.length) (hiD:¬D i) (z8i:∀j,dep ops i j->D j)
  {a:Act} {w:World} {Q:Exit->Act->World->Prop} (h:IZ X ops s0 rs c Γ0 n D a w):wpOp X.P ops.toArray Q i (IZ X ops s0 rs c Γ0 n (fun j=>D j\/j=i)) a w:=by
 obtain⟨Γ,sD,p,g1,g3,hc,hA,hn,hf,hp0,hp1,hp2,ob1,ob2,ew,e0⟩:=h;obtain⟨o,ho⟩:=getOp hi
 -- what is before i is done; what is behind i is not
 have hD':∀k j,(D k\/k=i)->dep ops k j->(D j\/j=i):=by rintro k j (h|rfl) hd;{exact .inl (hD k j h hd)};{exact .inl (z8i j hd)}
 have before:∀j,j≠i->Anc ops j i->D j:=fun j hj ha=>(Anc.closed hD' ha (.inr rfl)).resolve_right hj;have behind:∀k,D k->¬Anc ops i k:=fun k hk ha=>hiD (Anc.closed hD ha hk);have later:∀k,D k->(rs k).t=2->i<k->(rs i).t=0:=by intro k hk ht hik;by_cases h0:(rs i).t=0;{exact h0};{rcases Od.tt k i (hDl k hk) hi ht h0 (by omega)with⟨_,ha⟩|⟨h1,_⟩;{exact absurd ha (behind k hk)};{omega}}
 have slot:∀t,looks ops i t->AG Γ ((c i).get t) (a.tmps.getD t undef):=by intro t ht;by_cases hw:∃j,j≠i/\writes ops j t;{obtain⟨j,hj,hw⟩:=hw;rcases Od.CZ i j t hj hw ht with⟨hlt,ha⟩|⟨hlt,ha⟩;{rw[K.HL Od hw i hlt (by omega)];exact ew j t (before j hj ha) hw};{have hDj:¬D j:=fun h=>behind j h ha;have uniq:∀j',writes ops j' t->j'=j:=fun j' h=>Od.one j' j t h hw;rw[K.WG (t:=t) i (by omega) (fun j' hj' h=>by have:=uniq j' h;omega)];exact e0 t (fun j' hj' h=>hDj (uniq j' h ▸ hj'))}};{have nw:∀j',writes ops j' t->j'=i:=fun j' h=>qi fun hne=>hw ⟨j',hne,h⟩;rw[K.WG (t:=t) i (by omega) (fun j' hj' h=>by have:=nw j' h;omega)];exact e0 t (fun j' hj' h=>hiD (nw j' h ▸ hj'))}
 have hko:=hok o (fg ho);simp only[IG,az,pg]at hko;have hd:∀t,o.dst=some t->t<a.tmps.size:=by intro t ht;have h2:=hko.2;rw[ht]at h2;rw[hn];exact of_decide_eq_true h2
 have zj:∀y∈o.op.operands,AG Γ (Ak X.gl (c i) y) (a.eval y):=fun y hy=>q6w g3 hc (hko.1 y hy) fun t ht=>slot t ⟨o,ho,by
  subst ht;simp only[uc,dw,vi];exact .inl ⟨.tmp t,by simpa using hy,rfl⟩⟩
 have wr:∀j t,writes ops j t->j≠i->o.dst≠some t:=fun j t hw hj hdt=>hj (Od.one j i t hw ⟨o,ho,hdt⟩)
 -- what all kinds of operations share
 have fin:∀{u:Value} {w':World} {Γ':G} {sD':S} {p':Nat},GLe Γ Γ'->Γ'.gl=X.gl->AQ Γ' w' sD'->p'<=ops.length->(p'=0\/∃k,p'=k+1/\(rs k).t=2/\(D k\/k=i))->
   (∀k,(D k\/k=i)->(rs k).t=2->k<p')->(∀k j x,(D j\/j=i)->p'<=j->(rs j).t=1->(rs j).om k=some x->om sD' k=some x)->
   (∀k,(∀j,(D j\/j=i)->p'<=j->(rs j).t=1->(rs j).om k=none)->om sD' k=om (c p') k)->
   BI Γ Γ'->AG Γ' (rs i).v u->
   IZ X ops s0 rs c Γ0 n (fun j=>D j\/j=i) (a.put o.dst u) w':=by
  intro u w' Γ' sD' p' gle z60 c' q0 q1 q2 qo1 qo2 yv hv;refine⟨Γ',sD',p',g1.trans gle,z60,c',hA,?_,?_,q0,q1,q2,qo1,qo2,?_,?_⟩;{cases o.dst <;> simp[sg,hn]};{cases o.dst <;> simp[sg,hf]};{rintro j t (hj|rfl) hw;{have hji:j≠i:=fun e=>hiD (e ▸ hj);rw[U9 (wr j t hw hji)];exact(ew j t hj hw).BN yv};{obtain⟨o',h1,h2⟩:=hw;rw[ho]at h1;cases h1;rw[h2,z1d (hd t h2)];exact hv}};{intro t hw;rw[U9 (fun e=>hw i (.inr rfl) ⟨o,ho,e⟩)];exact(e0 t (fun j hj=>hw j (.inl hj))).BN yv}
 -- a value alone
 have value:∀{u:Value} {w':World} {Γ':G},(rs i).t=0->GLe Γ Γ'->Γ'.gl=X.gl->AQ Γ' w' sD->BI Γ Γ'->AG Γ' (rs i).v u->
   IZ X ops s0 rs c Γ0 n (fun j=>D j\/j=i) (a.put o.dst u) w':=by
  intro u w' Γ' ht gle z60 c' yv hv;refine fin gle z60 c' hp0 ?_ ?_ ?_ ?_ yv hv;{rcases hp1 with h|⟨k,h1,h2,h3⟩;{exact .inl h};{exact .inr ⟨k,h1,h2,.inl h3⟩}};{rintro k (hk|rfl) htk;{exact hp2 k hk htk};{omega}};{rintro k j x (hj|rfl) h1 h2 h3;{exact ob1 k j x hj h1 h2 h3};{omega}};{exact fun k h=>ob2 k fun j hj h1 h2=>h j (.inl hj) h1 h2}
 -- the phase
 have hpL:(rs i).t≠0->p=Bc rs i:=by
  intro hti;have hTD:∀k,(rs k).t=2->k<i->D k:=by intro k hk hki;rcases Od.tt k i (by omega) hi hk hti (by omega)with⟨h1,_⟩|⟨_,ha⟩;{omega};{exact before k (by omega) ha}
  have h1:p<=Bc rs i:=by
   rcases hp1 with h|⟨k,h1,h2,h3⟩;{omega}
   ·have hki:k<i:=by rcases kh k i with h|h;{exact h};{rcases Nat.lt_or_eq_of_le h with h|h;{exact absurd (later k h3 h2 h) hti};{subst h;exact absurd h3 hiD}}
    have:=WW rs i k hki h2;omega
  have h2:Bc rs i<=p:=by rcases dS rs i with h|⟨k,h3,h4⟩;{omega};{have:=Hx rs i;have:=hp2 k (hTD k h4 (by omega)) h4;omega}
  omega
 have z61:∀j,D j->(rs j).t≠0->∀m,p<=m->m<j->(rs m).t≠2:=by intro j hj ht m hm hmj htm;rcases Od.tt m j (by have:=hDl j hj;omega) (hDl j hj) htm ht (by omega)with⟨h1,_⟩|⟨_,ha⟩;{omega};{have:=hp2 m (Anc.closed hD ha hj) htm;omega}
 have z7z:(rs i).t≠0->∀m,p<=m->m<i->(rs m).t≠2:=by intro hti m hm hmi htm;have:=WW rs i m hmi htm;have:=hpL hti;omega
 -- a key is one of an operation's that is done, or stands as at the phase's start
 have z6e:∀k,(∃j x,D j/\p<=j/\(rs j).t=1/\(rs j).om k=some x)\/(∀j,D j->p<=j->(rs j).t=1->(rs j).om k=none):=by intro k;by_cases h:∃j x,D j/\p<=j/\(rs j).t=1/\(rs j).om k=some x;{exact .inl h};{refine .inr fun j h1 h2 h3=>?_;cases hr:(rs j).om k with|none=>rfl|some x=>exact absurd ⟨j,x,h1,h2,h3,hr⟩ h}
 simp only[wpOp,kr,ho];have z6N:∀t,t∈o.looksAt ops.toArray->AG Γ ((c i).get t) (a.tmps.getD t undef):=fun t ht=>slot t ⟨o,ho,ht⟩;rcases K.ok i o ho with⟨hw,ht,hv⟩|⟨hw,z7Q⟩;{rw[q2W hw z6N];simp only[fe,if_false];exact value ht (.refl Γ) g3 hc (.refl Γ) (by rw[hv];exact q08)}
 ·rw[q2W hw z6N];simp only[if_true];left;rcases z7Q with⟨ht,hdo⟩|⟨ht,hdo,hfr⟩|⟨ht,hdo⟩
  ·have hQ:QC ops.length c sD:=fun k ob hk=>by rcases z6e (.inl k)with⟨j,y,hj,hpj,htj,hy⟩|hB;{have:=K.fresh (hDl j hj) htj hy;rw[gU,hk j (qw (hDl j hj))]at this;cases this};{rw[<-XJ,ob2 _ hB,XJ];exact hk p hp0}
   refine hdo Γ w a sD g3 hc hQ zj _ _ ?_;rintro u w' ⟨Γ',gle,kp,c',hv⟩;exact value ht gle (gle.gl.trans g3) c' kp hv
  ·have hne:(rs i).t≠0:=by omega
   have hpl:=hpL hne;have hpi:p<=i:=by rw[hpl];exact Hx rs i
   obtain⟨co1,co2⟩:(∀k j x,j<i->p<=j->(rs j).t=1->(rs j).om k=some x->om (c i) k=some x)/\(∀k,(∀j,j<i->p<=j->(rs j).t=1->(rs j).om k=none)->om (c i) k=om (c p) k):=by refine⟨fun k=>?_,fun k=>?_⟩;{rw[hpl];exact(K.obj k i (by omega)).1};{rw[hpl];exact(K.obj k i (by omega)).2}
   have z6v:∀k x,(rs i).om k=some x->om sD k=none:=by
    intro k x hx;have hfi:=K.fresh hi ht hx;rcases z6e k with⟨j,y,hj,hpj,htj,hy⟩|hB
    ·exfalso;rcases kh j i with hlt|hge;{have:=co1 k j y hlt hpj htj hy;rw[hfi]at this;cases this}
     ·have hij:i≠j:=fun e=>hiD (e ▸ hj);have h1:om (c (i+1)) k=some x:=by rw[K.cs i o ho,XK ht,hx]
      have h2:=K.mono j (by omega) (qw (hDl j hj)) (fun m hm hmj=>z61 j hj (by omega) m (by omega) hmj) h1;have h3:=K.fresh (hDl j hj) htj hy;rw[h2]at h3;cases h3
    ·rw[ob2 k hB];cases z6w:om (c p) k with
     |none=>rfl|some y=>
      have:=K.mono i hpi (by omega) (z7z hne) z6w;rw[hfi]at this;cases this
   have z7m:Compat sD (c i) (c (Bc rs i)):=by
    rw[<-hpl];refine⟨fun k x hx z7A=>?_,fun k x hx=>?_⟩
    ·rw[<-XJ]at hx ⊢;rw[Ne,<-gU]at z7A;rcases z6e (.inl k)with⟨j,y,hj,hpj,htj,hy⟩|hB;{have hsD:=ob1 _ j y hj hpj htj hy;have hfj:=K.fresh (hDl j hj) htj hy;rcases kh j i with hlt|hge;{have h1:=co1 _ j y hlt hpj htj hy;rw[hx]at h1;cases h1;exact hsD};{have:=K.mono j hge (qw (hDl j hj)) (fun m hm hmj=>z61 j hj (by omega) m (by omega) hmj) hx;rw[hfj]at this;cases this}}
     ·have hsD:=ob2 _ hB;cases z6w:om (c p) (.inl k)with
      |some y=>
       have:=K.mono i hpi (by omega) (z7z hne) z6w;rw[hx]at this;cases this;rw[hsD,z6w]
      |none=>rw[z6w]at hsD;exact absurd hsD z7A
    ·rw[<-XJ]at hx ⊢;rcases z6e (.inl k)with⟨j,y,hj,hpj,htj,hy⟩|hB;{exfalso;have hfj:=K.fresh (hDl j hj) htj hy;have:=K.mono j hpj (qw (hDl j hj)) (fun m' hm hmj=>z61 j hj (by omega) m' hm hmj) hx;rw[hfj]at this;cases this};{rw[ob2 _ hB];exact hx}
   have z7B:Uw sD (rs i).lo (rs i).tn:=by refine⟨fun k x hx=>?_,fun t x hx=>?_⟩;{exact gU.1 (z6v (.inl k) (.inl x) (by simp[Res.om,hx]))};{have:=z6v (.inr t) (.inr x) (by simp[Res.om,hx]);simp only[om,Option.map_eq_none_iff]at this;simp[S.known,this]}
   refine hdo Γ w a sD g3 hc z7m z7B zj _ _ ?_;rintro u w' ⟨Γ',gle,kp,c',hv⟩;have hom:∀k,om (sD.add (rs i).lo (rs i).tn) k=match(rs i).om k with|some x=>some x|none=>om sD k:=fun k=>Q4 sD _ _ k rfl rfl
   refine fin gle (gle.gl.trans g3) c' hp0 ?_ ?_ ?_ ?_ kp hv;{rcases hp1 with h|⟨k,h1,h2,h3⟩;{exact .inl h};{exact .inr ⟨k,h1,h2,.inl h3⟩}};{rintro k (hk|rfl) htk;{exact hp2 k hk htk};{omega}};{rintro k j x (hj|rfl) h1 h2 h3;{rw[hom k];have:=ob1 k j x hj h1 h2 h3;cases hr:(rs i).om k with|none=>exact this|some y=>rw[z6v k y hr]at this;cases this};{rw[hom k,h3]}};{intro k h;rw[hom k,h i (.inr rfl) hpi ht];exact ob2 k fun j hj h1 h2=>h j (.inl hj) h1 h2}
  ·have hne:(rs i).t≠0:=by omega
   have hpl:=hpL hne;have hpi:p<=i:=by rw[hpl];exact Hx rs i
   have z62:∀j,D j->(rs j).t≠0->j<i:=by intro j hj htj;rcases Od.tt i j hi (hDl j hj) ht htj (fun e=>hiD (e ▸ hj))with⟨h1,_⟩|⟨_,ha⟩;{exact h1};{exact absurd ha (behind j hj)}
   have hom:∀k,om (c i) k=om sD k:=by intro k;rcases z6e k with⟨j,y,hj,hpj,htj,hy⟩|hB;{rw[ob1 k j y hj hpj htj hy];refine(K.obj k i (by omega)).1 j y (z62 j hj (by omega)) (by rw[<-hpl];exact hpj) htj hy};{rw[ob2 k hB,hpl];refine(K.obj k i (by omega)).2 fun j hj hpj htj=>?_;rw[<-hpl]at hpj;rcases Od.tt i j hi (by omega) ht (by omega) (by omega)with⟨_,ha⟩|⟨h1,_⟩;{exact hB j (before j (by omega) ha) hpj htj};{omega}}
   refine hdo.2.2 Γ w a g3 (hc.om hom) zj _ _ ?_;rintro u w' ⟨Γ',gle,kp,c',hv⟩;refine fin (p':=i+1) gle (gle.gl.trans g3) c' (by omega) (.inr ⟨i,rfl,ht,.inr rfl⟩) ?_ ?_ ?_ kp hv;{rintro k (hk|rfl) htk;{have:=z62 k hk (by omega);omega};{omega}};{rintro k j x (hj|rfl) h1 h2 h3;{have:=z62 j hj (by omega);omega};{omega}};{intro k _;rw[K.cs i o ho,Q5 ht]}
end
end
section
def q4X {p q} {i:Nat} (hi:p i=false) (hq:∀j,q j=(p j||j==i)):∀n,i<n->(fi n).countP q=(fi n).countP p+1:=by
 have low:∀m,m<=i->(fi m).countP q=(fi m).countP p:=by
  intro m hm;apply List.countP_congr;intro j hj;have:j≠i:=by have:=gp.1 hj;omega
  simp[hq j,this]
 intro n hn
 induction n with
 |zero=>omega|succ n ih=>
  rw[List.range_succ,vh,vh];by_cases h:i<n
  ·rw[ih h];have:n≠i:=by omega
   simp only[List.countP_singleton,hq n];have hb:(n==i)=false:=by simpa using this
   rw[hb,xy];omega
  ·have:n=i:=by omega
   subst this;rw[low n (bx _)];simp[hq n,hi]
section
variable {X:Cx} {ops:List Oper} {s0:S} {rs:Nat->Res} {c:Nat->S} {Γ0:G} {n:Nat}
def IZ.congr {D D'} (h:∀j,D j↔D' j) {a w} (hi:IZ X ops s0 rs c Γ0 n D a w):IZ X ops s0 rs c Γ0 n D' a w:=by have:D=D':=funext fun j=>propext (h j);rw[<-this];exact hi
def J8 {listed:Array Bool} {i:Nat} (hsz:listed.size=ops.length) (h:i∈nq .any ops.toArray listed):
  i<ops.length/\listed.getD i false=false/\∀j,dep ops i j->listed.getD j false=true:=by
 simp only[nq,iv,mi,gp,az,jt,kr]at h;obtain⟨h1,h2,h3⟩:=h;refine⟨h1,?_,?_⟩
 ·have:i<listed.size:=by omega
  simpa[qa,this]using h2
 ·rintro j ⟨o,ho,e,he,hb,rfl⟩;rw[ho]at h3;simp only[gj,jh,pg]at h3;have:=h3 e he;rw[hb]at this;simpa using this
def z1s (Od:Orders ops rs) {listed:Array Bool} (hsz:listed.size=ops.length) (h:nq .any ops.toArray listed=[]):∀i,i<ops.length->listed.getD i false=true:=by
 intro i
 induction i using xt with
 |_ i ih=>
  intro hi;cases hl:listed.getD i false with
  |true=>rfl|false=>
   exfalso;have:i∈nq .any ops.toArray listed:=by
    simp only[nq,iv,mi,gp,az,jt,kr];have hs:i<listed.size:=by omega
    refine⟨hi,by simpa[qa,hs]using hl,?_⟩;rw[bg hi];simp only[gj,jh,pg];intro e he;cases hb:tg .any e with
    |false=>rfl|true=>
     have hd:dep ops i e.on:=⟨_,bg hi,e,he,hb,rfl⟩;have hlt:=Od.lt i e.on hd;simp only[ta,jr];exact ih e.on hlt (by omega)
   rw[h]at this;cases this
def q3y (hP:Aq X.P=true) (K:Canon X ops s0 rs c) (Od:Orders ops rs) (hok:∀o∈ops,IG n o=true) {Q}
  (hQ:∀a w,IZ X ops s0 rs c Γ0 n (fun j=>j<ops.length) a w->Q .normal a w):
  ∀(fuel:Nat) (listed:Array Bool) (a:Act) (w:World),listed.size=ops.length->fuel+(fi ops.length).countP (fun j=>listed.getD j false)=ops.length->
   (∀i j,i<ops.length->listed.getD i false=true->dep ops i j->listed.getD j false=true)->
   IZ X ops s0 rs c Γ0 n (fun j=>j<ops.length/\listed.getD j false=true) a w->wpAny X.P .any ops.toArray Q fuel listed a w:=by
 intro fuel
 induction fuel with
 |zero=>
  intro listed a w hsz hc hcl hI;have yx:∀j,j<ops.length->listed.getD j false=true:=by
   have:(fi ops.length).countP (fun j=>listed.getD j false)=(fi ops.length).length:=by rw[List.length_range];omega
   rw[List.countP_eq_length]at this;exact fun j hj=>this j (gp.2 hj)
  refine⟨?_,hQ a w (hI.congr fun j=>⟨fun h=>h.1,fun h=>⟨h,yx j h⟩⟩)⟩;apply List.eq_nil_iff_forall_not_mem.2;intro i hi;obtain⟨h1,h2,_⟩:=J8 hsz hi;rw[yx i h1]at h2;cases h2
 |succ fuel ih=>
  intro listed a w hsz hc hcl hI;refine⟨fun hr=>hQ a w (hI.congr fun j=>⟨fun h=>h.1,fun h=>⟨h,z1s Od hsz hr j h⟩⟩),fun i hi=>?_⟩;obtain⟨h1,h2,h3⟩:=J8 hsz hi
  have hD:∀i j,(i<ops.length/\listed.getD i false=true)->dep ops i j->(j<ops.length/\listed.getD j false=true):=
   fun i j h hd=>⟨by have:=Od.lt i j hd;omega,hcl i j h.1 h.2 hd⟩
  have z7R:=z4C (Q:=Q) hP K Od hok (fun j h=>h.1) hD h1 (fun h=>by rw[h2]at h;cases h.2) (fun j hd=>⟨by have:=Od.lt i j hd;omega,h3 j hd⟩) hI;refine wpOp_mono ?_ z7R;intro a' w' hI';have z5V:∀j,(listed.setIfInBounds i true).getD j false=(listed.getD j false||j==i):=by
   intro j;simp only[im,Array.getElem?_setIfInBounds];by_cases hji:i=j
   ·subst hji;have:i<listed.size:=by omega
    simp[this]
   ·have:(j==i)=false:=by simpa using fun e=>hji e.symm
    simp[hji,this]
  refine ih _ a' w' (by simp[hsz]) ?_ ?_ (hI'.congr fun j=>?_);{have:=q4X (p:=fun j=>listed.getD j false) (q:=fun j=>(listed.setIfInBounds i true).getD j false) (i:=i) h2 z5V ops.length h1;omega}
  ·intro k j hk hlk hd;rw[z5V]at hlk ⊢;rcases ux.1 hlk with h|h;{rw[hcl k j hk h hd];rfl}
   ·have:k=i:=by simpa using h
    subst this;rw[h3 j hd];rfl
  ·rw[z5V];constructor;{rintro(h|rfl);{exact⟨h.1,by rw[h.2];rfl⟩};{exact⟨h1,by simp⟩}};{rintro⟨ha,hb⟩;rcases ux.1 hb with h|h;{exact .inl ⟨ha,h⟩};{exact .inr (by simpa using h)}}
def q7o (K:Canon X ops s0 rs c) {a w} (h:At X n Γ0 s0 a w):IZ X ops s0 rs c Γ0 n (fun j=>j<ops.length/\(nu ops.length false).getD j false=true) a w:=by
 obtain⟨Γ,g1,g3,hc,hs,hn,hf,hA⟩:=h;have no:∀j,¬(j<ops.length/\(nu ops.length false).getD j false=true):=by rintro j ⟨h1,h2⟩;simp[qa,h1]at h2
 exact⟨Γ,s0,0,g1,g3,hc,hA,hn,hf,dv _,.inl rfl,fun k h=>absurd h (no k),fun k j x h=>absurd h (no j),fun k _=>by rw[K.c0],fun j t h=>absurd h (no j),fun t _=>hs t⟩
def q7n (K:Canon X ops s0 rs c) (Od:Orders ops rs) {a w} (h:IZ X ops s0 rs c Γ0 n (fun j=>j<ops.length) a w):At X n Γ0 (c ops.length) a w:=by
 obtain⟨Γ,sD,p,g1,g3,hc,hA,hn,hf,hp0,hp1,hp2,ob1,ob2,ew,e0⟩:=h;have hpl:p=Bc rs ops.length:=by
  have h1:p<=Bc rs ops.length:=by rcases hp1 with h|⟨k,h1,h2,h3⟩;{omega};{have:=WW rs ops.length k h3 h2;omega}
  have h2:Bc rs ops.length<=p:=by rcases dS rs ops.length with h|⟨k,h3,h4⟩;{omega};{have:=Hx rs ops.length;have:=hp2 k (by omega) h4;omega}
  omega
 have hom:∀k,om (c ops.length) k=om sD k:=by
  intro k;by_cases h:∃j x,j<ops.length/\p<=j/\(rs j).t=1/\(rs j).om k=some x;{obtain⟨j,x,h1,h2,h3,h4⟩:=h;rw[ob1 k j x h1 h2 h3 h4];exact(K.obj k _ (bx _)).1 j x h1 (by rw[<-hpl];exact h2) h3 h4}
  ·have hn:∀j,j<ops.length->p<=j->(rs j).t=1->(rs j).om k=none:=by
    intro j h1 h2 h3;cases hr:(rs j).om k with
    |none=>rfl|some x=>exact absurd ⟨j,x,h1,h2,h3,hr⟩ h
   rw[ob2 k hn,hpl];exact(K.obj k _ (bx _)).2 fun j h1 h2 h3=>hn j h1 (by rw[hpl];exact h2) h3
 refine⟨Γ,g1,g3,hc.om hom,fun t=>?_,hn,hf,by rw[K.A _ (bx _)];exact hA⟩;by_cases hw:∃j,j<ops.length/\writes ops j t;{obtain⟨j,hj,hw⟩:=hw;rw[K.HL Od hw _ hj (bx _)];exact ew j t hj hw};{rw[K.WG (t:=t) _ (bx _) (fun j hj h=>hw ⟨j,hj,h⟩)];exact e0 t (fun j hj h=>hw ⟨j,hj,h⟩)}
def rT (hP:Aq X.P=true) (hm:X.P.follows .mixedOrders=true) {id:Nat} {Ψ} (K:Canon X ops s0 rs c) (Od:Orders ops rs) (hok:∀o∈ops,IG n o=true) (h:Ψ .normal (c ops.length)):
  DC X n (.region id ops.toArray true) s0 Ψ:=by
 intro Γ0 a w hat;obtain⟨Γ,g1,g3,hc,hs,hn,hf⟩:=hat;have z6r:At X n Γ0 s0 a {w with drawn:=w.drawn+1}:=by exact⟨Γ,g1,g3,hc.ext (Ext.drew w),hs,hn,hf⟩
 refine wp_region_any hm ?_;refine q3y hP K Od hok (fun a w hI=>⟨c ops.length,h,q7n K Od hI⟩) ops.length (nu ops.length false) a _ (by simp) ?_ ?_ (q7o K z6r)
 ·have:(fi ops.length).countP (fun j=>(nu ops.length false).getD j false)=0:=by apply List.countP_eq_zero.2;intro j hj;simp[qa,gp.1 hj]
  omega
 ·intro i j hi hl;simp[qa,hi]at hl
end
end
def Nx (o:Oper):List Nat:=(o.after.toList.filter (tg .any)).map (·.on)
def q82 (acc:List Nat) (ds:List Nat):Nat:=ds.foldl (fun m k=>m|||2^k|||acc.getD k 0) 0
def Nc:List Oper->List Nat->List Nat
 | [],acc=>acc|o::rest,acc=>Nc rest (acc++[q82 acc (Nx o)])
def q3v (ops:List Oper) (j i:Nat):Bool:=((Nc ops []).getD i 0).testBit j
def q2l (acc:List Nat) (j:Nat):∀(ds:List Nat) (m:Nat),(ds.foldl (fun m k=>m|||2^k|||acc.getD k 0) m).testBit j=true->m.testBit j=true\/∃k∈ds,j=k\/(acc.getD k 0).testBit j=true
 | [],m,h=>.inl h|k::ds,m,h=>by rcases q2l acc j ds _ h with h1|⟨k',hk,h1⟩;{simp only[Nat.testBit_or,tc,Nat.testBit_two_pow,decide_eq_true_eq]at h1;rcases h1 with(h1|h1)|h1;{exact .inl h1};{exact .inr ⟨k,by simp,.inl h1.symm⟩};{exact .inr ⟨k,by simp,.inr h1⟩}};{exact .inr ⟨k',by simp[hk],h1⟩}
def q87 {ops} {i k:Nat} {o} (ho:ops[i]? =some o) (h:k∈Nx o):dep ops i k:=by simp only[Nx,ny,mi]at h;obtain⟨e,⟨h1,h2⟩,h3⟩:=h;exact⟨o,ho,e,by simpa using h1,h2,h3⟩
def q5m {ops} {i k:Nat} {o} (ho:ops[i]? =some o) (h:dep ops i k):k∈Nx o:=by obtain⟨o',h1,e,h2,h3,h4⟩:=h;rw[ho]at h1;cases h1;simp only[Nx,ny,mi];exact⟨e,⟨by simpa using h2,h3⟩,h4⟩
def pP (ops:List Oper):∀(rest done:List Oper) (acc:List Nat),ops=done++rest->acc.length=done.length->(∀i j,(acc.getD i 0).testBit j=true->Anc ops j i)->
  ∀i j,((Nc rest acc).getD i 0).testBit j=true->Anc ops j i
 | [],_,acc,_,_,h=>h|o::rest,done,acc,he,hl,h=>by
  refine pP ops rest (done++[o]) _ (by simp[he]) (by simp[hl]) ?_;intro i j hij;have ho:ops[acc.length]? =some o:=by rw[he,hl];simp
  simp only[bh]at hij;by_cases hi:i<acc.length;{rw[fm hi]at hij;exact h i j (by simpa[bh]using hij)};{by_cases hi2:i=acc.length;{subst hi2;simp only[List.getElem?_concat_length,jh]at hij;rcases q2l acc j _ _ hij with h1|⟨k,hk,h1⟩;{simp at h1};{have hd:=q87 ho hk;rcases h1 with rfl|h1;{exact .one hd};{exact .step hd (h k j h1)}}};{rw[gb (by simp;omega)]at hij;simp at hij}}
def pO {ops} {j i:Nat} (h:q3v ops j i=true):Anc ops j i:=
 pP ops ops [] [] rfl rfl (fun i j h=>by simp at h) i j h
def tmpsOf:List Operand->List Nat
 | []=>[]| .tmp t::l=>t::tmpsOf l|_::l=>tmpsOf l
def lk (ops:Array Oper) (o:Oper):List Nat:=
 tmpsOf o.op.operands.toList++(match o.guard with|some (g,_)=>(match GS ops g with|some t=>[t] |none=>[])|none=>[])
def ag {t:Nat}:∀{l:List Operand},Operand.tmp t∈l->t∈tmpsOf l
 | [],h=>by simp at h
 |y::l,h=>by rcases fz.1 h with h1|h1;{subst h1;simp[tmpsOf]};{have:=ag h1;cases y <;> simp[tmpsOf,this]}
def q88 {ops} {o:Oper} {t:Nat} (h:t∈o.looksAt ops):t∈lk ops o:=by
 simp only[uc,dw,vi]at h;simp only[lk,dw];rcases h with⟨y,hy,ht⟩|h;{left;cases y <;> simp at ht;subst ht;exact ag hy}
 ·right;cases hg:o.guard with
  |none=>simp[hg]at h|some x=>
   obtain⟨g,b⟩:=x;simp only[hg]at h ⊢;simp only[GS];cases hs:(ops[g]?).bind (·.dst)with
   |none=>simp[hs]at h|some t'=>simpa[hs]using h
def PJ (ops:List Oper) (ts:List Nat):Bool:=
 let m:=Nc ops []
 let anc:=fun j i=>(m.getD i 0).testBit j
 let ix:=fi ops.length
 let both:=fun i j=>(decide (j<i)&&anc j i)||(decide (i<j)&&anc i j)
 (ix.all fun i=>match ops[i]? with|some o=>(Nx o).all fun k=>decide (k<i)|none=>true)&&
 (ix.all fun i=>ts.getD i 0 != 2||ix.all fun j=>ts.getD j 0==0||j==i||both i j)&&
 (ix.all fun j=>match(ops[j]?).bind (·.dst)with
  |none=>true
  |some t=>ix.all fun i=>j==i||((match(ops[i]?).bind (·.dst)with|some t'=>t' != t|none=>true)&&
    (match ops[i]? with|some o=> !(lk ops.toArray o).contains t||both i j|none=>true)))
def s00:S:=⟨[],[],fun _=>none,[]⟩
def UX (k:Key):s00.obj k=none:=by cases k <;> rfl
def kop (X:Cx) (md:List (Nat × Nat)) (k:Option Nat) (base s:S) (o:Oper) (K0:V->Prop) (K1:V->List (Key × O)->List (Nat × Option Nat)->Prop) (K2:V->S->Prop):Prop:=
 match k with
 |some 0=>iop X md s00 (Ab o) o (Ak X.gl s) s00 (fun v lo tn=>lo=[]/\tn=[]/\K0 v)\/fop X o (Ak X.gl s) K0|some 1=>iop X md base (Ab o) o (Ak X.gl s) s K1|some 2=>top X md (Ab o) o (Ak X.gl s) s K2|_=>False
def vd (X:Cx) (md:List (Nat × Nat)) (ops:Array Oper) (Φ:S->Prop):List Oper->List Nat->S->S->Prop
 | [],_,_,s=>Φ s|o::rest,ts,base,s=>
  match o.guard with
  |none=>kop X md ts.head? base s o (fun v=>vd X md ops Φ rest ts.tail base (s.set o.dst v))
    (fun v lo tn=>FR s lo/\FT s tn/\vd X md ops Φ rest ts.tail base ((s.add lo tn).set o.dst v))
    (fun v s'=>vd X md ops Φ rest ts.tail (s'.set o.dst v) (s'.set o.dst v))
  |some (j,want)=>gx (gv ops s j) want (kop X md ts.head? base s o (fun v=>vd X md ops Φ rest ts.tail base (s.set o.dst v))
         (fun v lo tn=>FR s lo/\FT s tn/\vd X md ops Φ rest ts.tail base ((s.add lo tn).set o.dst v))
         (fun v s'=>vd X md ops Φ rest ts.tail (s'.set o.dst v) (s'.set o.dst v)))
     (vd X md ops Φ rest ts.tail base (s.set o.dst (.tup [])))
section
def lX:Res:=⟨0,.any,[],[],s00⟩
def BH (rl:List Res) (i:Nat):Res:=rl.getD i lX
def cst (s0:S) (ops:List Oper) (rl:List Res):Nat->S
 |0=>s0|i+1=>match ops[i]? with|some o=>(cst s0 ops rl i).step o (BH rl i)|none=>cst s0 ops rl i
def YP {rl q:List Res} {i:Nat} (h:i<rl.length):BH (rl++q) i=BH rl i:=by simp only[BH,bh,fm h]
def QG (rl:List Res) (r:Res):BH (rl++[r]) rl.length=r:=by simp[BH,bh]
def MK {s0 ops} {rl q:List Res}:∀i,i<=rl.length->cst s0 ops (rl++q) i=cst s0 ops rl i
 |0,_=>rfl|i+1,h=>by simp only[cst];rw[MK i (by omega),YP (by omega)]
def Rr {rl q:List Res}:∀i,i<=rl.length->Bc (BH (rl++q)) i=Bc (BH rl) i
 |0,_=>rfl|i+1,h=>by simp only[Bc];rw[Rr i (by omega),YP (by omega)]
section
variable {X:Cx} {Q:S->Prop} {ops:List Oper} {s0:S} {Φ:S->Prop} {ts0:List Nat} {md:List (Nat × Nat)}
structure Pre (X:Cx) (Q:S->Prop) (ops:List Oper) (s0:S) (ts0:List Nat) (pre:List Res):Prop where
 ok:∀i o,i<pre.length->ops[i]? =some o->OkR X Q ops.toArray (cst s0 ops pre (Bc (BH pre) i)) (cst s0 ops pre i) o (BH pre i)
 kind:∀i,i<pre.length->(BH pre i).t=0\/(BH pre i).t=ts0.getD i 0
 tri:∀i,(BH pre i).t=0\/(BH pre i).t=1\/(BH pre i).t=2
def Pre.snoc {pre:List Res} (p:Pre X Q ops s0 ts0 pre) {o} (ho:ops[pre.length]? =some o) {r:Res}
  (hok:OkR X Q ops.toArray (cst s0 ops pre (Bc (BH pre) pre.length)) (cst s0 ops pre pre.length) o r) (hk:r.t=0\/r.t=ts0.getD pre.length 0) (z63:r.t=0\/r.t=1\/r.t=2):Pre X Q ops s0 ts0 (pre++[r]):=by
 have rl:∀i,i<pre.length->BH (pre++[r]) i=BH pre i:=fun i h=>YP h;have cl:∀i,i<=pre.length->cst s0 ops (pre++[r]) i=cst s0 ops pre i:=fun i h=>MK i h;have tl:∀i,i<=pre.length->Bc (BH (pre++[r])) i=Bc (BH pre) i:=fun i h=>Rr i h;have z50:BH (pre++[r]) pre.length=r:=QG pre r;have cases_:∀i,i<(pre++[r]).length->i<pre.length\/i=pre.length:=by intro i h;simp at h;omega
 refine⟨?_,?_,?_⟩;{intro i o' hi ho';rcases cases_ i hi with h|rfl;{rw[rl i h,cl i (by omega),tl i (by omega),cl _ (by have:=Hx (BH pre) i;omega)];exact p.ok i o' h ho'};{rw[ho]at ho';cases ho';rw[z50,cl _ (bx _),tl _ (bx _),cl _ (Hx _ _)];exact hok}};{intro i hi;rcases cases_ i hi with h|rfl;{rw[rl i h];exact p.kind i h};{rw[z50];exact hk}};{intro i;by_cases h:i<pre.length;{rw[rl i h];exact p.tri i};{by_cases h2:i=pre.length;{subst h2;rw[z50];exact z63};{left;simp only[BH,bh];rw[gb (by simp;omega)];rfl}}}
def q2D (hP:Aq X.P=true):∀(rest:List Oper) (ts:List Nat) (pre:List Res) (done:List Oper),
  ops=done++rest->pre.length=done.length->ts=ts0.drop pre.length->Pre X Q ops s0 ts0 pre->
  vd X md ops.toArray Φ rest ts (cst s0 ops pre (Bc (BH pre) pre.length)) (cst s0 ops pre pre.length)->
  ∃rl,rl.length=ops.length/\Pre X Q ops s0 ts0 rl/\Φ (cst s0 ops rl ops.length)
 | [],ts,pre,done,he,hl,_,p,h=>by
  have:pre.length=ops.length:=by rw[he,hl];simp
  exact⟨pre,this,p,by rw[<-this];simpa[vd]using h⟩
 |o::rest,ts,pre,done,he,hl,hts,p,h=>by
  have ho:ops[pre.length]? =some o:=by rw[he,hl];simp
  have next:∀(r:Res),Pre X Q ops s0 ts0 (pre++[r])->
    vd X md ops.toArray Φ rest ts.tail (if r.t=2 then(cst s0 ops pre pre.length).step o r else cst s0 ops pre (Bc (BH pre) pre.length)) ((cst s0 ops pre pre.length).step o r)->
    ∃rl,rl.length=ops.length/\Pre X Q ops s0 ts0 rl/\Φ (cst s0 ops rl ops.length):=by
   intro r p' hv;refine q2D hP rest ts.tail (pre++[r]) (done++[o]) (by simp[he]) (by simp[hl]) ?_ p' ?_;{rw[hts];simp}
   ·have e1:cst s0 ops (pre++[r]) (pre++[r]).length=(cst s0 ops pre pre.length).step o r:=by rw[bt];simp only[cg,de,Nat.zero_add,cst,ho];rw[MK _ (bx _),QG]
    have e2:cst s0 ops (pre++[r]) (Bc (BH (pre++[r])) (pre++[r]).length)=if r.t=2 then(cst s0 ops pre pre.length).step o r else cst s0 ops pre (Bc (BH pre) pre.length):=by
     have e3:(pre++[r]).length=pre.length+1:=by simp
     rw[e3];simp only[Bc,QG];split;{rw[<-e3];exact e1};{rw[Rr _ (bx _),MK _ (Hx _ _)]}
    rw[e1,e2];exact hv
  have kind:∀k,ts.head? =some k->k=ts0.getD pre.length 0:=by intro k hk;rw[hts,xa]at hk;simp[bh,hk]
  simp only[vd]at h;generalize hs:cst s0 ops pre pre.length=s at*
  have skip:GB ops.toArray s o=some false->vd X md ops.toArray Φ rest ts.tail (cst s0 ops pre (Bc (BH pre) pre.length)) (s.set o.dst (.tup []))->
    ∃rl,rl.length=ops.length/\Pre X Q ops s0 ts0 rl/\Φ (cst s0 ops rl ops.length):=by
   intro hw hv;exact next ⟨0,.tup [],[],[],s00⟩ (p.snoc ho (.inl ⟨by rw[hs];exact hw,rfl,rfl⟩) (.inl rfl) (.inl rfl)) hv
  have go:GB ops.toArray s o=some true->kop X md ts.head? (cst s0 ops pre (Bc (BH pre) pre.length)) s o
      (fun v=>vd X md ops.toArray Φ rest ts.tail (cst s0 ops pre (Bc (BH pre) pre.length)) (s.set o.dst v))
      (fun v lo tn=>FR s lo/\FT s tn/\vd X md ops.toArray Φ rest ts.tail (cst s0 ops pre (Bc (BH pre) pre.length)) ((s.add lo tn).set o.dst v))
      (fun v s'=>vd X md ops.toArray Φ rest ts.tail (s'.set o.dst v) (s'.set o.dst v))->∃rl,rl.length=ops.length/\Pre X Q ops s0 ts0 rl/\Φ (cst s0 ops rl ops.length):=by
   intro hw hr;unfold kop at hr;split at hr
   ·rcases hr with hr|hr
    rotate_left
    ·obtain⟨v,hv,hI⟩:=cH hP hr;have hd:NX X Q o (Ak X.gl s) v:=fun Γ w a s' hgl c _ zj=>hI Γ w a s' c zj;exact next ⟨0,v,[],[],s00⟩ (p.snoc ho (.inr ⟨by rw[hs];exact hw,.inl ⟨rfl,by rw[hs];exact hd⟩⟩) (.inl rfl) (.inl rfl)) hv
    obtain⟨v,lo,tn,⟨rfl,rfl,hv⟩,hI⟩:=MV hP hr
    have hd:NX X Q o (Ak X.gl s) v:=fun Γ w a s' hgl c _ zj=>
     hI Γ w a s' hgl c ⟨fun k o h=>(by rw[UX]at h;cases h),fun k o h=>(by rw[UX]at h;cases h)⟩ ⟨fun k o h=>(by simp[AR]at h),fun t x h=>(by simp[look]at h)⟩ zj
    exact next ⟨0,v,[],[],s00⟩ (p.snoc ho (.inr ⟨by rw[hs];exact hw,.inl ⟨rfl,by rw[hs];exact hd⟩⟩) (.inl rfl) (.inl rfl)) hv
   ·rename_i hk;obtain⟨v,lo,tn,⟨hf1,hf2,hv⟩,hI⟩:=MV hP hr;exact next ⟨1,v,lo,tn,s00⟩ (p.snoc ho (.inr ⟨by rw[hs];exact hw,.inr (.inl ⟨rfl,by rw[hs];exact hI,by rw[hs];exact WB hf1 hf2⟩)⟩) (.inr (kind 1 hk)) (.inr (.inl rfl))) hv
   ·rename_i hk;obtain⟨v,s1,hv,hT⟩:=Yk hP hr;exact next ⟨2,v,[],[],s1⟩ (p.snoc ho (.inr ⟨by rw[hs];exact hw,.inr (.inr ⟨rfl,by rw[hs];exact hT⟩)⟩) (.inr (kind 2 hk)) (.inr (.inr rfl))) hv
   ·exact hr.elim
  split at h;{rename_i hg;exact go (by simp[GB,hg]) h}
  ·rename_i j want hg;cases ht:GS ops.toArray j with
   |none=>simp[gv,ht,gx]at h|some t=>
    simp only[gv,ht]at h;unfold gx at h;split at h;{rename_i cb hb;by_cases hbw:cb.toBool=want;{exact go (by simp[GB,hg,ht,hb,hbw]) (h.1 hbw)};{exact skip (by simp[GB,hg,ht,hb,hbw]) (h.2 hbw)}};{rename_i hb;exact skip (by simp[GB,hg,ht,hb]) h};{exact h.elim}
end
section
variable {X:Cx} {n:Nat} {s:S} {Ψ:Exit->S->Prop}
def qP {ops} {i j:Nat} (h:((decide (j<i)&&((Nc ops []).getD i 0).testBit j)||(decide (i<j)&&((Nc ops []).getD j 0).testBit i))=true):(j<i/\Anc ops j i)\/(i<j/\Anc ops i j):=by simp only[tc,az,decide_eq_true_eq]at h;rcases h with⟨h1,h2⟩|⟨h1,h2⟩;{exact .inl ⟨h1,pO h2⟩};{exact .inr ⟨h1,pO h2⟩}
def Z5 {Q} {ops:List Oper} {ts:List Nat} {s0} {rl:List Res} (hl:rl.length=ops.length) (p:Pre X Q ops s0 ts rl) (h:PJ ops ts=true):
  Orders ops (BH rl):=by
 simp only[PJ,az,eh,gp]at h;obtain⟨⟨h1,h2⟩,h3⟩:=h;refine⟨?_,?_,?_,?_⟩;{intro i j hd;obtain⟨o,ho,_⟩:=id hd;have hi:i<ops.length:=(bu.1 ho).1;have:=h1 i hi;rw[ho]at this;simp only[eh,decide_eq_true_eq]at this;exact this j (q5m ho hd)}
 ·intro i j hi hj ht htj hji;have hk:=p.kind i (by omega);have hti:ts.getD i 0=2:=by rcases hk with h|h <;> omega
  have z8j:ts.getD j 0≠0:=by rcases p.kind j (by omega)with h|h;{exact absurd h htj};{rw[<-h];exact htj}
  have:=h2 i hi;rw[hti]at this;simp only[bne_self_eq_false,jr,eh,gp]at this;have:=this j hj;have e1:(ts.getD j 0==0)=false:=by simpa using z8j
  have e2:(j==i)=false:=by simpa using hji
  rw[e1,e2]at this;simp only[jr]at this;exact qP this
 ·rintro i j t hji ⟨o,ho,hd⟩ ⟨o',ho',hl'⟩;have hj:j<ops.length:=(bu.1 ho).1;have hi:i<ops.length:=(bu.1 ho').1;have:=h3 j hj;rw[ho]at this;simp only[gh,hd,eh,gp]at this;have:=this i hi;have e2:(j==i)=false:=by simpa using hji
  rw[e2,ho']at this;have e3:(lk ops.toArray o').contains t=true:=by simpa using q88 hl'
  simp only[jr,az,e3,ta]at this;exact qP this.2
 ·rintro i j t ⟨o,ho,hd⟩ ⟨o',ho',hd'⟩;refine qi fun hne=>?_;have hi:i<ops.length:=(bu.1 ho).1;have hj:j<ops.length:=(bu.1 ho').1;have:=h3 j hj;rw[ho']at this;simp only[gh,hd',eh,gp]at this;have:=this i hi;have e2:(j==i)=false:=by simpa using fun e=>hne e.symm
  rw[e2,ho]at this;simp[hd]at this
def q40 (hP:Aq X.P=true) (hm:X.P.follows .mixedOrders=true) (md:List (Nat × Nat)) {id:Nat} {l:List Oper} (ts:List Nat) (hok:l.all (IG n)=true) (z64:PJ l ts=true)
  (h:vd X md l.toArray (fun s'=>Ψ .normal s') l ts s s):DC X n (.region id l.toArray true) s Ψ:=by
 have p0:Pre X (fun _=>True) l s ts []:=⟨fun i o h=>by simp at h,fun i h=>by simp at h,fun i=>.inl (by simp[BH,lX])⟩;obtain⟨rl,hl,p,hΦ⟩:=q2D hP l ts [] [] rfl rfl (by simp) p0 h;have K:Canon X l s (BH rl) (cst s l rl):=⟨rfl,fun i o ho=>by simp only[cst,ho],fun i o ho=>(p.ok i o (by rw[hl];exact(bu.1 ho).1) ho).mono fun _ _=>trivial,p.tri⟩;exact rT hP hm K (Z5 hl p z64) (fun o ho=>eh.1 hok o ho) hΦ
end
end
section
def tK:Nat->Nat
 |3=>2|4=>0|n=>n
def sF (F:List Key) (s:S):S:=⟨[],F.filterMap fun k=>(s.obj k).map fun o=>(k,o),fun _=>none,[]⟩
def q8V {F:List Key} {s:S} {k o}:AR (F.filterMap fun k=>(s.obj k).map fun o=>(k,o)) k=some o->k∈F/\s.obj k=some o:=by
 induction F with
 |nil=>intro h;simp[AR]at h|cons f F ih=>
  intro h;simp only[List.filterMap_cons]at h;cases hf:s.obj f with
  |none=>
   rw[hf]at h;exact⟨ez _ (ih h).1,(ih h).2⟩
  |some o'=>
   rw[hf]at h;simp only[gj,AR]at h;by_cases e:f=k;{subst e;simp at h;subst h;exact⟨List.mem_cons_self ..,hf⟩}
   ·have:(if f=k then some o' else AR (F.filterMap fun k=>(s.obj k).map fun o=>(k,o)) k)=some o:=by simpa using h
    rw[if_neg e]at this;exact⟨ez _ (ih this).1,(ih this).2⟩
def QF (F:List Key) (s s':S):Prop:=∀k∈F,∀o,s.obj k=some o->s'.obj k=some o
def YT {F} {s:S} {k o} (h:(sF F s).obj k=some o):k∈F/\s.obj k=some o:=by
 unfold jj sF Bx at h;dsimp only at h;cases hl:AR (F.filterMap fun k=>(s.obj k).map fun o=>(k,o)) k with
 |some o'=>
  rw[hl]at h;cases h;exact q8V hl
 |none=>
  rw[hl]at h;cases k <;> cases h
def JY (X:Cx) (F:List Key) (md:List (Nat × Nat)) (k:Option Nat) (base s:S) (o:Oper) (K0:V->Prop) (K1:V->List (Key × O)->List (Nat × Option Nat)->Prop) (K2:V->S->Prop):Prop:=
 match k with
 |some 4=>iop X md (sF F s) (Ab o) o (Ak X.gl s) (sF F s) (fun v lo tn=>lo=[]/\tn=[]/\K0 v)|some 3=>top X md (Ab o) o (Ak X.gl s) s fun v s'=>(∀k∈F,s'.obj k=s.obj k)/\K2 v s'|some 2=>False|k=>kop X md k base s o K0 K1 K2
def vdF (X:Cx) (F:List Key) (md:List (Nat × Nat)) (ops:Array Oper) (Φ:S->Prop):List Oper->List Nat->S->S->Prop
 | [],_,_,s=>Φ s|o::rest,ts,base,s=>
  match o.guard with
  |none=>JY X F md ts.head? base s o (fun v=>vdF X F md ops Φ rest ts.tail base (s.set o.dst v))
    (fun v lo tn=>FR s lo/\FT s tn/\vdF X F md ops Φ rest ts.tail base ((s.add lo tn).set o.dst v))
    (fun v s'=>vdF X F md ops Φ rest ts.tail (s'.set o.dst v) (s'.set o.dst v))
  |some (j,want)=>gx (gv ops s j) want (JY X F md ts.head? base s o (fun v=>vdF X F md ops Φ rest ts.tail base (s.set o.dst v))
         (fun v lo tn=>FR s lo/\FT s tn/\vdF X F md ops Φ rest ts.tail base ((s.add lo tn).set o.dst v))
         (fun v s'=>vdF X F md ops Φ rest ts.tail (s'.set o.dst v) (s'.set o.dst v)))
     (vdF X F md ops Φ rest ts.tail base (s.set o.dst (.tup [])))
section
variable {X:Cx} {F:List Key} {ops:List Oper} {s0:S} {Φ:S->Prop} {ts0:List Nat} {md:List (Nat × Nat)}
structure Ge (X:Cx) (F:List Key) (ops:List Oper) (s0:S) (ts0:List Nat) (pre:List Res):Prop where
 ok:∀i o,i<pre.length->ops[i]? =some o->OkR X (QF F (cst s0 ops pre i)) ops.toArray (cst s0 ops pre (Bc (BH pre) i)) (cst s0 ops pre i) o (BH pre i)
 kind:∀i,i<pre.length->(BH pre i).t=0\/(BH pre i).t=tK (ts0.getD i 0)
 tri:∀i,(BH pre i).t=0\/(BH pre i).t=1\/(BH pre i).t=2
 yv:∀i,i<pre.length->(BH pre i).t=2->∀k∈F,(BH pre i).s1.obj k=(cst s0 ops pre i).obj k
def Ge.snoc {pre:List Res} (p:Ge X F ops s0 ts0 pre) {o} (ho:ops[pre.length]? =some o) {r:Res}
  (hok:OkR X (QF F (cst s0 ops pre pre.length)) ops.toArray (cst s0 ops pre (Bc (BH pre) pre.length)) (cst s0 ops pre pre.length) o r) (hk:r.t=0\/r.t=tK (ts0.getD pre.length 0)) (z63:r.t=0\/r.t=1\/r.t=2)
  (z7S:r.t=2->∀k∈F,r.s1.obj k=(cst s0 ops pre pre.length).obj k):Ge X F ops s0 ts0 (pre++[r]):=by
 have rl:∀i,i<pre.length->BH (pre++[r]) i=BH pre i:=fun i h=>YP h;have cl:∀i,i<=pre.length->cst s0 ops (pre++[r]) i=cst s0 ops pre i:=fun i h=>MK i h;have tl:∀i,i<=pre.length->Bc (BH (pre++[r])) i=Bc (BH pre) i:=fun i h=>Rr i h;have z50:BH (pre++[r]) pre.length=r:=QG pre r;have cases_:∀i,i<(pre++[r]).length->i<pre.length\/i=pre.length:=by intro i h;simp at h;omega
 refine⟨?_,?_,?_,?_⟩;{intro i o' hi ho';rcases cases_ i hi with h|rfl;{rw[rl i h,cl i (by omega),tl i (by omega),cl _ (by have:=Hx (BH pre) i;omega)];exact p.ok i o' h ho'};{rw[ho]at ho';cases ho';rw[z50,cl _ (bx _),tl _ (bx _),cl _ (Hx _ _)];exact hok}};{intro i hi;rcases cases_ i hi with h|rfl;{rw[rl i h];exact p.kind i h};{rw[z50];exact hk}};{intro i;by_cases h:i<pre.length;{rw[rl i h];exact p.tri i};{by_cases h2:i=pre.length;{subst h2;rw[z50];exact z63};{left;simp only[BH,bh];rw[gb (by simp;omega)];rfl}}};{intro i hi ht;rcases cases_ i hi with h|rfl;{rw[rl i h,cl i (by omega)];rw[rl i h]at ht;exact p.yv i h ht};{rw[z50,cl _ (bx _)];rw[z50]at ht;exact z7S ht}}
def q2E (hP:Aq X.P=true):∀(rest:List Oper) (ts:List Nat) (pre:List Res) (done:List Oper),
  ops=done++rest->pre.length=done.length->ts=ts0.drop pre.length->Ge X F ops s0 ts0 pre->
  vdF X F md ops.toArray Φ rest ts (cst s0 ops pre (Bc (BH pre) pre.length)) (cst s0 ops pre pre.length)->
  ∃rl,rl.length=ops.length/\Ge X F ops s0 ts0 rl/\Φ (cst s0 ops rl ops.length)
 | [],ts,pre,done,he,hl,_,p,h=>by
  have:pre.length=ops.length:=by rw[he,hl];simp
  exact⟨pre,this,p,by rw[<-this];simpa[vdF]using h⟩
 |o::rest,ts,pre,done,he,hl,hts,p,h=>by
  have ho:ops[pre.length]? =some o:=by rw[he,hl];simp
  have next:∀(r:Res),Ge X F ops s0 ts0 (pre++[r])->
    vdF X F md ops.toArray Φ rest ts.tail (if r.t=2 then(cst s0 ops pre pre.length).step o r else cst s0 ops pre (Bc (BH pre) pre.length)) ((cst s0 ops pre pre.length).step o r)->
    ∃rl,rl.length=ops.length/\Ge X F ops s0 ts0 rl/\Φ (cst s0 ops rl ops.length):=by
   intro r p' hv;refine q2E hP rest ts.tail (pre++[r]) (done++[o]) (by simp[he]) (by simp[hl]) ?_ p' ?_;{rw[hts];simp}
   ·have e1:cst s0 ops (pre++[r]) (pre++[r]).length=(cst s0 ops pre pre.length).step o r:=by rw[bt];simp only[cg,de,Nat.zero_add,cst,ho];rw[MK _ (bx _),QG]
    have e2:cst s0 ops (pre++[r]) (Bc (BH (pre++[r])) (pre++[r]).length)=if r.t=2 then(cst s0 ops pre pre.length).step o r else cst s0 ops pre (Bc (BH pre) pre.length):=by
     have e3:(pre++[r]).length=pre.length+1:=by simp
     rw[e3];simp only[Bc,QG];split;{rw[<-e3];exact e1};{rw[Rr _ (bx _),MK _ (Hx _ _)]}
    rw[e1,e2];exact hv
  have kind:∀k,ts.head? =some k->k=ts0.getD pre.length 0:=by intro k hk;rw[hts,xa]at hk;simp[bh,hk]
  simp only[vdF]at h;generalize hs:cst s0 ops pre pre.length=s at*
  have skip:GB ops.toArray s o=some false->vdF X F md ops.toArray Φ rest ts.tail (cst s0 ops pre (Bc (BH pre) pre.length)) (s.set o.dst (.tup []))->
    ∃rl,rl.length=ops.length/\Ge X F ops s0 ts0 rl/\Φ (cst s0 ops rl ops.length):=by
   intro hw hv;exact next ⟨0,.tup [],[],[],s00⟩ (p.snoc ho (.inl ⟨by rw[hs];exact hw,rfl,rfl⟩) (.inl rfl) (.inl rfl) (fun e=>by cases e)) hv
  have go:GB ops.toArray s o=some true->JY X F md ts.head? (cst s0 ops pre (Bc (BH pre) pre.length)) s o
      (fun v=>vdF X F md ops.toArray Φ rest ts.tail (cst s0 ops pre (Bc (BH pre) pre.length)) (s.set o.dst v))
      (fun v lo tn=>FR s lo/\FT s tn/\vdF X F md ops.toArray Φ rest ts.tail (cst s0 ops pre (Bc (BH pre) pre.length)) ((s.add lo tn).set o.dst v))
      (fun v s'=>vdF X F md ops.toArray Φ rest ts.tail (s'.set o.dst v) (s'.set o.dst v))->∃rl,rl.length=ops.length/\Ge X F ops s0 ts0 rl/\Φ (cst s0 ops rl ops.length):=by
   intro hw hr;unfold JY at hr;split at hr
   ·obtain⟨v,lo,tn,⟨rfl,rfl,hv⟩,hI⟩:=MV hP hr
    have hd:NX X (QF F s) o (Ak X.gl s) v:=fun Γ w a s' hgl c hq zj=>
     hI Γ w a s' hgl c ⟨fun k o h _=>hq k (YT h).1 o (YT h).2,fun k o h=>hq k (YT h).1 o (YT h).2⟩ ⟨fun k o h=>(by simp[AR]at h),fun t x h=>(by simp[look]at h)⟩ zj
    exact next ⟨0,v,[],[],s00⟩ (p.snoc ho (.inr ⟨by rw[hs];exact hw,.inl ⟨rfl,by rw[hs];exact hd⟩⟩) (.inl rfl) (.inl rfl) (fun e=>by cases e)) hv
   ·rename_i hk;obtain⟨v,s1,⟨hkp,hv⟩,hT⟩:=Yk hP hr;exact next ⟨2,v,[],[],s1⟩ (p.snoc ho (.inr ⟨by rw[hs];exact hw,.inr (.inr ⟨rfl,by rw[hs];exact hT⟩)⟩) (.inr (by rw[<-kind 3 hk];rfl)) (.inr (.inr rfl)) (fun _ k hk=>by rw[hs];exact hkp k hk)) hv
   ·exact hr.elim
   ·rename_i hn4 hn3 hn2;unfold kop at hr;split at hr
    ·rcases hr with hr|hr
     rotate_left
     ·obtain⟨v,hv,hI⟩:=cH hP hr;have hd:NX X (QF F s) o (Ak X.gl s) v:=fun Γ w a s' hgl c _ zj=>hI Γ w a s' c zj;exact next ⟨0,v,[],[],s00⟩ (p.snoc ho (.inr ⟨by rw[hs];exact hw,.inl ⟨rfl,by rw[hs];exact hd⟩⟩) (.inl rfl) (.inl rfl) (fun e=>by cases e)) hv
     obtain⟨v,lo,tn,⟨rfl,rfl,hv⟩,hI⟩:=MV hP hr
     have hd:NX X (QF F s) o (Ak X.gl s) v:=fun Γ w a s' hgl c _ zj=>
      hI Γ w a s' hgl c ⟨fun k o h=>(by rw[UX]at h;cases h),fun k o h=>(by rw[UX]at h;cases h)⟩ ⟨fun k o h=>(by simp[AR]at h),fun t x h=>(by simp[look]at h)⟩ zj
     exact next ⟨0,v,[],[],s00⟩ (p.snoc ho (.inr ⟨by rw[hs];exact hw,.inl ⟨rfl,by rw[hs];exact hd⟩⟩) (.inl rfl) (.inl rfl) (fun e=>by cases e)) hv
    ·rename_i hk;obtain⟨v,lo,tn,⟨hf1,hf2,hv⟩,hI⟩:=MV hP hr;exact next ⟨1,v,lo,tn,s00⟩ (p.snoc ho (.inr ⟨by rw[hs];exact hw,.inr (.inl ⟨rfl,by rw[hs];exact hI,by rw[hs];exact WB hf1 hf2⟩)⟩) (.inr (by rw[<-kind 1 hk];rfl)) (.inr (.inl rfl)) (fun e=>by cases e)) hv
    ·rename_i hk;exact absurd hk hn2
    ·exact hr.elim
  split at h;{rename_i hg;exact go (by simp[GB,hg]) h}
  ·rename_i j want hg;cases ht:GS ops.toArray j with
   |none=>simp[gv,ht,gx]at h|some t=>
    simp only[gv,ht]at h;unfold gx at h;split at h;{rename_i cb hb;by_cases hbw:cb.toBool=want;{exact go (by simp[GB,hg,ht,hb,hbw]) (h.1 hbw)};{exact skip (by simp[GB,hg,ht,hb,hbw]) (h.2 hbw)}};{rename_i hb;exact skip (by simp[GB,hg,ht,hb]) h};{exact h.elim}
def Ge.same {rl:List Res} (hl:rl.length=ops.length) (p:Ge X F ops s0 ts0 rl) {k} (hk:k∈F) (hs:s0.obj k≠none):∀i,i<=ops.length->(cst s0 ops rl i).obj k=s0.obj k
 |0,_=>rfl|i+1,hi=>by
  have ih:=Ge.same hl p hk hs i (by omega);obtain⟨o,ho⟩:=getOp (ops:=ops) (i:=i) (by omega);have hc:cst s0 ops rl (i+1)=(cst s0 ops rl i).step o (BH rl i):=by simp only[cst,ho]
  have ob:∀{s s':S},om s' (.inl k)=om s (.inl k)->s'.obj k=s.obj k:=fun{s s'} h=>by simp only[om]at h;cases h1:s'.obj k <;> cases h2:s.obj k <;> rw[h1,h2]at h;{cases h};{cases h};{cases h;rfl}
  rw[hc];rcases p.tri i with ht|ht|ht;{rw[ob (congrFun (gW ht) _)];exact ih}
  ·refine Eq.trans (ob ?_) ih;rw[XK ht];cases hr:(BH rl i).om (.inl k)with
   |none=>rfl|some x=>
    exfalso;rcases p.ok i o (by omega) ho with h1|⟨_,h1|h1|h1⟩;{omega};{omega};{simp only[Res.om,eu]at hr;obtain⟨y,hr,_⟩:=hr;have:=h1.2.2.l k y hr;rw[ih]at this;exact hs this};{omega}
  ·rw[ob (congrFun (Q5 ht) _),p.yv i (by omega) ht k hk];exact ih
end
def z4R (ts:List Nat) (i:Nat):(ts.map tK).getD i 0=tK (ts.getD i 0):=by simp only[bh,dg];cases ts[i]? <;> rfl
section
variable {X:Cx} {n:Nat} {s:S} {Ψ:Exit->S->Prop}
def q41 (hP:Aq X.P=true) (hm:X.P.follows .mixedOrders=true) (F:List Key) (md:List (Nat × Nat)) {id:Nat} {l:List Oper} (ts:List Nat) (hok:l.all (IG n)=true) (z64:PJ l (ts.map tK)=true)
  (hF:∀k∈F,s.obj k≠none) (h:vdF X F md l.toArray (fun s'=>Ψ .normal s') l ts s s):DC X n (.region id l.toArray true) s Ψ:=by
 have p0:Ge X F l s ts []:=⟨fun i o h=>by simp at h,fun i h=>by simp at h,fun i=>.inl (by simp[BH,lX]),fun i h=>by simp at h⟩;obtain⟨rl,hl,p,hΦ⟩:∃rl,rl.length=l.length/\Ge X F l s ts rl/\Ψ .normal (cst s l rl l.length):=q2E hP l ts [] [] rfl rfl (by simp) p0 h
 have K:Canon X l s (BH rl) (cst s l rl):=⟨rfl,fun i o ho=>by simp only[cst,ho],fun i o ho=>by
  have hi:i<l.length:=(bu.1 ho).1;refine(p.ok i o (by rw[hl];exact hi) ho).mono fun s' hq k hk ob hob=>hq k ob fun q hqn=>?_;rw[p.same hl hk (hF k hk) q hqn];rw[p.same hl hk (hF k hk) i (by omega)]at hob;exact hob,p.tri⟩
 have pq:Pre X (fun _=>False) l s (ts.map tK) rl:=⟨fun i o hi ho=>(p.ok i o hi ho).mono fun _ h=>h.elim,fun i hi=>by rw[z4R];exact p.kind i hi,p.tri⟩;exact rT hP hm K (Z5 hl pq z64) (fun o ho=>eh.1 hok o ho) hΦ
end
end
section
def iU (P:Program) (T:TypeId) (τ:Ty) (op:BinOp) (x y:V) (K:V->Prop):Prop:=
 match τ with
 | .int k=>x.isInt k/\(if BinOp.Kx op then y.FH/\NC op k x.toInt y.toInt K else y.isInt k/\KA op k x.toInt y.toInt K)| .bool=>x.isBool/\y.isBool/\(match op with| .eql=>K (.d .bool (.bool (x.toBool==y.toBool)))| .neq=>K (.d .bool (.bool (!(x.toBool==y.toBool))))|_=>False)| .str=>x.isStr/\y.isStr/\NF op x.toStr y.toStr K| .ptr=>(match op,x.HX,y.HX with| .eql,some a,some true=>K (.d .bool (.bool a))| .neq,some a,some true=>K (.d .bool (.bool (!a)))| .eql,some true,some b=>K (.d .bool (.bool b))| .neq,some true,some b=>K (.d .bool (.bool (!b)))|_,_,_=>False)| .arr n e=>Cw P T=true/\x.DM (.arr n e)/\y.DM (.arr n e)/\Jm op (rp x.toC y.toC) K| .struct sz os fs=>Cw P T=true/\x.DM (.struct sz os fs)/\y.DM (.struct sz os fs)/\Jm op (rp x.toC y.toC) K| .slice _ _=>(match op,x.Sd,y with| .eql,some r,.ym=>K (KK r)| .neq,some r,.ym=>K (KK (r.map (!·)))|_,_,_=>False)|_=>False
section
variable {P:Program} {T:TypeId} {x y:V} {K:V->Prop} {op:BinOp}
def z1g:PZ P op T x y K=iU P T (ty P T) op x y K:=rfl
def z1e {k}:iU P T (.int k) op x y K=(x.isInt k/\(if BinOp.Kx op then y.FH/\NC op k x.toInt y.toInt K else y.isInt k/\KA op k x.toInt y.toInt K)):=rfl
def z1f {eb:Nat} {e} {c:C} {eb':Nat} {e'}:iU P T (.slice eb e) .eql (.d (.slice eb' e') c) .ym K=K (KK (bif c.elems.isEmpty then none else some false)):=rfl
end
def AB (n:Int):(C.int n).toInt=n:=rfl
def Ag (b:Bool):(C.bool b).toBool=b:=rfl
def AI (cs:List C):(C.slice cs).elems=cs:=rfl
def DV (cs:List C):(C.agg cs).elems=cs:=rfl
def Fh (cs:List C) (i:Nat):(C.agg cs).get i=cs.getD i .nil:=rfl
def q6T (i j:Nat) (x:V) (e:List (Nat × V)) (l:List (Key × O)) (A:Key->Option O) (tk:List (Nat × Option Nat)):(S.mk ((i,x)::e) l A tk).get j=if i=j then x else(S.mk e l A tk).get j:=by simp only[yf,look];split <;> rfl
def z4a (e:List (Nat × V)) (l:List (Key × O)) (A:Key->Option O) (tk:List (Nat × Option Nat)) (d:Nat) (x:V):(S.mk e l A tk).set (some d) x=S.mk (PY e d x) l A tk:=rfl
def q3s (e:List (Nat × V)) (l:List (Key × O)) (A:Key->Option O) (tk:List (Nat × Option Nat)) (lo:List (Key × O)) (tn:List (Nat × Option Nat)):(S.mk e l A tk).add lo tn=S.mk e (lo++l) A (tn++tk):=rfl
def q8O (e:List (Nat × V)) (l:List (Key × O)) (A:Key->Option O) (tk:List (Nat × Option Nat)) (t:Nat):(S.mk e l A tk).live t=EA tk t:=rfl
def q8N (u:Nat) (x:Option Nat) (tk:List (Nat × Option Nat)) (t:Nat):EA ((u,x)::tk) t=if u=t then x else EA tk t:=by simp only[EA,look];by_cases h:u=t;{simp only[if_pos h];cases x <;> rfl};{simp only[if_neg h]}
def q7z (e:List (Nat × V)) (l:List (Key × O)) (A:Key->Option O) (t:Nat):(S.mk e l A []).known t=false:=rfl
def z4V (τ:Ty) (c:C):(V.d τ c).toInt=c.toInt:=rfl
def q7y (k:IntKind):(Ty.int k).known=true:=rfl
def q7p (k:IntKind):(Ty.int k).isAgg=false:=rfl
def q7q (n:Nat) (e:Ty):(Ty.slice n e).isAgg=false:=rfl
def q9C (d:Nat):Bu [] d=0:=rfl
def vcR (X:Cx) (md:List (Nat × Nat)) (ops:Array Oper) (Φ:S->Prop) (l:List Oper) (s:S):Prop:=vc X md ops Φ l s
def vcN (X:Cx) (md:List (Nat × Nat)) (ops:Array Oper) (Φ:S->Prop):List Unit->List Oper->S->Prop
 |_,[],s=>Φ s| [],l,s=>vcR X md ops Φ l s|_::n,o::rest,s=>match o.guard with|none=>sop X md (Ab o) o s fun v s'=>vcN X md ops Φ n rest (s'.set o.dst v)|some (j,want)=>gx (gv ops s j) want (sop X md (Ab o) o s fun v s'=>vcN X md ops Φ n rest (s'.set o.dst v)) (vcN X md ops Φ n rest (s.set o.dst (.tup [])))
section
variable {X:Cx} {md:List (Nat × Nat)} {ops:Array Oper} {Φ:S->Prop} {o:Oper} {rest:List Oper} {s:S}
def Bo.mono {f xs A A' v L} (h:Bo X f xs A v L) (hA:∀k o,A k=some o->A' k=some o):Bo X f xs A' v L:=
 fun A'' Γ w args hAA=>h A'' Γ w args fun k o hk=>hAA k o (hA k o hk)
end
section
variable {X:Cx} {md:List (Nat × Nat)} {ops:Array Oper} {Φ:S->Prop} {o:Oper} {rest:List Oper} {ts:List Nat} {base s:S}
end
end
section
section
variable {X:Cx} {md:List (Nat × Nat)} {ops:Array Oper} {Φ:S->Prop} {n:List Unit} {u:Unit} {o:Oper} {rest:List Oper} {ts:List Nat} {base s s':S} {dst:Option Nat} {lo:List (Key × O)} {tn:List (Nat × Option Nat)} {d:Option Nat} {op:Op} {T:TypeId} {ps:String} {af:Array Edge} {j:Nat} {want:Bool}
def FE {x} {p q:Prop} (h:x= .d .bool (.bool true)):gx x true p q=p:=by subst h;exact EV p q
def FD {x} {p q:Prop} (h:x= .d .bool (.bool true)):gx x false p q=q:=by subst h;exact EU p q
def FC {x} {p q:Prop} (h:x= .d .bool (.bool false)):gx x true p q=q:=by subst h;exact ES p q
def FB {x} {p q:Prop} (h:x= .d .bool (.bool false)):gx x false p q=p:=by subst h;exact ER p q
def FF {x} {want:Bool} {p q:Prop} (h:x= .tup []):gx x want p q=q:=by subst h;rfl
def vcK (X:Cx) (md:List (Nat × Nat)) (ops:Array Oper) (Φ:S->Prop) (rest:List Oper) (dst:Option Nat) (v:V) (s:S):Prop:=vc X md ops Φ rest (s.set dst v)
@[go_sem] theorem z5R:vc X md ops Φ [] s=Φ s:=id rfl
@[go_sem] theorem z5Q:vc X md ops Φ (⟨d,op,T,ps,af,none⟩::rest) s=sop X md (Ab ⟨d,op,T,ps,af,none⟩) ⟨d,op,T,ps,af,none⟩ s (vcK X md ops Φ rest d):=by simp only[vc];exact id rfl
@[go_sem] theorem z5I (τ:Ty) (c:C):vcK X md ops Φ rest dst (.d τ c) s=vc X md ops Φ rest (s.set dst (.d τ c)):=id rfl
@[go_sem] theorem z5L (eb:Nat) (e:Ty) (cs:List C) (t:Nat):vcK X md ops Φ rest dst (.sl eb e cs t) s=vc X md ops Φ rest (s.set dst (.sl eb e cs t)):=id rfl
@[go_sem] theorem z5J (eb:Nat) (e:Ty):vcK X md ops Φ rest dst (.emp eb e) s=vc X md ops Φ rest (s.set dst (.emp eb e)):=id rfl
@[go_sem] theorem z5K:vcK X md ops Φ rest dst .ym s=vc X md ops Φ rest (s.set dst .ym):=id rfl
@[go_sem] theorem z5H (τ:Ty) (c:C):vcK X md ops Φ rest dst (.yn τ c) s=vc X md ops Φ rest (s.set dst (.yn τ c)):=id rfl
@[go_sem] theorem z5M (τ:Ty):vcK X md ops Φ rest dst (.top τ) s=vc X md ops Φ rest (s.set dst (.top τ)):=id rfl
def nX (X:Cx) (md:List (Nat × Nat)) (ops:Array Oper) (Φ:S->Prop) (n:List Unit) (rest:List Oper) (dst:Option Nat) (v:V) (s:S):Prop:=vcN X md ops Φ n rest (s.set dst v)
@[go_sem] theorem z5O:vcN X md ops Φ n [] s=Φ s:=by simp only[vcN]
@[go_sem] theorem z5P:vcN X md ops Φ [] (o::rest) s=vcR X md ops Φ (o::rest) s:=by simp only[vcN]
@[go_sem] theorem z5N:vcN X md ops Φ (u::n) (⟨d,op,T,ps,af,none⟩::rest) s=sop X md (Ab ⟨d,op,T,ps,af,none⟩) ⟨d,op,T,ps,af,none⟩ s (nX X md ops Φ n rest d):=by simp only[vcN];exact id rfl
@[go_sem] theorem z5F (τ:Ty) (c:C):nX X md ops Φ n rest dst (.d τ c) s=vcN X md ops Φ n rest (s.set dst (.d τ c)):=id rfl
@[go_sem] theorem z5G (vs:List V):nX X md ops Φ n rest dst (.tup vs) s=vcN X md ops Φ n rest (s.set dst (.tup vs)):=id rfl
end
end
section
mutual
def C.wf:Ty->C->Prop
 | .int k,c=>c= .int c.toInt/\k.min<=c.toInt/\c.toInt<=k.max| .bool,c=>c= .bool c.toBool| .str,c=>c= .str c.toStr/\c.toStr.length<=140737488355328| .slice eb e,c=>c= .slice c.elems/\c.elems.length*eb<=140737488355328/\c.elems.length<=9223372036854775807/\∀x∈c.elems,C.wf e x| .arr n e,c=>c= .agg c.elems/\c.elems.length=n/\∀x∈c.elems,C.wf e x| .struct _ _ fs,c=>c= .agg c.elems/\C.wfs fs c.elems| .opq _,_=>False| .iface,c=>c= .nil\/c= .bool true|_,c=>c= .nil
def C.wfs:List Ty->List C->Prop
 | [],cs=>cs=[]|f::fs,cs=>∃c cs',cs=c::cs'/\C.wf f c/\C.wfs fs cs'
end
def C.q20:∀{fs:List Ty} {cs:List C},C.wfs fs cs->cs.length=fs.length
 | [],_,h=>by simp only[C.wfs]at h;simp[h]
 |f::fs,cs,h=>by simp only[C.wfs]at h;obtain⟨c,cs',rfl,_,h⟩:=h;simp[C.q20 h]
def C.q2Z:∀{fs:List Ty} {cs:List C} {i:Nat} {f:Ty},C.wfs fs cs->fs[i]? =some f->C.wf f (cs.getD i .nil)
 | [],_,_,_,_,h=>by simp at h
 |g::fs,cs,i,f,h,hi=>by
  simp only[C.wfs]at h;obtain⟨c,cs',rfl,h1,h2⟩:=h;cases i with
  |zero=>simp at hi;subst hi;simpa using h1|succ i=>simpa using C.q2Z h2 (show fs[i]? =some f by simpa using hi)
def C.Gx {sz:Nat} {os:List Nat} {fs} {c:C} {i:Nat} {f} (h:C.wf (.struct sz os fs) c) (hi:fs[i]? =some f):C.wf f (c.get i):=by simp only[C.wf]at h;rw[h.1];exact C.q2Z h.2 hi
def C.z5d {eb:Nat} {e} {c:C} {i:Nat} (h:C.wf (.slice eb e) c) (hi:i<c.elems.length):C.wf e (c.elems.getD i .nil):=by simp only[C.wf]at h;rw[bh,bg hi];exact h.2.2.2 _ (List.getElem_mem hi)
mutual
def AL.wf {H}:∀{τ:Ty} {vs:List Value} {c:C},AL H τ vs c->C.wf τ c
 | .int k,vs,c,h=>by simp only[AL]at h;obtain⟨n,rfl,_,h1,h2⟩:=h;exact⟨rfl,h1,h2⟩
 | .bool,vs,c,h=>by simp only[AL]at h;obtain⟨n,rfl,_⟩:=h;rfl
 | .str,vs,c,h=>by simp only[AL]at h;obtain⟨n,rfl,_,h1⟩:=h;exact⟨rfl,h1⟩
 | .slice eb e,vs,c,h=>by simp only[AL]at h;obtain⟨a,n,cap,cs,rfl,rfl,h1,h2,h3,h4,h5⟩:=h;simp only[C.wf,ao];refine⟨trivial,by rw[h1];exact h4,by unfold maxLen at h3;omega,fun x hx=>?_⟩;obtain⟨i,hi⟩:=uj hx;rcases h5 with h5|⟨b,off,l,_,_,_,hr⟩;{subst h5;have:=(bu.1 hi).1;omega};{exact AL.wf (hr i x hi)}
 | .arr n e,vs,c,h=>by simp only[AL]at h;obtain⟨cs,rfl,h1,h2,h4,h3⟩:=h;simp only[C.wf,ao];refine⟨trivial,h1,fun x hx=>?_⟩;obtain⟨i,hi⟩:=uj hx;exact AL.wf (h3 i x hi)
 | .struct sz os fs,vs,c,h=>by simp only[AL]at h;obtain⟨cs,rfl,_,_,h2⟩:=h;simp only[C.wf,ao];exact⟨trivial,BR.wf h2⟩
 | .ptr,vs,c,h| .map,vs,c,h| .func,vs,c,h=>by simp only[AL]at h;simp only[C.wf];exact h.1
 | .iface,vs,c,h=>by simp only[AL]at h;simp only[C.wf];rcases h with h|h;{exact .inl h.1};{exact .inr h.1}
 | .opq _,_,_,h=>by simp only[AL]at h
def BR.wf {H}:∀{fs:List Ty} {os:List Nat} {vs:List Value} {cs:List C},BR H fs os vs cs->C.wfs fs cs
 | [],_,_,_,h=>by simp only[BR]at h;simp only[C.wfs];exact h
 |f::fs,o::os,vs,cs,h=>by simp only[BR]at h;obtain⟨c,cs',rfl,_,h2,h3⟩:=h;simp only[C.wfs];exact⟨c,cs',rfl,AL.wf h2,BR.wf h3⟩
 |_::_,[],_,_,h=>by simp[BR]at h
end
mutual
def V.wf:V->Prop
 | .d τ c=>C.wf τ c| .sl eb e cs _=>C.wf (.slice eb e) (.slice cs)| .ts eb e cs=>C.wf (.slice eb e) (.slice cs)| .sr _ _ _ n _ eb _=>n*eb<=140737488355328/\n<=9223372036854775807| .yn τ c=>C.wf τ c| .agg _ vs=>V.wfs vs|_=>True
def V.wfs:List V->Prop
 | []=>True|x::xs=>x.wf/\V.wfs xs
end
mutual
def AA.wf {Γ hm}:∀{x:V} {p:List Nat} {vs:List Value},AA Γ hm p x vs->x.wf
 | .d τ c,_,_,h=>by simp only[AA]at h;exact h.wf
 | .sl eb e cs t,_,_,h=>by simp only[AA]at h;obtain⟨a,n,cap,_,h,_⟩:=h;exact h.wf
 | .ts eb e cs,_,_,h=>by simp only[AA]at h;obtain⟨a,n,cap,k,_,_,h,_⟩:=h;exact h.wf
 | .sr _ _ _ n _ eb _,_,_,h=>by simp only[AA]at h;rcases h with⟨_,rfl,_⟩|⟨b,τ0,o,m,cap,_,_,_,_,h1,h2,h3,_⟩;{exact⟨by rw[gy];exact dv _,dv _⟩};exact⟨h3,by unfold maxLen at h2;omega⟩
 | .yn τ c,_,_,h=>by simp only[AA]at h;obtain⟨b,off,l,_,_,_,h⟩:=h;exact h.wf
 | .agg _ vs,_,_,h=>by simp only[AA]at h;exact Aa.wf h.2.2.2.2
 | .emp _ _,_,_,_| .ym,_,_,_| .ptr _ _ _,_,_,_| .mp _,_,_,_| .fn _ _,_,_,_| .tup _,_,_,_| .top _,_,_,_| .any,_,_,_=>by simp only[V.wf]
def Aa.wf {Γ hm}:∀{xs:List V} {p:List Nat} {i:Nat} {τ:Ty} {vs:List Value},Aa Γ hm p i τ xs vs->V.wfs xs
 | [],_,_,_,_,_=>by simp only[V.wfs]
 |x::xs,_,_,_,_,h=>by simp only[Aa]at h;obtain⟨⟨o,f,_,_,_,h1⟩,h2⟩:=h;exact⟨AA.wf h1,Aa.wf h2⟩
end
def V.wfT:V->Prop
 | .tup xs=>V.wfs xs|x=>x.wf
def BF.wf {Γ}:∀{xs:List V} {vs:List Value},BF Γ xs vs->V.wfs xs
 | [],_,_=>by simp only[V.wfs]
 |x::xs,_,h=>by simp only[BF]at h;obtain⟨v,vs',_,h1,_,h2⟩:=h;exact⟨AA.wf h1,BF.wf h2⟩
def AG.wf {Γ} {x:V} {v} (h:AG Γ x v):x.wfT:=by
 cases x
 case any=>simp only[V.wfT,V.wf]
 case tup xs=>obtain⟨vs,_,h⟩:=h;exact h.wf
 all_goals exact AA.wf h.1
def O.wf:O->Prop
 | .box x=>x.wf| .map _ _ es=>∀c∈es,c.2.wf| .it _ _| .dead _=>True
structure WF (s:S):Prop where
 slot:∀t,(s.get t).wfT
 obj:∀k x,s.obj k=some (.box x)->x.wf
section
variable {X:Cx} {n:Nat} {s:S} {Ψ:Exit->S->Prop} {c:Code}
def At.wf {Γ0 a w} (h:At X n Γ0 s a w):WF s:=by obtain⟨Γ,_,_,c,hs,_⟩:=h;refine⟨fun t=>(hs t).wf,fun k x hk=>?_⟩;rcases c.obj k _ hk with⟨_,e,rfl⟩|⟨b,cells,T,_,_,_,_,_,h,_⟩;{simp[V.wf,C.wf,ao]};exact h.wf
def WF.at {t:Nat} {x:V} (h:WF s) (ht:s.get t=x):x.wfT:=ht ▸ h.slot t
end
def Lp {k:IntKind} {n:Int} (h1:k.min<=n) (h2:n<=k.max):k.wrap n=n:=by cases k <;> simp[IntKind.wrap,IntKind.min,IntKind.max,IntKind.bits,IntKind.signed]at h1 h2 ⊢ <;> omega
end
section
attribute [go_sem] eq_self gh Option.bind_none gj oc ta Bool.not_false decide_true decide_false forall_const true_implies false_implies
attribute [go_sem] implies_true not_true not_false_iff sop iop kop fop sl3 Ql Kw Qq lk List.head?_cons List.tail_cons List.head?_nil
attribute [go_sem] strOf Ty.Rj Op.operands Call.operands FR FT top q9C pv Pb Pd TJ Mp
attribute [go_sem] TI Pc Pe CD V.Ej cut z1g z1e
attribute [go_sem] z1f KK fe if_true if_false KA NF NC Jm BinOp.Kx
attribute [go_sem] Ab Ak aL PC CZ V.slot GA V.DR V.CY V.tkR kc q6T
attribute [go_sem] z4a q3s q8O q8N
attribute [go_sem] q7z O.ren V.ren V.Cr PY Kv LY Xc Ku UO
attribute [go_sem] E.look AR Nat.zero_ne_one Nat.one_ne_zero CU DU CH CR GX EF Jp gOk
attribute [go_sem] tOk S.ret Fu Gp GK dn rk dnL dnT Dy IQ EH
attribute [go_sem] V.sites V.Uc V.Bh V.Hw V.okH V.Sr V.Bj V.Fi GS jh qy or_false
attribute [go_sem] false_or and_true true_and and_self or_true true_or or_self fx ji List.append_nil V.isInt V.FH
attribute [go_sem] V.isBool V.isStr V.DM z4V AB Ag AI DV
attribute [go_sem] Fh V.setAt V.set C.set HF Bm Jo
attribute [go_sem] MH V.ty V.plain V.Ay V.CF V.HX view views Bp Du List.map_cons vo
attribute [go_sem] List.getD_cons_zero List.getD_cons_succ List.set_cons_zero List.set_cons_succ tf List.all_nil im ne_eq not_false_eq_true not_true_eq_false Ty.size q7y
attribute [go_sem] q7p q7q
attribute [go_sem] py px kr List.getElem?_cons_zero
attribute [go_sem] List.getElem?_cons_succ iv cg de Nat.lt_add_one Nat.zero_lt_succ jy Bool.true_and Bool.or_true Bool.true_or xy jr
attribute [go_sem] cond_true cond_false Key.l.injEq Key.g.injEq az List.contains_nil List.contains_cons Bool.and_self decide_eq_true_eq Nat.not_lt_zero List.replicate List.replicate_zero
@[go_sem] theorem z5T (k:IntKind):AJ (.int k)= .int 0:=rfl
attribute [go_sem] Bz V.d.injEq V.emp.injEq
attribute [go_sem] false_and and_false UX EV ER EU ES gv
attribute [go_sem] Ft FK Ib QD QA Eh NA KQ IK Gs Fc Iz V.BB V.Fp O.BB V.ok V.oks V.DP DT O.okB O.ok Bf BS List.isEmpty_nil List.isEmpty_cons py px
section
variable {X:Cx} {n:Nat} {c:Code} {Ψ:Exit->S->Prop} {md:List (Nat × Nat)} {ops:Array Oper} {Φ:S->Prop} {m:List Unit} {l:List Oper} {ts:List Nat} {dst:Nat} {o:Oper} {K:V->S->Prop} {s s' b b':S}
def q5N:((0:Nat)=100)=False:=by simp
attribute [go_sem] lop q5N false_or false_and
end
end
section
section
variable {X:Cx} {n:Nat} {s:S} {Ψ:Exit->S->Prop}
def eH {Γ0} {ι:Type} (I:ι->S) (μ:ι->Nat) {a w} (h:∃i,At X n Γ0 (I i) a w):∃m,∃i,At X n Γ0 (I i) a w/\μ i=m/\∀j,At X n Γ0 (I j) a w->m<=μ j:=by
 obtain⟨i,hi⟩:=h;have:∀m i,μ i=m->At X n Γ0 (I i) a w->∃m,∃i,At X n Γ0 (I i) a w/\μ i=m/\∀j,At X n Γ0 (I j) a w->m<=μ j:=by
  intro m
  induction m using xt with
  |_ m ih=>
   intro i hm hi;by_cases h:∃j,At X n Γ0 (I j) a w/\μ j<m;{obtain⟨j,hj,hlt⟩:=h;exact ih _ hlt j rfl hj};{exact⟨m,i,hi,hm,fun j hj=>Nat.le_of_not_lt fun hlt=>h ⟨j,hj,hlt⟩⟩}
 exact this _ i rfl hi
def q44 {c rest} (l:Nat) (hf:findLabel c l=some rest) {ι:Type} (I:ι->S) (μ:ι->Nat)
  (first:DC X n c s fun e s'=>match e with| .goto l'=>l'=l/\∃i,DS X n s' (I i)|e=>Ψ e s')
  (pass:∀i,DC X n rest (I i) fun e s'=>match e with| .goto l'=>l'=l/\∃j,DS X n s' (I j)/\μ j<μ i|e=>Ψ e s'):DC X n (.scope c) s Ψ:=by
 intro Γ0 a w hat
 open Classical in
 refine wp_scope_jumps l (fun a w=>∃i,At X n Γ0 (I i) a w) (fun a w=>if h:∃i,At X n Γ0 (I i) a w then Classical.choose (eH I μ h)else 0) hf ?_ ?_
 ·refine wp_mono (first Γ0 a w hat) ?_;rintro e a' w' ⟨s',h1,h2⟩;cases e with
  |goto l'=>
   obtain⟨e1,i,hi⟩:=h1;exact⟨e1,i,hi Γ0 a' w' h2⟩
  |normal|exit _|ret|panic _|outgrown=>exact⟨s',h1,h2⟩
 ·intro a w hI;obtain⟨i,hi,hm,hmin⟩:=ry (eH I μ hI);refine wp_mono (pass i Γ0 a w hi) ?_;rintro e a' w' ⟨s',h1,h2⟩;cases e with
  |goto l'=>
   obtain⟨e1,j,hj,hlt⟩:=h1;have z6r:=hj Γ0 a' w' h2;have hI':∃i,At X n Γ0 (I i) a' w':=⟨j,z6r⟩;refine⟨e1,hI',?_⟩;obtain⟨i',hi',hm',z7T⟩:=ry (eH I μ hI');have:=z7T j z6r;rw[dif_pos hI',dif_pos hI];omega
  |normal|exit _|ret|panic _|outgrown=>exact⟨s',h1,h2⟩
def rY {c} (h:DC X n c s fun e s'=>match e with| .goto _=>False|e=>Ψ e s'):DC X n (.scope c) s Ψ:=by
 intro Γ0 a w hat;refine wp_scope_straight (wp_mono (h Γ0 a w hat) ?_);rintro e a' w' ⟨s',h1,h2⟩;cases e with
 |goto l'=>exact h1.elim|normal|exit _|ret|panic _|outgrown=>exact⟨s',h1,h2⟩
def rW {t:Nat} {c c'} (hb:s.get t= .top .bool) (h1:DC X n c s Ψ) (h2:DC X n c' s Ψ):DC X n (.cond (.tmp t) c c') s Ψ:=by
 intro Γ0 a w hat;have key:∃b,a.eval (.tmp t)= .bool b:=by obtain⟨Γ,_,_,_,hs,_⟩:=hat;have:=hs t;rw[hb]at this;obtain⟨h1,h2⟩:=(Bd rfl).1 this;rw[CW (by simpa[V.ty,Ty.isAgg]using h2)]at h1;simp only[AA]at h1;obtain⟨b,hv⟩:=h1.2.2 trivial;exact⟨b,by simp only[List.cons.injEq,and_true]at hv;exact hv⟩
 obtain⟨b,hv⟩:=key;refine wp_cond (t:=b) hv ?_;cases b with
 |true=>exact h1 Γ0 a w hat|false=>exact h2 Γ0 a w hat
def z5c {t u eb:Nat} {e} (hu:s.known u=false) (ht:s.get t= .ym\/s.get t= .emp eb e):DS X n s (S.set {s with tk:=(u,some 0)::s.tk} (some t) (.sl eb e [] u)):=by
 rintro Γ0 a w ⟨Γ,g1,g3,c,hs,hn,hf,hA⟩;obtain⟨c1,p1,g2⟩:=c.DI hu (x:=none) (L:=0) (fun _ _ _ h=>by cases h);refine⟨Γ.DI u none 0,g1.trans g2,g2.gl.trans g3,Qr c1 _ _,fun i=>?_,hn,hf,hA⟩;rw[Jw];split
 ·rename_i e1;cases e1;have h0:=hs t;obtain⟨a0,ha⟩:∃a0,a.tmps.getD t undef= .slice a0 0 0:=by rcases ht with h|h;{rw[h]at h0;exact⟨none,Fb h0⟩};{rw[h]at h0;obtain⟨h1,_⟩:=(Bi rfl rfl).1 h0;simp only[AA]at h1;obtain⟨a0,h1⟩:=h1;exact⟨a0,by simpa using h1⟩}
  rw[ha];refine(Bi rfl rfl).2 ⟨?_,rfl⟩;simp only[AA];exact⟨a0,0,0,rfl,Dm rfl (bx _) (dv _) (by rw[gy];exact dv _) (.inl rfl),none,0,by simp[G.DI,BV],bx _,fun _=>rfl⟩
 ·exact(hs i).BN p1
end
attribute [go_sem] Hs tkW CV
end
section
def C.q6u (a b:C):rp a b=rp b a:=by rw[kl,C.GP,C.GP];exact eq_comm
def zK {α:Type}:∀(es:List (C × α)) (c:C) (v:α) (c':C),FL (EK es c v) c'=if rp c' c=true then some v else FL es c'
 | [],c,v,c'=>by simp only[EK,FL]
 |(k,u)::es,c,v,c'=>by
  simp only[EK];by_cases h:rp c k=true;{rw[if_pos h];have:=C.GP.1 h;subst this;simp only[FL];split <;> rfl}
  ·rw[if_neg h];simp only[FL];by_cases h':rp c' k=true
   ·rw[if_pos h',if_pos h'];have:=C.GP.1 h';subst this;have:rp c' c=false:=by
     cases hh:rp c' c with
     |false=>rfl|true=>rw[C.q6u]at hh;exact absurd hh h
    rw[this];simp
   ·rw[if_neg h',if_neg h',zK es c v c']
def q2C (nx:C->C) (c v:C):C->C:=fun c'=>if rp c' c=true then v else nx c'
structure QW (P:Program) (et:TypeId) (τ:Ty) (es:List (C × V)) (nx:C->C):Prop where
 look:∀c,HT P et es c= .d τ (nx c)
 all:∀f g,V.DP f g es=true
 dat:DT τ es=true
def Q0 {f g}:∀{es:List (C × V)} {c:C} {v:V},V.DP f g es=true->v.ok f g=true->V.DP f g (EK es c v)=true
 | [],c,v,_,hv=>by simp only[EK,V.DP,hv,jy]
 |(k,u)::es,c,v,h,hv=>by simp only[V.DP,az]at h;simp only[EK];split;{simp only[V.DP,hv,h.2,jy]};{simp only[V.DP,h.1,Q0 h.2 hv,jy]}
def pL {τ}:∀{es:List (C × V)} {c v:C},DT τ es=true->DT τ (EK es c (.d τ v))=true
 | [],c,v,_=>by simp only[EK,DT,(Ty.beq_iff τ τ).2 rfl,jy]
 |(k,u)::es,c,v,h=>by simp only[DT,az]at h;simp only[EK];split;{simp only[DT,(Ty.beq_iff τ τ).2 rfl,h.2,jy]};{simp only[DT,h.1,pL h.2,jy]}
def QW.put {P} {et:TypeId} {τ es nx} (h:QW P et τ es nx) (c v:C):QW P et τ (EK es c (.d τ v)) (q2C nx c v):=by refine⟨fun c'=>?_,fun f g=>Q0 (h.all f g) rfl,pL h.dat⟩;have:=h.look c';unfold HT at this ⊢;rw[zK];unfold q2C;by_cases e:rp c' c=true;{rw[if_pos e,if_pos e];rfl};{rw[if_neg e,if_neg e];exact this}
def QW.nil {P} {et:TypeId} {τ} (h:Bz (ty P et)= .d τ (AJ τ)):QW P et τ [] (fun _=>AJ τ):=⟨fun c=>by
 unfold HT;simp only[FL,qy];exact h,fun _ _=>rfl,rfl⟩
section
variable {X:Cx} {n:Nat} {s:S} {Ψ:Exit->S->Prop}
end
attribute [go_sem] Ty.flat V.Bj V.Fi
end
section
mutual
def V.Dv:V->V
 | .emp eb e=>.ts eb e []| .agg τ vs=>.agg τ (V.JR vs)|x=>x
def V.JR:List V->List V
 | []=>[]|x::xs=>x.Dv::V.JR xs
end
def V.Vm (x:V):x.Dv.ty=x.ty:=by cases x <;> simp[V.Dv,V.ty]
def V.q6q (x:V):x.Dv.plain=x.plain:=by cases x <;> simp[V.Dv,V.plain]
def V.tN:∀xs:List V,(V.JR xs).length=xs.length
 | []=>rfl|x::xs=>by simp[V.JR,V.tN xs]
mutual
def V.tM:∀x:V,x.Dv.Ay=x.Ay
 | .agg τ vs=>by simp only[V.Dv,V.Ay];exact V.tP vs
 | .emp _ _| .sl _ _ _ _| .ptr _ _ _| .sr _ _ _ _ _ _ _| .mp _| .d _ _| .ts _ _ _| .ym| .yn _ _| .top _| .any| .fn _ _| .tup _=>by simp[V.Dv,V.Ay]
def V.tP:∀xs:List V,V.CF (V.JR xs)=V.CF xs
 | []=>rfl|x::xs=>by simp only[V.JR,V.CF,V.tM x,V.tP xs]
end
section
variable {Γ:G} {k:Key}
mutual
def AA.Dv:∀(x:V) {p:List Nat} {vs},AA Γ (some k) p x vs->AA Γ (some k) p x.Dv vs
 | .emp eb e,p,vs,h=>by simp only[AA,V.Dv]at h ⊢;obtain⟨a,rfl⟩:=h;exact⟨a,0,0,k,rfl,rfl,Dm rfl (bx _) (dv _) (by rw[gy];exact dv _) (.inl rfl),.inl rfl⟩
 | .agg τ xs,p,vs,h=>by simp only[AA,V.Dv]at h ⊢;exact⟨h.1,h.2.1,by rw[V.tN];exact h.2.2.1,h.2.2.2.1,Aa.Dv xs h.2.2.2.2⟩
 | .sl _ _ _ _,_,_,h| .ptr _ _ _,_,_,h| .sr _ _ _ _ _ _ _,_,_,h| .mp _,_,_,h| .d _ _,_,_,h| .ts _ _ _,_,_,h| .ym,_,_,h| .yn _ _,_,_,h| .top _,_,_,h| .any,_,_,h| .fn _ _,_,_,h| .tup _,_,_,h=>h
def Aa.Dv:∀(xs:List V) {p:List Nat} {i:Nat} {τ:Ty} {vs:List Value},Aa Γ (some k) p i τ xs vs->Aa Γ (some k) p i τ (V.JR xs) vs
 | [],_,_,_,_,_=>by simp only[V.JR,Aa]
 |x::xs,_,_,_,_,h=>by simp only[Aa,V.JR,V.Vm]at h ⊢;obtain⟨⟨o,f,h1,h2,h3,h4⟩,h5⟩:=h;exact⟨⟨o,f,h1,h2,h3,AA.Dv x h4⟩,Aa.Dv xs h5⟩
end
end
def z49 {X} {n:Nat} {s:S} {k} {x:V} (h:s.obj k=some (.box x)):DS X n s (s.put k (.box x.Dv)):=by rintro Γ0 a w ⟨Γ,g1,g3,c,hs,hn,hf,hA⟩;refine⟨Γ,g1,g3,⟨c.hH,c.hZ,c.hκ,fun j o hj=>?_,fun j hj=>?_,c.Jz (fun j hj=>?_),c.tok,c.zc,c.hgl,c.hoo,c.hσ⟩,hs,hn,hf,hA⟩;{rw[DN]at hj;split at hj;{rename_i e;subst e;cases hj;rcases c.obj _ _ h with⟨hn,e,rfl⟩|⟨b,cells,T,h1,h2,h3,h4,h5,h6,h7,h8⟩;{exact .inl ⟨hn,e,rfl⟩};exact .inr ⟨b,cells,T,by rw[V.Vm];exact h1,h2,h3,h4,by rw[V.Vm];exact h5,by rw[V.Vm];exact AA.Dv x h6,by rw[V.q6q];exact h7,by rw[V.tM];exact h8⟩};{exact c.obj j o hj}};{rw[DN];split;{simp};{exact c.dom j hj}};{unfold S.Bb at hj ⊢;rw[DN];split;{rename_i e;subst e;rw[h]at hj;cases hj};{exact hj}}
attribute [go_sem] V.Dv V.JR
end
def z4W {X:Cx} {n:Nat} {s s':S} {Γ0 Γ:G} {a:Act} {w} (g1:GLe Γ0 Γ) (g3:Γ.gl=X.gl) (c:AQ Γ w s) (hs:GD Γ s a.tmps) (hn:a.tmps.size=n) (hf:a.defers=[]) (zk:AOk s.A) (hA:s'.A=s.A) (z59:Ft s s'.loc) (z6l:FK (Bf s'.loc) (CV s'.tk) s'.loc=true) (hg:Ib s'.loc s.A s.loc)
  (htk:tkW s s'.tk) (zq:Hs (Bf s'.loc) (CV s'.tk) s s'.env):GLe Γ0 (Γ.part (Bf s'.loc) (CV s'.tk))/\(Γ.part (Bf s'.loc) (CV s'.tk)).gl=X.gl/\AQ (Γ.part (Bf s'.loc) (CV s'.tk)) w s'/\GD (Γ.part (Bf s'.loc) (CV s'.tk)) s' a.tmps/\a.tmps.size=n/\a.defers=[]/\AOk s'.A:=by
 have sub:Sub Γ (Γ.part (Bf s'.loc) (CV s'.tk)) (Bf s'.loc) (CV s'.tk):=
  ⟨rfl,rfl,rfl,rfl,rfl,fun _=>rfl,fun n h=>by simp[wq,h],fun t h=>by simp[wq,h],fun _ _ _ _ _=>rfl⟩
 refine⟨⟨g1.H,g1.Z,g1.ZH,g1.g,g1.gl,g1.oo,g1.σ,g1.gn⟩,g3,c.sub sub rfl (fun n h=>by simp[wq,h]) hA zk z59 z6l hg (fun b o sz h=>⟨o,h,fun _ h=>h⟩) (fun t L h=>?_) (fun t h=>?_),fun i=>?_,hn,hf,by rw[hA];exact zk⟩
 ·unfold S.live EA at h;cases hl:look s'.tk t with
  |none=>simp[hl]at h|some x=>
   cases x with
   |none=>simp[hl]at h|some M=>
    simp[hl]at h;subst h;have z57:s.live t=some M:=nL htk hl;obtain⟨x,a1,a2⟩:=c.tok t M z57;exact⟨x,by simp[wq,CV,hl,a1],fun b pos sz hx=>a2 b pos sz hx⟩
 ·cases hh:CV s'.tk t with|true=>exact hh|false=>simp[wq,hh]at h
 ·cases hl:look s'.env i with
  |none=>simp[yf,hl,AG]|some x=>
   obtain⟨e1,e2,e3⟩:=bQ zq hl;have z58:s'.get i=x:=by simp[yf,hl]
   rw[z58];by_cases hx:x= .any;{subst hx;trivial}
   ·have hr:=hs i;have e3:=e3.resolve_left hx;refine AG.sub sub e2 ?_;cases hsi:s.get i with
    |any=>
     rw[hsi]at e1;cases x <;> simp[V.BB,Bp]at e1 hx
    |tup us=>
     rw[hsi]at e1 hr;cases x <;> simp[V.BB,Bp]at e1 hx;subst e1;exact hr
    |_=>
     rw[hsi]at e1 hr e3;have hpl:AA Γ none [] _ (a.tmps.getD i undef).cells.toList/\_:=hr;obtain⟨r1,r2⟩:=AA.BB x _ e1 hpl.1;have hxp:=V.TE r1 hx;exact(Bd hxp).2 ⟨r1,by rw[e3];exact hpl.2⟩
def z5a {X} {n:Nat} {s s':S} {t j:Nat} {τ} {x:V} {cc} (z7U:s.get t= .ptr (.l j) [] τ) (yr:s.obj (.l j)=some (.box x)) (hcl:Bp x=some cc) (hτ:x.ty=τ) (hj:Bf s'.loc j=false)
  (hA:s'.A=s.A) (z59:Ft s s'.loc) (z6l:FK (Bf s'.loc) (CV s'.tk) s'.loc=true) (hg:Ib s'.loc s.A s.loc)
  (htk:tkW s s'.tk) (zq:Hs (Bf s'.loc) (CV s'.tk) s s'.env):DS X n s (s'.set (some t) (.yn τ cc)):=by
 rintro Γ0 a w ⟨Γ,g1,g3,c,hs,hn,hf,zk⟩;obtain⟨p1,p2,p3,p4,p5,p6,p7⟩:=z4W (X:=X) (n:=n) (s':=s') g1 g3 c hs hn hf zk hA z59 z6l hg htk zq;have hst:=hs t;rw[z7U]at hst;obtain⟨b,τ0,off,e1,i2,hv⟩:=Gr hst;obtain⟨b2,cells,T,i1,e2,e3,e4,e5,e6,e7,e8⟩:=c.own e1 yr;rw[e1]at i1;cases i1;simp only[Ty.walk,ek,gm]at i2;obtain⟨rfl,_⟩:=i2;have hdl:∀k o,s'.obj k=some o->s.Bb k=true->o.EY=true:=by
  intro k o ho hd;unfold jj Bx at ho;cases hl:AR s'.loc k with
  |some o1=>
   rw[hl]at ho;cases ho;obtain⟨o0,h1,h2⟩:=Wj z59 hl;rw[Ed h1]at hd;exact O.wW h2 hd
  |none=>
   cases k with
   |l n=>rw[hl]at ho;cases ho
   |g k=>
    have:=XD hA hg hl;unfold S.Bb at hd;rw[<-this]at hd;have h2:jj s' (.g k)=some o:=by unfold jj Bx;exact ho
    rw[h2]at hd;exact hd
 have hno:∀k τ o,(Γ.part (Bf s'.loc) (CV s'.tk)).ι k=some (b,τ)->s'.obj k=some o->o.EY=true:=by
  intro k τ' o hk hko;have hk':Γ.ι k=some (b,τ')/\k≠.l j:=by
   cases k with
   |g k=>exact⟨hk,by simp⟩|l m=>
    simp only[wq]at hk;split at hk;{rename_i hm;refine⟨hk,fun e=>?_⟩;cases e;rw[hj]at hm;cases hm};{cases hk}
  rcases c.inj k (.l j) b _ _ hk'.1 e1 with e|⟨e|e,_⟩;{exact absurd e hk'.2};{exact hdl k o hko e};{rw[Ed yr]at e;cases e}
 obtain⟨q1,q2,q3⟩:=p3.freeze e4 e2 hno;have hrc:AL Γ.H x.ty (chunk cells.toList 0 x.ty.size) cc:=Ki _ e6 hcl;refine⟨_,⟨Hp.le_trans p1.H q3,p1.Z,fun b' hb'=>?_,p1.g,p1.gl,p1.oo,p1.σ,p1.gn⟩,p2,Qr q1 _ _,fun i=>?_,p5,p6,p7⟩;{refine(Ei _ _ fun e=>?_).trans (p1.ZH b' hb');subst e;exact hb' (by rw[<-g1.Z];exact e3)};{rw[Jw];split;{rename_i e;cases e;rw[hv];refine Mz (l:=cells.toList) (Ce _ _ _) (by rw[<-hτ];simpa using e5) ?_;rw[<-hτ];exact hrc.mono q3};{exact(p4 i).BN q2}}
def C.q8L:∀(cs:List C) (n:Nat),cs.length=n->cs=(fi n).map fun i=>cs.getD i .nil:=by intro cs n h;subst h;refine List.ext_getElem (by simp) fun i h1 h2=>?_;simp[bg h1]
def C.q2Y {sz:Nat} {os:List Nat} {fs:List Ty} {c:C} (h:C.wf (.struct sz os fs) c): .agg ((fi fs.length).map c.get)=c:=by simp only[C.wf]at h;obtain⟨h1,h2⟩:=h;have hl:=C.q20 h2;rw[h1];congr 1;rw[<-hl];exact(C.q8L c.elems _ rfl).symm
section
open Go Go.ChangeShapes Go.WideShapes
def HM (w:World):Hp:=fun b=>match w.heap[b]? with|some (.cells c _ _)=>some c.toList|_=>none
def dH {w:World} {a:Addr} {v} (h:w.cell? a=some v):∃l,HM w a.block=some l/\l[a.off]? =some v/\a.spot=none:=by unfold nt at h;unfold HM;split at h;{rename_i c _ _ hc;split at h;{cases h};{rename_i hs;refine⟨c.toList,by simp[hc],by simpa using h,?_⟩;cases hh:a.spot <;> simp_all}};{cases h}
mutual
def Ty.dat:Ty->Bool
 | .int _| .bool| .str=>true| .slice _ e=>e.dat&&decide (0<e.size)| .arr _ e=>e.dat&&decide (0<e.size)| .struct sz os fs=>Ty.Qu fs&&decide (os.length=fs.length)&&(fi sz).all fun i=>(fi fs.length).any fun j=>match os[j]?,fs[j]? with|some o,some f=>decide (o<=i)&&decide (i<o+f.size)|_,_=>false
 |_=>false
def Ty.Qu:List Ty->Bool
 | []=>true|f::fs=>f.dat&&Ty.Qu fs
end
def rS:∀{fs:List Ty} {i:Nat} {f:Ty},Ty.Qu fs=true->fs[i]? =some f->f.dat=true
 | [],_,_,_,h=>by simp at h
 |g::fs,0,f,hd,h=>by simp[Ty.Qu]at hd h;rw[<-h];exact hd.1
 |g::fs,i+1,f,hd,h=>by simp[Ty.Qu]at hd;exact rS hd.2 (by simpa using h)
def Ou {α β:Type} {f}:∀{l:List α} {r:List β},l.mapM f=some r->∀i:Nat,l[i]?.bind f=r[i]?
 | [],r,h,i=>by simp at h;subst h;simp
 |x::l,r,h,i=>by
  rw[ub]at h;cases hx:f x with
  |none=>simp[hx]at h|some y=>
   cases hl:l.mapM f with
   |none=>simp[hx,hl]at h|some ys=>
    simp[hx,hl]at h;subst h;cases i with
    |zero=>simp[hx]|succ i=>simpa using Ou hl i
def SK {α β:Type} {f}:∀{l:List α} {r:List β},l.mapM f=some r->r.length=l.length
 | [],r,h=>by simp at h;subst h;rfl
 |x::l,r,h=>by
  rw[ub]at h;cases hx:f x with
  |none=>simp[hx]at h|some y=>
   cases hl:l.mapM f with
   |none=>simp[hx,hl]at h|some ys=>
    simp[hx,hl]at h;subst h;simp[SK hl]
def qY {w:World} {base:Nat} {a:Addr} {n:Nat} {cs} (h:w.cells? base a n=some cs) (hn:0<n):
  ∃l,HM w a.block=some l/\a.spot=none/\a.off+n<=l.length/\cs=chunk l a.off n:=by
 unfold World.cells? at h;split at h
 ·have hl:=SK h;simp at hl;have hg:=Ou h;have h0:=hg 0;cases hc:cs[0]? with
  |none=>simp at hc;subst hc;simp at hl;omega|some v0=>
   rw[hc]at h0;simp[ir hn]at h0;have e0:a.add 0=a:=by simp[od]
   rw[e0]at h0;obtain⟨l,h1,h2,h3⟩:=dH h0;refine⟨l,h1,h3,?_,?_⟩
   ·have z6G:=hg (n-1);cases hc':cs[n-1]? with
    |none=>simp at hc';omega|some v1=>
     rw[hc']at z6G;simp[ir (show n-1<n by omega)]at z6G;obtain⟨l',g1,g2,_⟩:=dH z6G;have eb:(a.add (n-1)).block=a.block:=by unfold od;split <;> rfl
     have eo:(a.add (n-1)).off=a.off+(n-1):=by unfold od;split <;> simp_all
     rw[eb,h1]at g1;cases g1;rw[eo]at g2;have:=(bu.1 g2).1;omega
   ·apply List.ext_getElem?;intro i;by_cases hi:i<n
    ·have:=hg i;simp[ir hi]at this;cases hc':cs[i]? with
     |none=>simp at hc';omega|some v1=>
      rw[hc']at this;obtain⟨l',g1,g2,_⟩:=dH this;have eb:(a.add i).block=a.block:=by unfold od;split <;> rfl
      have eo:(a.add i).off=a.off+i:=by unfold od;split <;> simp_all
      rw[eb,h1]at g1;cases g1;rw[eo]at g2;simp[chunk,fu,hi,g2]
    ·rw[gb (by omega)];simp[chunk,fu,hi]
 ·cases h
def Qa {a b:List Nat} (h:(a++b).all (·<=reachBytes)=true):a.all (·<=reachBytes)=true/\b.all (·<=reachBytes)=true:=by simpa[List.all_append]using h
def oE {H:Type} {P} {e:TypeId}:∀{l:List (DataW H)} {i:Nat} {d:DataW H},l[i]? =some d->(qj P e l).all (·<=reachBytes)=true->(d.weights P e).all (·<=reachBytes)=true
 | [],i,d,h,_=>by simp at h
 |x::l,0,d,h,hw=>by simp at h;subst h;simp only[qj]at hw;exact(Qa hw).1
 |x::l,i+1,d,h,hw=>by simp only[qj]at hw;exact oE (by simpa using h) (Qa hw).2
def oG {H:Type} {P}:∀{ts:List TypeId} {l:List (DataW H)} {i:Nat} {t:TypeId} {d:DataW H},ts[i]? =some t->l[i]? =some d->(mn P ts l).all (·<=reachBytes)=true->(d.weights P t).all (·<=reachBytes)=true
 | [],_,i,t,d,h,_,_=>by simp at h
 |_::_,[],i,t,d,_,h,_=>by simp at h
 |t::ts,x::l,0,t',d,ht,h,hw=>by simp at ht h;subst ht;subst h;simp only[mn]at hw;exact(Qa hw).1
 |t::ts,x::l,i+1,t',d,ht,h,hw=>by simp only[mn]at hw;exact oG (by simpa using ht) (by simpa using h) (Qa hw).2
def Q8 {vs:List Value} (h:∀i:Nat,i<vs.length->∃o m,o<=i/\i<o+m/\Ct (chunk vs o m)):Ct vs:=by intro v hv;obtain⟨i,hi,rfl⟩:=List.getElem_of_mem hv;obtain⟨o,m,h1,h2,h3⟩:=h i hi;refine h3 _ ?_;refine fg (i:=i-o) ?_;simp only[chunk,fu,List.getElem?_drop];rw[if_pos (by omega),show o+(i-o)=i by omega,bg hi]
mutual
def cOf {H:Type}:DataW H->C
 | .lit (.bool b)=>.bool b| .lit (.int _ n)=>.int n| .lit (.string l)=>.str l| .nil=>.slice []| .slice es _=>.slice (JL es)| .agg ps=>.agg (JL ps)|_=>.nil
def JL {H:Type}:List (DataW H)->List C
 | []=>[]|d::ds=>cOf d::JL ds
end
def VP {H:Type}:∀{ds:List (DataW H)} {i:Nat},(JL ds)[i]? =(ds[i]?).map cOf
 | [],i=>by simp[JL]
 |d::ds,0=>by simp[JL]
 |d::ds,i+1=>by simp[JL,VP]
def VQ {H:Type}:∀{ds:List (DataW H)},(JL ds).length=ds.length
 | []=>rfl|d::ds=>by simp[JL,VQ]
section
variable {H:Type} {enc:TypeId × Value->H} {P:Program} {w:World}
def UM (hP:Aq P=true) {base:Nat} {held:Bool} {sp} (hsp:∀b,sp b=true):∀(fuel f:Nat) {t:TypeId} {cs:List Value} {d:DataW H} {ps:List MemPlace},t<P.types.size->(tyF P f t).dat=true->
  lu enc P w base sp held fuel t cs=some (d,ps)->(d.weights P t).all (·<=reachBytes)=true->AL (HM w) (tyF P f t) cs (cOf d)
 |0,f,t,cs,d,ps,_,_,h,_=>by simp[lu]at h
 |fuel+1,0,t,cs,d,ps,_,hf,h,_=>by simp[tyF,Ty.dat]at hf
 |fuel+1,f+1,t,cs,d,ps,ht,hf,h,hw=>by
  have hok:=Ip hP ht;unfold okT at hok;unfold tyF at hf ⊢;rw[if_pos ht]at hf ⊢;cases hu:P.underlying t with
  |none=>simp[hu,Ty.dat]at hf|some desc=>
   simp only[hu]at hf hok ⊢;cases desc with
   |bool=>
    unfold lu at h;simp only[hu]at h;split at h <;> simp_all;rw[<-h.1];simp[AL,cOf]
   |int k=>
    unfold lu at h;simp only[hu]at h;split at h <;> simp_all;obtain⟨⟨rfl,hh⟩,hd,_⟩:=h;simp[Lit.wf]at hh;rw[<-hd];simp[AL,cOf];omega
   |string=>
    unfold lu at h;simp only[hu]at h;split at h <;> simp_all;obtain⟨hh,rfl,_⟩:=h;simp[pj,reachBytes]at hw;simp only[AL,cOf];exact⟨_,rfl,by simp,by simp;omega⟩
   |slice e=>
    simp only[Ty.dat,az,decide_eq_true_eq]at hf;simp only[az,beq_iff_eq,decide_eq_true_eq]at hok;have hsz:(tyF P f e).size=P.cellsOf e:=Cj hP f e;unfold lu at h;simp only[hu]at h;split at h <;> try (simp_all;done)
    ·simp only[ek,gm]at h;rw[<-h.1];simp only[AL,cOf];exact⟨none,0,0,[],rfl,rfl,rfl,bx _,by simp[maxLen],by simp,.inl rfl⟩
    ·rename_i e' a len cap he;simp at he;subst he;split at h
     ·rename_i hc;simp only[mw,eu]at h;obtain⟨elems,he1,rest,he2,he3⟩:=h;simp only[gm]at he3;obtain⟨rfl,_⟩:=he3;simp only[pj,hu,tf,az,decide_eq_true_eq]at hw;obtain⟨hw1,hw2⟩:=hw;obtain⟨hw2,hw3⟩:=Qa hw2;have hl:=SK he1;simp at hl;have hbound:len*P.bytesOf e<=140737488355328:=by have:len*P.bytesOf e<=(elems.length+rest.length)*P.bytesOf e:=Nat.mul_le_mul_right _ (by omega);simp[reachBytes]at hw1;omega
      by_cases hz:len=0
      ·subst hz;have:elems=[]:=by cases elems <;> simp_all
       subst this;simp only[AL,cOf,vo,JL];exact⟨some a,0,cap,[],rfl,rfl,rfl,dv _,hc.2.2,by simp,.inl rfl⟩
      ·have key:∀i,i<len->∃l,HM w a.block=some l/\a.spot=none/\(a.off+i*P.cellsOf e)+P.cellsOf e<=l.length/\∀x,elems[i]? =some x->AL (HM w) (tyF P f e) (chunk l (a.off+i*P.cellsOf e) (P.cellsOf e)) (cOf x.1):=by
        intro i hi;have hg:=Ou he1 i;rw[ir hi]at hg;have hi':i<elems.length:=by omega
        rw[bg hi']at hg;simp only[gh,mw]at hg;obtain⟨cs,hc1,hc2⟩:=hg;obtain⟨l,q1,q2,q3,q4⟩:=qY hc1 (by rw[<-hsz];exact hf.2);have eb:(a.add (i*P.cellsOf e)).block=a.block:=by unfold od;split <;> rfl
        have eo:(a.add (i*P.cellsOf e)).off=a.off+i*P.cellsOf e:=by unfold od;split <;> simp_all
        have h0:a.spot=none:=by have hg0:=Ou he1 0;rw[ir (by omega),bg (by omega)]at hg0;simp only[gh,mw]at hg0;obtain⟨cs0,z8k,_⟩:=hg0;obtain⟨_,_,q,_⟩:=qY z8k (by rw[<-hsz];exact hf.2);simpa[od]using q
        rw[eb]at q1;rw[eo]at q3 q4;subst q4;have hcr:=UM hP hsp fuel f hok.2 hf.1 hc2 (oE (i:=i) (by simp[dg,bg hi']) hw2);exact⟨l,q1,h0,q3,fun x hx=>by rw[bg hi']at hx;cases hx;exact hcr⟩
       obtain⟨l,hl1,hl2,_,_⟩:=key 0 (by omega);simp only[AL,cOf];refine⟨some a,len,cap,_,rfl,rfl,by simp[VQ,hl],hc.2.1,hc.2.2,hbound,.inr ⟨a.block,a.off,l,?_,hl1,?_,fun i c hi=>?_⟩⟩;{cases a;simp_all}
       ·rw[hsz];obtain⟨l',q1,_,q3,_⟩:=key (len-1) (by omega);rw[hl1]at q1;cases q1;have:len*P.cellsOf e=(len-1)*P.cellsOf e+P.cellsOf e:=by rw[<-Nat.succ_mul];congr 1;omega
        omega
       ·simp only[VP,dg,rr,eu]at hi;obtain⟨x,hx,rfl⟩:=hi;have hi':i<len:=by have:=(bu.1 hx).1;omega
        rw[hsz];obtain⟨l',q1,_,_,q4⟩:=key i hi';rw[hl1]at q1;cases q1;exact q4 x hx
     ·cases h
   |array n e=>
    simp only[Ty.dat,az,decide_eq_true_eq]at hf;simp only[az,beq_iff_eq,decide_eq_true_eq]at hok;have hsz:(tyF P f e).size=P.cellsOf e:=Cj hP f e;unfold lu at h;simp only[hu]at h;split at h
    ·rename_i hlen;simp only[eu]at h;obtain⟨elems,he1,he3⟩:=h;simp only[gm]at he3;obtain⟨rfl,_⟩:=he3;simp only[pj,hu]at hw;have hl:=SK he1;simp at hl;have key:∀i x,elems[i]? =some x->AL (HM w) (tyF P f e) (chunk cs (i*P.cellsOf e) (P.cellsOf e)) (cOf x.1):=by
      intro i x hx;have hg:=Ou he1 i;have hi:i<n:=by have:=(bu.1 hx).1;omega
      rw[ir hi,hx]at hg;simp only[gh]at hg;exact UM hP hsp fuel f hok.2 hf.1 hg (oE (i:=i) (by simp[dg,hx]) hw)
     simp only[AL,cOf];refine⟨_,rfl,by simp[VQ,hl],by rw[hsz,hlen,hok.1],Q8 fun i hi=>?_,fun i c hi=>?_⟩
     ·have hi2:i / P.cellsOf e<n:=by rw[Nat.div_lt_iff_lt_mul (by omega)];omega
      have hc:=key (i / P.cellsOf e) _ (bg (by omega));refine⟨_,_,?_,?_,hc.one⟩;{exact Nat.div_mul_le_self _ _};{have:=Nat.lt_div_mul_add (a:=i) (b:=P.cellsOf e) (by omega);omega}
     ·simp only[VP,dg,rr,eu]at hi;obtain⟨x,hx,rfl⟩:=hi;rw[hsz];exact key i x hx
    ·cases h
   |struct fs=>
    simp only[Ty.dat,az,decide_eq_true_eq,eh,List.any_eq_true,gp]at hf;simp only[eh,az,decide_eq_true_eq]at hok;obtain⟨⟨hf1,hf2⟩,hf3⟩:=hf;unfold lu at h;simp only[hu]at h;split at h
    ·rename_i hlen;simp only[eu]at h;obtain⟨elems,he1,he3⟩:=h;simp only[gm]at he3;obtain⟨rfl,_⟩:=he3;simp only[pj,hu]at hw;have hl:=SK he1;have key:∀(i:Nat) g x,fs.toList[i]? =some g->elems[i]? =some x->AL (HM w) (tyF P f g.type) (chunk cs g.offset (P.cellsOf g.type)) (cOf x.1):=by
      intro i g x hi he;have hg:=Ou he1 i;rw[hi,he]at hg;simp only[gh]at hg
      exact UM hP hsp fuel f (hok g (fg hi)).1 (rS (i:=i) hf1 (by simp only[dg,hi,gj])) hg
        (oG (i:=i) (by simp only[dg,hi,gj]) (by simp only[dg,he,gj]) hw)
     simp only[AL,cOf];refine⟨_,rfl,hlen,Q8 fun i hi=>?_,BR.LQ (by simp[VQ,hl]) fun i F c hF hc=>?_⟩;{obtain⟨j,hj,hj2⟩:=hf3 i (by omega);split at hj2;{rename_i o F ho hF;simp at hj2;simp only[dg,eu]at ho hF;obtain⟨g,hg,rfl⟩:=ho;obtain⟨g',hg',rfl⟩:=hF;rw[hg]at hg';cases hg';have hjl:=(bu.1 hg).1;have hc:=key j g _ hg (bg (by omega));rw[Cj hP]at hj2;exact⟨_,_,hj2.1,hj2.2,hc.one⟩};{cases hj2}};{simp only[dg,VP,rr,eu]at hF hc;obtain⟨g,hg,rfl⟩:=hF;obtain⟨x,hx,rfl⟩:=hc;refine⟨g.offset,by simp only[dg,hg,gj],?_,?_⟩;{rw[Cj hP,hlen];exact(hok g (fg hg)).2};{rw[Cj hP];exact key i g x hg hx}}
    ·cases h
   |_=>simp[Ty.dat]at hf
end
end
section
open Go Go.ChangeShapes Go.WideShapes Go.RowKit
def mT (P:Program):Bool:=(fi P.types.size).all fun t=>match P.underlying t with|some (.slice e)=>decide (0<P.cellsOf e)|_=>true
def NV (w:World) (gl:Nat->Option (Ty × C)):Prop:=∀g τ c,gl g=some (τ,c)->∃l,HM w g=some l/\τ.size<=l.length/\AL (HM w) τ (chunk l 0 τ.size) c
def Rg (P:Program):List (String × DataW Unit)->Nat->Option (Ty × C)
 | [],_=>none|(n,d)::r,g=>if P.globalNamed n=some g then(match(P.globals[g]?).map (·.type)with|some t=>some (ty P t,cOf d)|none=>none)else Rg P r g
def WT (P:Program) (l:List (String × DataW Unit)):Bool:=l.all fun x=>match P.globalNamed x.1 with
 |some g=>match(P.globals[g]?).map (·.type)with|some t=>decide (t<P.types.size)&&(ty P t).dat&&(x.2.weights P t).all (·<=reachBytes)|none=>false
 |none=>false
def wJ {P} (hP:Aq P=true) {w}:∀{l:List (String × DataW Unit)} {ps:List MemPlace},WT P l=true->DataW.LaidVars P w l ps->NV w (Rg P l)
 | [],_,_,_=>fun g τ c h=>by simp[Rg]at h
 |(n,d)::r,ps,hk,h=>by
  obtain⟨g0,t,cs,fuel,p,q,hg,ht,hv,hd,hr,_⟩:=h;simp only[WT,tf,az,hg,ht,decide_eq_true_eq]at hk;obtain⟨⟨⟨k1,k2⟩,k3⟩,k4⟩:=hk;intro g τ c h;simp only[Rg]at h;split at h
  ·rename_i e;rw[hg]at e;cases e;rw[ht]at h;simp at h;obtain⟨rfl,rfl⟩:=h;have za:=UM hP (fun _=>rfl) fuel 12 k1 k2 hd k3;simp only[World.var?,hg,gh]at hv;split at hv
   ·rename_i c T fr hc;cases hv;have hl:=za.length;refine⟨cs.toList,by simp[HM,hc],by show(tyF P 12 t).size<=_;omega,?_⟩;have:chunk cs.toList 0 (ty P t).size=cs.toList:=by show chunk cs.toList 0 (tyF P 12 t).size=_;rw[<-hl];exact MI _
    rw[this];exact za
   ·cases hv
  ·exact wJ hP k4 hr g τ c h
def q6X {P} (hP:Aq P=true) {w} {l:List (String × DataW Unit)} (hk:WT P l=true) (hn:(l.all fun x=>x.2.handleName?.isNone)=true) (h:laidMetH P l w):NV w (Rg P l):=by rw[MakeChecks.laidMetH_plain _ _ _ hn]at h;obtain⟨ps,h1,_⟩:=h;exact wJ hP hk h1
def G.start (w:World) (gl:Nat->Option (Ty × C)):G:=
 {H:=HM w,Z:=fun b=>w.heap[b]?,ι:=fun _=>none,τ:=fun _=>none,κ:=fun _=>none,gl:=gl,oo:=oof w,σ:=fun _=>none}
def o5 (n:Nat):∀(ts:List Ty) (cs:List C),GA n (kb V.d ts cs)=[]
 | [],_=>by simp[GA]
 |_::_,[]=>by simp[GA]
 |t::ts,c::cs=>by simp[GA,V.DR,o5 (n+1) ts cs]
def q1U (n:Nat):∀(ts:List Ty) (cs:List C),CZ n (kb V.d ts cs)=kb V.d ts cs
 | [],_=>by simp[CZ]
 |_::_,[]=>by simp[CZ]
 |t::ts,c::cs=>by simp[CZ,V.slot,q1U (n+1) ts cs]
def q4R {w gl} (h:NV w gl) (ts:List Ty) (cs:List C):AQ (G.start w gl) w (kc (kb V.d ts cs) fun _=>none):=by refine⟨fun b l hb=>?_,fun b o hb=>hb,fun b o sz hb=>by simp[G.start]at hb,fun k o hk=>?_,fun k hk=>absurd rfl hk,fun k k' b τ τ' hk=>by simp[G.start]at hk,fun t L ht=>?_,fun t ht=>absurd rfl ht,h,rfl,fun b sz hb=>by simp[G.start]at hb⟩;{simp only[G.start,HM]at hb;split at hb;{rename_i c T fr hc;cases hb;exact⟨c,T,fr,[],hc,by simp⟩};{cases hb}};{cases k <;> simp[kc,jj,Bx,AR]at hk};{simp[kc,S.live,o5,EA,look]at ht}
def nP {H:Type} {enc:TypeId × Value->H} {P w} {base:Nat} {sp} {held:Bool}:∀{ts:List TypeId} {vs:List Value} {ds:List (DataW H)} {ps:List MemPlace},
  lg enc P w base sp held ts vs ds ps->vs.length=ts.length/\ds.length=ts.length
 | [],vs,ds,ps,h=>by obtain⟨rfl,rfl,rfl⟩:=trodAll_nil h;simp
 |t::ts,vs,ds,ps,h=>by obtain⟨v,vs,d,ds,p,q,rfl,rfl,rfl,h1,h2⟩:=trodAll_cons h;have:=nP h2;simp[this]
def q2u {H:Type} {enc:TypeId × Value->H} {P w} {base:Nat} {sp} {held:Bool}:∀{ts:List TypeId} {vs:List Value} {ds:List (DataW H)} {ps:List MemPlace} {i:Nat} {t:TypeId} {v:Value} {d:DataW H},
  lg enc P w base sp held ts vs ds ps->ts[i]? =some t->vs[i]? =some v->ds[i]? =some d->∃p,DataW.Trod enc P w base sp held t v d p
 | [],vs,ds,ps,i,t,v,d,h,ht,_,_=>by simp at ht
 |t::ts,vs,ds,ps,i,t',v',d',h,ht,hv,hd=>by
  obtain⟨v,vs,d,ds,p,q,rfl,rfl,rfl,h1,h2⟩:=trodAll_cons h;cases i with
  |zero=>simp at ht hv hd;subst ht;subst hv;subst hd;exact⟨p,h1⟩|succ i=>exact q2u h2 (by simpa using ht) (by simpa using hv) (by simpa using hd)
def q2v {H:Type} {enc:TypeId × Value->H} {P:Program} (hl:laidOutB P=true) (hm:mapsRowed P=true) (hz:mT P=true) {w w':World} (hh:∀b,b<w.heap.size->w'.heap[b]? =w.heap[b]?) {sp}:
  ∀{ts:List TypeId} {vs:List Value} {ds:List (DataW H)} {ps:List MemPlace},(∀t∈ts,t<P.types.size)->lg enc P w 0 (fun _=>true) true ts vs ds ps->(∀p∈ps,sp p.block=true)->lg enc P w' 0 sp true ts vs ds ps
 | [],vs,ds,ps,_,h,_=>by obtain⟨rfl,rfl,rfl⟩:=trodAll_nil h;exact trodAll_mk0
 |t::ts,vs,ds,ps,hts,h,hs=>by
  have hlt:=si h;obtain⟨v,vs,d,ds,p,q,rfl,rfl,rfl,⟨n,h1⟩,h2⟩:=trodAll_cons h
  refine⟨p,q,⟨n,DataW.trod_stays (kids_rows hl hm) (fun{t e} ht hu=>?_) (fun h=>by cases h) (hts t (by simp)) h1 (fun x hx=>?_) (fun x hx=>hs x (by simp[hx]))⟩,
   q2v hl hm hz hh (fun t ht=>hts t (by simp[ht])) h2 (fun x hx=>hs x (by simp[hx])),rfl⟩
  ·have:=eh.1 hz t (gp.2 ht);simp only[hu]at this;simpa using this
  ·have:=hlt x (by simp;exact .inl hx);cases x with|cell b off=>simp only[ya,nt];rw[hh b this]|map b=>simp only[ya];rw[hh b this]
def z0y {P W} {base:Nat} {t:TypeId} {v} (hd:(ty P t).dat=true) (h:tw P W .any base t v):BJ v=(ty P t).isAgg:=by
 unfold ty tyF at hd ⊢;split at hd
 ·rename_i ht;rw[if_pos ht];unfold tw at h;cases hu:P.underlying t with
  |none=>simp[hu,Ty.dat]at hd|some d=>
   rw[hu]at h;cases d <;> simp only[hu,Ty.dat,Ty.isAgg,fe]at hd h ⊢
   case struct=>obtain⟨cs,rfl,_⟩:=h;rfl
   case array=>obtain⟨cs,rfl,_⟩:=h;rfl
   all_goals
    unfold Cell.okWide at h;rw[hu]at h;cases v <;> simp[Cell.ok,hu]at h <;> rfl
 ·simp[Ty.dat]at hd
section
variable {H:Type} {enc:TypeId × Value->H} {P:Program}
def q8A (hP:Aq P=true) (hl:laidOutB P=true) (hm:mapsRowed P=true) (hz:mT P=true) {f} {fn:Func} {s:ChangeSpec} {W} {base:Nat} {args:Array Value} {ds gs:List (DataW H)} {before} {apart fresh handsOn again:Bool}
  (hp:fn.params.toList.all (fun t=>decide (t<P.types.size)&&(ty P t).dat)=true) {tb:TypeId} (hr:fn.resultTypes=#[tb]) (hb:P.underlying tb=some .bool) (z6H:s.vars=[])
  (z8l:∀(j:Nat) t v,fn.params[j]? =some t->args[j]? =some v->tw P W .any base t v)
  (hW:DataW.Whole enc P fn.params.toList s.vars apart W args.toList ds gs before)
  (hwt:(mn P fn.params.toList ds).all (·<=reachBytes)=true) {gl:Nat->Option (Ty × C)} (hgl:NV W gl)
  (hfr:(s.fn H (ds++gs)).results=[.lit (.bool true)]) (hfa:(s.fn H (ds++gs)).args=ds) (hfv:(s.fn H (ds++gs)).vars=[])
  (law:Bo ⟨P,gl⟩ f (kb V.d (fn.params.toList.map (ty P)) (ds.map cOf)) (fun _=>none) (.d .bool (.bool true)) []):
  Calls P f args W fun e W'=>∃v,e= .returned v/\s.post enc P fn apart fresh handsOn again W args v W':=by
 have hW':=hW;obtain⟨p,q,hA,hV,rfl,hfz,hnd⟩:=hW;rw[z6H]at hV;obtain⟨rfl,rfl⟩:=trodVars_none hV;have z7i:=nP hA;have z7C:∀t∈fn.params.toList,t<P.types.size/\(ty P t).dat=true:=by intro t ht;have:=eh.1 hp t ht;simpa using this
 refine(law (fun _=>none) (G.start W gl) W args (fun _ _ h=>h) rfl ⟨q4R hgl _ _,fun _ _ h=>nomatch h⟩ ?_ ?_).mono ?_;{simp only[List.length_zipWith,List.length_map,z7i.2];have:=z7i.1;simp at this ⊢;omega}
 ·intro i x u hx hu;rw[q1U,List.getElem?_zipWith]at hx;split at hx
  ·rename_i τ c hτ hc;cases hx;simp only[dg,eu]at hτ hc;obtain⟨t,ht,rfl⟩:=hτ;obtain⟨d,hd,rfl⟩:=hc;have hu':args.toList[i]? =some u:=by simpa using hu
   obtain⟨ps,fuel,htr⟩:=q2u hA ht hu' hd;have hm:=z7C t (fg ht);have hv:=z8l i t u (by simpa using ht) hu;refine(Bd rfl).2 ⟨?_,?_⟩;{simp only[AA];exact UM hP (fun _=>rfl) fuel 12 hm.1 hm.2 htr (oG ht hd hwt)};{simp only[V.ty];exact z0y hm.2 hv}
  ·cases hx
 ·rintro e W' ⟨u,Γ',rfl,gle,c',hu⟩;have hu':u= .bool true:=(Fa hu).1;subst hu';refine⟨_,rfl,?_⟩;have hold:∀b,b<W.heap.size->W'.heap[b]? =W.heap[b]?:=by
   intro b hb;have:Γ'.Z b=some W.heap[b]:=by rw[gle.Z];simp[G.start,hb]
   rw[c'.hZ b _ this];simp[hb]
  have hoo:oof W'=oof W:=by rw[c'.hoo,gle.oo];rfl
  have hpl:∀t∈fn.params.toList,t<P.types.size:=fun t ht=>(z7C t ht).1;have z7D:∀x∈p,x.block<W.heap.size:=si hA;have z6s:∀(b:Nat) (sp:Nat->Bool) (hd:Bool),lg enc P W' b sp hd fn.resultTypes.toList ((Value.bool true).resultList fn.resultTypes.size) [.lit (.bool true)] []:=by intro b sp hd;rw[hr];exact trodAll_mk1 (shut_bool hb _)
  have z7j:∀sp:Nat->Bool,(∀x∈p,sp x.block=true)->lg enc P W' 0 sp true fn.params.toList args.toList ds p:=fun sp hs=>q2v hl hm hz hold hpl hA hs;refine⟨ds,[],p++[],[],p,[],hW',?_,?_,?_,?_,fun _=>⟨?_,[.lit (.bool true)]++ds,[],([]++p)++[],⟨[]++p,[],trodAll_append (z7j _ (fun _ _=>rfl)) (z6s _ _ _),by rw[z6H];rfl,rfl,?_,?_⟩,?_⟩⟩;{rw[hfr];exact z6s _ _ _};{rw[hfa];exact z7j _ (fun x hx=>by simpa using z7D x hx)};{rw[hfv,z6H];rfl};{refine⟨congrArg Prod.fst hoo,congrArg Prod.snd hoo,fun i hi=>?_⟩;rw[hold i hi];cases hc:W.heap[i]? with|none=>rfl|some o=>cases o <;> simp}
  ·intro j t r hj hrr;rw[hr]at hj hrr;cases j with
   |zero=>
    simp at hj;subst hj;have:r= .bool true:=by simpa[Value.resultList]using hrr.symm
    subst this;exact okWide_bool_mk hb _
   |succ j=>simp at hj
  ·intro b off hx;have hx':MemPlace.cell b off∈p:=by simpa using hx
   have:=hfz b off (by simpa using hx');unfold World.frozen? at this ⊢;rw[hold b (z7D _ hx')];exact this
  ·intro ha;simpa using hnd ha
  ·intro x hx _;simpa using hx
end
end
section
section
variable {X:Cx} {md:List (Nat × Nat)} {ops:Array Oper} {Φ:S->Prop} {rest:List Oper} {ts:List Nat} {o:Oper} {base s:S}
end
end
mutual
def C.beq:C->C->Bool
 | .int a,.int b=>decide (a=b)| .bool a,.bool b=>a==b| .str a,.str b=>decide (a=b)| .agg a,.agg b=>C.Gi a b| .slice a,.slice b=>C.Gi a b| .nil,.nil=>true|_,_=>false
def C.Gi:List C->List C->Bool
 | [],[]=>true|x::xs,y::ys=>C.beq x y&&C.Gi xs ys|_,_=>false
end
mutual
def C.beq_iff:∀(a b:C),C.beq a b=true↔a=b
 | .int a,b=>by cases b <;> simp[C.beq]
 | .bool a,b=>by cases b <;> simp[C.beq]
 | .str a,b=>by cases b <;> simp[C.beq]
 | .agg a,b=>by cases b <;> simp[C.beq,C.Nj a]
 | .slice a,b=>by cases b <;> simp[C.beq,C.Nj a]
 | .nil,b=>by cases b <;> simp[C.beq]
def C.Nj:∀(a b:List C),C.Gi a b=true↔a=b
 | [],b=>by cases b <;> simp[C.Gi]
 |x::xs,[]=>by simp[C.Gi]
 |x::xs,y::ys=>by simp[C.Gi,C.beq_iff x,C.Nj xs]
end
instance:DecidableEq C:=fun a b=>decidable_of_iff _ (C.beq_iff a b)
def C.Vq (a b:C):rp a b=C.beq a b:=by rw[kl,C.GP,C.beq_iff]
def V.isAny:V->Bool
 | .any=>true|_=>false
def V.Oe {x:V} (h:x.isAny=false):x≠.any:=by intro e;subst e;cases h
instance (k:IntKind) (x:V):Decidable (x.isInt k):=by unfold V.isInt;split <;> infer_instance
instance (x:V):Decidable x.isBool:=by unfold V.isBool;split <;> infer_instance
instance (x:V):Decidable x.isStr:=by unfold V.isStr;split <;> infer_instance
instance (x:V):Decidable x.FH:=by unfold V.FH;split <;> infer_instance
instance (τ:Ty) (x:V):Decidable (x.DM τ):=by unfold V.DM;split <;> infer_instance
def S.wA (s:S) (A:Key->Option O):S:={s with A:=A}
def leA (A A':Key->Option O):Prop:=∀k o,A k=some o->A' k=some o
def Cy {s:S} {A'} (hA:leA s.A A') {k o} (h:s.obj k=some o):(s.wA A').obj k=some o:=by
 simp only[jj,Bx,S.wA]at h ⊢;cases hl:AR s.loc k with
 |some x=>rw[hl]at h;exact h|none=>
  rw[hl]at h;cases k with
  |l n=>cases h
  |g k=>exact hA _ _ h
def LN (s:S) (A':Key->Option O) (n:Nat):(s.wA A').obj (.l n)=s.obj (.l n):=rfl
def Eu (gl:Nat->Option (Ty × C)) (s:S) (A':Key->Option O):Ak gl (s.wA A')=Ak gl s:=by funext y;cases y <;> rfl
def nW {s:S} {A'} (hA:leA s.A A'):leA s.up (s.wA A').up:=by intro k o h;simp only[S.up,eu]at h ⊢;obtain⟨x,h1,h2⟩:=h;exact⟨x,Cy hA h1,h2⟩
def q8P (s:S) (A':Key->Option O) (t:Nat):(s.wA A').live t=s.live t:=rfl
def tL {s:S} {A'} (hA:leA s.A A') {x r} (h:EH s x=some r):EH (s.wA A') x=some r:=by
 cases x <;> simp only[EH]at h ⊢ <;> try exact h
 split at h;{rename_i y hy;rw[Cy hA hy];exact h};{cases h}
def VO (τ:Ty):V->List (Nat × V)->Bool
 |_,[]=>true|x,(i,v)::rest=>(τ.child i).isSome&&decide ((Bm (τ.get i) v).ty=τ.get i)&&(Bm (τ.get i) v).plain&& !(x.at [i]).isAny&&VO τ (x.setAt [i] (Bm (τ.get i) v)) rest
def qQ {τ}:∀{l:List (Nat × V)} {x:V},VO τ x l=true->MH τ x l
 | [],_,_=>trivial|(i,v)::rest,x,h=>by simp only[VO,az,decide_eq_true_eq,jt]at h;exact⟨h.1.1.1.1,h.1.1.1.2,h.1.1.2,V.Oe h.1.2,qQ h.2⟩
abbrev RI:=V × List (Key × O) × List (Nat × Option Nat)
def Gn {α:Type}:List (C × α)->C->α->List (C × α)
 | [],c,v=>[(c,v)]|(k,u)::es,c,v=>if C.beq c k=true then(k,v)::es else(k,u)::Gn es c v
def U7 {α:Type} (c:C) (v:α):∀(es:List (C × α)),Gn es c v=EK es c v
 | []=>rfl|(k,u)::es=>by simp only[Gn,EK,C.Vq,U7 c v es]
def z4J {P} {s:S} {A'} (hA:leA s.A A') {src dst:TypeId} {x ys} (h:strOf P s src dst x=some ys):strOf P (s.wA A') src dst x=some ys:=by
 cases hel:EH s x with
 |some r=>
  rw[<-h];unfold strOf;rw[hel,tL hA hel]
 |none=>
  unfold strOf at h ⊢;rw[hel]at h;split at h;{split at h;{rename_i h0;rw[if_pos h0];split at h;{exact h};{cases h}};{cases h}};{cases h}
def z4I {P s} {src dst:TypeId} {x ys K} (h:strOf P s src dst x=some ys):¬Mp P src dst x K:=by unfold strOf at h;split at h;{rename_i ht hd;unfold Mp;rw[ht,hd];exact id};{cases h}
def WQ (A':Key->Option O):∀(σ:List (Nat × List Nat)) (s:S),Dy σ (s.wA A')=(Dy σ s).wA A'
 | [],_=>rfl|(t,_)::σ,s=>by simp only[Dy];exact WQ A' σ (s.tok t none)
def U5 (A':Key->Option O) (d:Nat):∀(L:List (Key × O)) (s:S),Fu d L (s.wA A')=(Fu d L s).wA A'
 | [],_=>rfl|(k,o)::L,s=>by simp only[Fu,U5 A' d L s];rfl
def U8 (A':Key->Option O) (d:Nat):∀(L:List (Nat × Option Nat)) (s:S),Gp d L (s.wA A')=(Gp d L s).wA A'
 | [],_=>rfl|(k,o)::L,s=>by simp only[Gp,U8 A' d L s];rfl
def sL (A':Key->Option O):∀(L:List Nat) (s:S),GK L (s.wA A')=(GK L s).wA A'
 | [],_=>rfl|t::L,s=>by simp only[GK,sL A' L s];rfl
def q3G (A':Key->Option O) (tip:Bool) (s:S) (x:V):CH tip (s.wA A') x=CH tip s x:=rfl
def iP (A':Key->Option O) (tip:Bool) (s:S):∀(ys:List V),CR tip (s.wA A') ys=CR tip s ys
 | []=>rfl|y::ys=>by simp only[CR,iP A' tip s ys,q3G]
def pT (A':Key->Option O) (P:Program) (tip:Bool) (s:S):∀(Ts:List TypeId) (ys:List V),CU P tip (s.wA A') Ts ys=CU P tip s Ts ys
 | [],_=>rfl|_::_,[]=>rfl|T::Ts,y::ys=>by simp only[CU,pT A' P tip s Ts ys];rfl
def lZ (A':Key->Option O) (s:S) (tip:Bool) (ys:List V) (d:Nat) (v:V) (L:List (Key × O)):(s.wA A').ret tip ys d v L=(s.ret tip ys d v L).wA A':=by simp only[S.ret,iP,U5,sL,U8]
def HJ (s:S) (d:Nat):List (Key × O)->Bool
 | []=>true|(.g k,_)::L=>(s.obj k).isSome&&HJ s d L|(.l j,_)::L=>(s.obj (.l (rk d j))).isNone&&HJ s d L
def WD {s:S} {A'} (hA:leA s.A A') {d:Nat}:∀{L:List (Key × O)},HJ s d L=true->gOk (s.wA A') d L
 | [],_=>trivial|(.g k,_)::L,h=>by simp only[HJ,az]at h;obtain⟨o,ho⟩:=Option.isSome_iff_exists.1 h.1;exact⟨by rw[Cy hA ho];rfl,WD hA h.2⟩
 |(.l j,_)::L,h=>by simp only[HJ,az]at h;exact⟨by rw[LN];simpa using h.1,WD hA h.2⟩
def JC (s:S) (d:Nat):List (Nat × Option Nat)->Bool
 | []=>true|(m,_)::l=> !s.known (rk d m)&&JC s d l
def nI {s:S} {A'} {d:Nat}:∀{L:List (Nat × Option Nat)},JC s d L=true->tOk (s.wA A') d L
 | [],_=>trivial|(m,_)::L,h=>by simp only[JC,az,jt]at h;exact⟨h.1,nI h.2⟩
def Ez (s:S):List (Key × O)->Bool
 | []=>true|(.l n,_)::l=>(s.obj (.l n)).isNone&&Ez s l|(.g _,_)::_=>false
def Rb {s:S} {A'}:∀{L:List (Key × O)},Ez s L=true->FR (s.wA A') L
 | [],_=>trivial|(.l n,_)::L,h=>by simp only[Ez,az]at h;exact⟨by rw[LN];simpa using h.1,Rb h.2⟩
 |(.g _,_)::_,h=>by simp[Ez]at h
def Kq (s:S):List (Nat × Option Nat)->Bool
 | []=>true|(t,_)::l=> !s.known t&&Kq s l
def Rc {s:S} {A'}:∀{L:List (Nat × Option Nat)},Kq s L=true->FT (s.wA A') L
 | [],_=>trivial|(t,_)::L,h=>by simp only[Kq,az,jt]at h;exact⟨h.1,Rc h.2⟩
abbrev Ka:=FuncId->List V->(Key->Option O)->Option (V × List (Key × O))
abbrev Kb:=FuncId->List V->Option V
def NR (X:Cx) (call:Ka):Prop:=∀f xs A v L,call f xs A=some (v,L)->Bo X f xs A v L
def NU (X:Cx) (ext:Kb):Prop:=∀f xs v,ext f xs=some v->NT X f xs v
section
def z5y (ext:Kb) (o:Oper) (ρ:Operand->V):Option V:=
 match o.op with
 | .call c=>(match c.callee with| .value fo=>(match ρ fo with| .fn f []=>ext f (c.args.toList.map ρ)|_=>none)|_=>none)|_=>none
def z5x (X:Cx) (call:Ka) (o:Oper) (ρ:Operand->V) (s:S):Option (V × List (Key × O)):=
 match o.op with
 | .call c=>(match c.callee with
  | .value fo=>(match ρ fo with
   | .fn f yp=>if Hn X.P f=true/\c.argTypes.toList.length=c.args.toList.length then
      call f (CU X.P false s (Jp c.argTypes.toList yp) (EF (c.args.toList.map ρ) yp)) s.up else none
   |_=>none)
  |_=>none)
 |_=>none
def Ek (o:Oper) (ρ:Operand->V):List V:=
 match o.op with
 | .call c=>(match c.callee with| .value fo=>(match ρ fo with| .fn _ yp=>EF (c.args.toList.map ρ) yp|_=>[])|_=>[])|_=>[]
def VF:List Oper->List Nat
 | []=>[]|o::l=>(match o.op with| .call c=>(match c.callee,c.args.toList with| .builtin .append,(.tmp t)::_=>[t]|_,_=>[])|_=>[])++VF l
def SN:Nat->List Nat->Bool
 |_,[]=>false|i,j::l=>Nat.beq i j||SN i l
def CQ (yq:List Nat) (tbl:List (Nat × Nat)) (o:Oper) (ρ:Operand->V) (s:S):Nat:=
 match look tbl (Ab o)with
 |some m=>m
 |none=>(match o.op with| .load _ x=>if SN (Ab o) yq=true then(match ρ x with| .ptr k q _=>(match s.obj k with|some (.box y)=>(match y.at q with| .ts _ _ _=>1|_=>0)|_=>0)|_=>0)else 0|_=>0)
def dJ (o:Oper):Bool:=
 match o.op with
 | .call c=>(match c.callee with| .value _=>true|_=>false)|_=>false
section
variable {X:Cx} {call:Ka} {ext:Kb} (hc:NR X call) (he:NU X ext)
include hc he
end
def dA (ops:Array Oper) (s:S) (A':Key->Option O) (j:Nat):gv ops (s.wA A') j=gv ops s j:=by unfold gv;split <;> rfl
def Iy (s:S) (A':Key->Option O) (d:Option Nat) (v:V):(s.wA A').set d v=(s.set d v).wA A':=by cases d <;> rfl
def Cc (s:S) (d:Option Nat) (v:V):(s.set d v).A=s.A:=by cases d <;> rfl
section
variable {X:Cx} {call:Ka} {ext:Kb} (hc:NR X call) (he:NU X ext)
include hc he
end
end
section
def LL {α β:Type} (l:List α) (l':List β):Bool:=l.isEmpty&&l'.isEmpty
inductive RD where
 |k0 (v:V)|k1 (v:V) (lo:List (Key × O)) (tn:List (Nat × Option Nat))|k2 (v:V) (s:S)
def RD.kind:RD->Nat
 | .k0 _=>0| .k1 _ _ _=>1| .k2 _ _=>2
def RD.post (s:S) (A':Key->Option O) (K0:V->Prop) (K1:V->List (Key × O)->List (Nat × Option Nat)->Prop) (K2:V->S->Prop):RD->Prop
 | .k0 v=>K0 v| .k1 v lo tn=>FR (s.wA A') lo->FT (s.wA A') tn->Ez s lo=true->K1 v lo tn| .k2 v s1=>K2 v (s1.wA A')
def IE (s:S) (d:Option Nat) (v:V) (k:Key):(s.set d v).obj k=s.obj k:=by cases d <;> rfl
def gL {s:S} {lo tn} (h:Ez s lo=true) {k o} (hk:s.obj k=some o):(s.add lo tn).obj k=some o:=by
 have key:∀{lo:List (Key × O)},Ez s lo=true->AR lo k=none:=by
  intro lo
  induction lo with
  |nil=>intro _;rfl|cons x lo ih=>
   obtain⟨j,y⟩:=x;cases j with
   |g j=>intro h;simp[Ez]at h|l n=>
    intro h;simp only[Ez,az]at h;simp only[AR];rw[if_neg,ih h.2];intro e;rw[e,hk]at h;simp at h
 have e:=key h;simp only[jj,Bx,S.add]at hk ⊢;rw[LH,e];exact hk
section
variable {X:Cx} {call:Ka} {ext:Kb} (hc:NR X call) (he:NU X ext)
include hc he
end
end
section
mutual
def V.MU:∀(x:V),V.BB x x
 | .d _ _=>by simp[V.BB,Bp,V.ty]
 | .emp _ _=>.inl rfl| .agg _ vs=>⟨rfl,V.wY vs⟩| .any=>trivial| .sl _ _ _ _| .ts _ _ _| .ym| .ptr _ _ _| .yn _ _| .sr _ _ _ _ _ _ _| .mp _| .fn _ _| .tup _| .top _=>by simp[V.BB]
def V.wY:∀(xs:List V),V.Fp xs xs
 | []=>trivial|x::xs=>⟨V.MU x,rfl,V.wY xs⟩
end
def O.dL:O->Bool
 | .box y=>y.plain&&y.Ay| .map _ _ _=>true| .it _ _| .dead _=>true
def O.MU {o:O} (h:o.dL=true):O.BB o o:=by
 cases o with
 |box y=>
  simp only[O.dL,az]at h;exact⟨V.MU y,rfl,h.1,h.2⟩
 |map=>exact⟨rfl,rfl,rfl⟩|it=>exact⟨rfl,rfl⟩|dead=>exact(rfl:_=_)
mutual
def V.keys:V->List Nat
 | .ptr (.l k) _ _| .mp (.l k)| .sr (.l k) _ _ _ _ _ _=>[k]| .agg _ vs| .fn _ vs| .tup vs=>V.JX vs|_=>[]
def V.JX:List V->List Nat
 | []=>[]|x::xs=>x.keys++V.JX xs
end
mutual
def V.q2s:V->List Nat
 | .sl _ _ _ t=>[t]| .agg _ vs| .fn _ vs| .tup vs=>V.q2t vs|_=>[]
def V.q2t:List V->List Nat
 | []=>[]|x::xs=>x.q2s++V.q2t xs
end
def O.keys:O->List Nat
 | .box x=>x.keys| .map _ _ es=>V.JX (es.map (·.2))| .it _ _| .dead _=>[]
def reach (loc:List (Key × O)):Nat->List Nat->List Nat->List Nat
 |0,_,acc=>acc|_,[],acc=>acc|f+1,k::ks,acc=>if SN k acc=true then reach loc f ks acc else match AR loc (.l k)with|some o=>reach loc f (o.keys++ks) (k::acc)|none=>reach loc f ks acc
def JV:List (Key × O)->List Nat
 | []=>[]|(.g _,o)::l=>o.keys++JV l|(.l _,_)::l=>JV l
def GW (loc:List (Key × O)) (ks:List Nat):List (Key × O)
 ->List (Key × O)
 | []=>[]|(.g k,_)::l=>(match AR loc (.g k)with|some o=>[(.g k,o)] |none=>[])++GW loc ks l|(.l k,_)::l=>(if SN k ks=true then(match AR loc (.l k)with|some o=>[(.l k,o)] |none=>[])else[])++GW loc ks l
def Kg:List (Key × O)->Bool
 | []=>true|(_,o)::l=>o.dL&&Kg l
def Ic (L:List (Key × O)):List (Key × O)->Bool
 | []=>true|(.g k,_)::l=>(AR L (.g k)).isSome&&Ic L l|(.l _,_)::l=>Ic L l
def Na {L A}:∀{l:List (Key × O)},Ic L l=true->Ib L A l
 | [],_=>trivial|(.g k,_)::l,h=>by simp only[Ic,az]at h;exact⟨.inl h.1,Na h.2⟩
 |(.l _,_)::l,h=>Na (l:=l) h
def XC {s:S} {k o} (h:AR s.loc k=some o):s.obj k=some o:=by simp only[jj,Bx,h]
def LG {s:S} (ks:List Nat):∀{l:List (Key × O)},Kg (GW s.loc ks l)=true->Ft s (GW s.loc ks l)
 | [],_=>trivial|(.g k,_)::l,h=>by
  simp only[GW]at h ⊢;cases hl:AR s.loc (.g k)with
  |none=>rw[hl]at h;exact LG ks h|some o=>
   rw[hl]at h;simp only[ji,fx,Kg,az]at h ⊢;refine⟨?_,LG ks h.2⟩;rw[XC hl];exact O.MU h.1
 |(.l k,_)::l,h=>by
  simp only[GW]at h ⊢;by_cases hk:SN k ks=true
  ·rw[if_pos hk]at h ⊢;cases hl:AR s.loc (.l k)with
   |none=>rw[hl]at h;exact LG ks h|some o=>
    rw[hl]at h;simp only[ji,fx,Kg,az]at h ⊢;refine⟨?_,LG ks h.2⟩;rw[XC hl];exact O.MU h.1
  ·rw[if_neg hk]at h ⊢;exact LG ks h
def Er (s:S):List Nat->List (Nat × V)
 | []=>[]|i::l=>(i,s.get i)::Er s l
def JJ (f g:Nat->Bool):List (Nat × V)->Bool
 | []=>true|(_,x)::l=>x.ok f g&&JJ f g l
def bR {s f g}:∀{l:List Nat},JJ f g (Er s l)=true->Hs f g s (Er s l)
 | [],_=>trivial|i::l,h=>by simp only[Er,JJ,az]at h;exact⟨V.MU _,h.1,.inr rfl,bR h.2⟩
def DR (s:S):List Nat->List (Nat × Option Nat)
 | []=>[]|t::l=>(match look s.tk t with|some x=>[(t,x)] |none=>[])++DR s l
def Yi {s}:∀{l:List Nat},tkW s (DR s l)
 | []=>trivial|t::l=>by
  simp only[DR];cases hl:look s.tk t with
  |none=>exact Yi|some x=>
   refine⟨?_,Yi⟩;cases x with
   |none=>simp[S.known,hl]|some L=>simp[S.live,EA,hl]
def tT:List (Nat × V)->List Nat
 | []=>[]|(_,x)::l=>x.keys++tT l
def bP:List (Nat × V)->List Nat
 | []=>[]|(_,x)::l=>x.q2s++bP l
def gcS (yv:List Nat) (s:S):S:=
 ⟨Er s yv,GW s.loc (reach s.loc 100000 (tT (Er s yv)++JV s.loc) []) s.loc,s.A,DR s (bP (Er s yv))⟩
def gcB (yv:List Nat) (s:S):Bool:=
 Kg (gcS yv s).loc&&FK (Bf (gcS yv s).loc) (CV (gcS yv s).tk) (gcS yv s).loc&&Ic (gcS yv s).loc s.loc&&JJ (Bf (gcS yv s).loc) (CV (gcS yv s).tk) (Er s yv)
def q6Q {X} {n:Nat} {yv:List Nat} {s:S} (A':Key->Option O) (h:gcB yv s=true):DS X n (s.wA A') ((gcS yv s).wA A'):=by
 simp only[gcB,az]at h;obtain⟨⟨⟨h1,h2⟩,h3⟩,h4⟩:=h;refine q2X rfl ?_ h2 (Na h3) ?_ ?_;{exact LG (s:=s.wA A') _ h1}
 ·have:∀l,DR (s.wA A') l=DR s l:=by
   intro l
   induction l with
   |nil=>rfl|cons i l ih=>simp only[DR,ih];rfl
  show tkW (s.wA A') (DR s (bP (Er s yv)));rw[<-this];exact Yi
 ·have:Er (s.wA A') yv=Er s yv:=by
   generalize yv=l
   induction l with
   |nil=>rfl|cons i l ih=>simp only[Er,ih];rfl
  show Hs _ _ (s.wA A') (Er s yv);rw[<-this]at h4 ⊢;exact bR h4
def Oy (ml:List (Nat × Nat)):List (Nat × Nat)->Bool
 | []=>true|(d,m)::l=>Nat.beq (Bu ml d) m&&Oy ml l
def Ws {ml}:∀{l:List (Nat × Nat)},Oy ml l=true->∀p∈l,Bu ml p.1=p.2
 |(d,m)::l,h,p,hp=>by simp only[Oy,az]at h;rcases fz.1 hp with rfl|hp;{exact Nat.eq_of_beq_eq_true h.1};{exact Ws h.2 p hp}
def slotsOf:List (Nat × V)->List Nat
 | []=>[]|(i,_)::l=>i::slotsOf l
section
variable {X:Cx} {call:Ka} {ext:Kb} (hP:Aq X.P=true) (hmo:X.P.follows .mixedOrders=true) (hc:NR X call) (he:NU X ext)
include hP hmo hc he
end
end
end Go.E
