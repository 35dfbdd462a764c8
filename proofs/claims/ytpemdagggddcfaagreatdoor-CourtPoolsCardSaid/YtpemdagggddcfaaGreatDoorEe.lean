/-
 A framework for runs of Go code over abstract data: what it needs, and that it is sound, part 5.
 Conditions: none.
-/
import Derived.Test.YtpemdagggddcfaaGreatDoorEd
import Derived.ScopeJumps
set_option linter.all false
noncomputable section
set_option maxRecDepth 100000
set_option maxHeartbeats 4000000
open Array renaming all_eq_true'->ny,getD->oh,getD_eq_getD_getElem?->il,replicate->ke
open Bool renaming and_eq_true->bz,and_true->jq,false_eq_true->fk,false_or->ju,not_eq_true'->jg,not_true->ru,or_eq_true->mq,or_eq_true_iff->nr,or_false->vo
open Classical renaming byContradiction->pc,choose_spec->qq
open Go.Act renaming put->qv
open Go.E.C renaming elems->bq,eqb->qk
open Go.E.S renaming get->vk,obj->jo,start->kz
open Go.E.Ty renaming arr->dc
open Go.E.V renaming oks->th,plain->qe,slot->wc,ty->ox
open Go.Oper renaming looksAt->sq
open Go.Region renaming binds->rv,ready->mj,wanted->ji
open Go.Result renaming andThen_ok->dd
open Go.Sem renaming run_bind->dg
open List renaming all_eq_true->eh,countP_append->tp,getD_eq_getElem?_getD->du,getElem?_append_left->ga,getElem?_cons_succ->fu,getElem?_eq_getElem->cr,getElem?_eq_none->gp,getElem?_eq_some_iff->cq,getElem?_of_mem->sv,getElem?_toArray->jx,head?_drop->uv,length_append->da,length_cons->dp,length_nil->dx,mem_append->ic,mem_cons_of_mem->ep,mem_filter->mu,mem_filterMap->tq,mem_map->ly,mem_range->gw,range->gq,replicate->dh,size_toArray->iv
open Nat renaming le_of_lt->pz,le_refl->cn,lt_or_ge->kn,lt_succ_iff_lt_or_eq->lz,strongRecOn->vj,zero_le->ef,zero_mul->gz
open Option renaming bind_some->gu,getD_none->qc,getD_some->jl,isSome_none->sy,isSome_some->ta,map_eq_some_iff->fb,map_none->mz,map_some->gr
namespace Go.E
open Go
section
mutual
def V.BR (x:V):V->Prop
 | .d τ c=>(match x with| .wo=>(∃eb e,τ= .slice eb e)/\c= .slice []|x=>CQ x=some c/\x.ty=τ)| .emp eb e=>x= .emp eb e\/x= .wo| .agg τ ws=>(match x with| .agg τ' vs=>τ'=τ/\V.FZ vs ws|x=>x= .agg τ ws)| .any=>True|y=>x=y
def V.FZ:List V->List V->Prop
 | [],[]=>True|x::xs,y::ys=>V.BR x y/\y.ty=x.ty/\V.FZ xs ys|_,_=>False
end
def O.BR:O->O->Prop
 | .box x,.box y=>V.BR x y/\y.ty=x.ty/\y.plain=true/\y.BN=true| .map kτ vτ es,.map kτ' vτ' es'=>kτ=kτ'/\vτ=vτ'/\es=es'| .it l p,.it l' p'=>l=l'/\p=p'|o,.dead τ=>τ=o.ty|_,_=>False
def Ct (tk:List (Nat × Option Nat)) (t:Nat):Bool:=(look tk t).isSome
def CB (L:List (Key × O)) (n:Nat):Bool:=(AK L (.l n)).isSome
section
variable {Γ:G}
theorem V.mT:∀{xs ys:List V},V.FZ xs ys->xs.length=ys.length
 | [],[],_=>rfl|x::xs,y::ys,h=>by simp only[V.FZ]at h;simp[V.mT h.2.2]
 | [],_::_,h=>by simp[V.FZ]at h
 |_::_,[],h=>by simp[V.FZ]at h
mutual
theorem AA.BR {hm:Option Key}:∀(y x:V) {p:List Nat} {vs:List Value},V.BR x y->AA Γ hm p x vs->AA Γ hm p y vs/\(y≠.any->y.ty.isAgg=x.ty.isAgg/\(x≠.wo->y.ty=x.ty))
 | .d τ c,x,p,vs,h,hr=>by
  cases x
  case wo=>
   simp only[V.BR]at h;obtain⟨⟨eb,e,rfl⟩,rfl⟩:=h;simp only[AA]at hr ⊢;subst hr;exact⟨Dw rfl (cn _) (ef _) (by rw[gz];exact ef _) (.inl rfl),fun _=>⟨rfl,fun h=>absurd rfl h⟩⟩
  all_goals
   simp only[V.BR]at h;obtain⟨h1,h2⟩:=h;have:=KR _ hr h1;rw[h2]at this;exact⟨by simpa only[AA]using this,fun _=>⟨by simp only[ox]at h2 ⊢;rw[h2],fun _=>by simp only[ox]at h2 ⊢;rw[h2]⟩⟩
 | .emp eb e,x,p,vs,h,hr=>by simp only[V.BR]at h;rcases h with rfl|rfl;{exact⟨hr,fun _=>⟨rfl,fun _=>rfl⟩⟩};{simp only[AA]at hr ⊢;subst hr;exact⟨⟨none,rfl⟩,fun _=>⟨rfl,fun h=>absurd rfl h⟩⟩}
 | .agg τ ws,x,p,vs,h,hr=>by
  cases x
  case agg τ' us=>
   simp only[V.BR]at h;obtain⟨rfl,h⟩:=h;simp only[AA]at hr ⊢;obtain⟨r1,r2,r3,r4,r5⟩:=hr;exact⟨⟨r1,r2,by rw[<-V.mT h];exact r3,r4,AV.BR ws us h r5⟩,fun _=>⟨rfl,fun _=>rfl⟩⟩
  all_goals (simp only[V.BR]at h;cases h)
 | .any,x,p,vs,_,_=>⟨by simp only[AA],fun h=>absurd rfl h⟩| .sl eb e cs t,x,p,vs,h,hr=>by simp only[V.BR]at h;subst h;exact⟨hr,fun _=>⟨rfl,fun _=>rfl⟩⟩
 | .ts eb e cs,x,p,vs,h,hr=>by simp only[V.BR]at h;subst h;exact⟨hr,fun _=>⟨rfl,fun _=>rfl⟩⟩
 | .wo,x,p,vs,h,hr=>by simp only[V.BR]at h;subst h;exact⟨hr,fun _=>⟨rfl,fun _=>rfl⟩⟩
 | .ptr k q τ,x,p,vs,h,hr=>by simp only[V.BR]at h;subst h;exact⟨hr,fun _=>⟨rfl,fun _=>rfl⟩⟩
 | .wq τ c,x,p,vs,h,hr=>by simp only[V.BR]at h;subst h;exact⟨hr,fun _=>⟨rfl,fun _=>rfl⟩⟩
 | .sr k q lo n cp eb e,x,p,vs,h,hr=>by simp only[V.BR]at h;subst h;exact⟨hr,fun _=>⟨rfl,fun _=>rfl⟩⟩
 | .mp k,x,p,vs,h,hr=>by simp only[V.BR]at h;subst h;exact⟨hr,fun _=>⟨rfl,fun _=>rfl⟩⟩
 | .fn f wx,x,p,vs,h,hr=>by simp only[V.BR]at h;subst h;exact⟨hr,fun _=>⟨rfl,fun _=>rfl⟩⟩
 | .tup us,x,p,vs,h,hr=>by simp only[V.BR]at h;subst h;exact⟨hr,fun _=>⟨rfl,fun _=>rfl⟩⟩
 | .top τ,x,p,vs,h,hr=>by simp only[V.BR]at h;subst h;exact⟨hr,fun _=>⟨rfl,fun _=>rfl⟩⟩
theorem AV.BR {hm:Option Key}:∀(ys xs:List V) {p:List Nat} {i:Nat} {τ:Ty} {vs:List Value},V.FZ xs ys->AV Γ hm p i τ xs vs->AV Γ hm p i τ ys vs
 | [],[],_,_,_,_,_,h=>h|y::ys,x::xs,p,i,τ,vs,h,hr=>by simp only[V.FZ]at h;simp only[AV]at hr ⊢;obtain⟨⟨o,f,h1,h2,h3,h4⟩,h5⟩:=hr;obtain⟨k1,k2⟩:=AA.BR y x h.1 h4;exact⟨⟨o,f,h1,h.2.1.trans h2,h3,k1⟩,AV.BR ys xs h.2.2 h5⟩
 | [],_::_,_,_,_,_,h,_=>by simp[V.FZ]at h
 |_::_,[],_,_,_,_,h,_=>by simp[V.FZ]at h
end
mutual
theorem V.Rd {f g f' g':Nat->Bool} (hf:∀n,f n=true->f' n=true) (hg:∀n,g n=true->g' n=true):∀x:V,x.ok f g=true->x.ok f' g'=true
 | .ptr (.l k) _ _,h| .mp (.l k),h| .sr (.l k) _ _ _ _ _ _,h=>by simp only[V.ok]at h ⊢;exact hf _ h
 | .sl _ _ _ t,h=>by simp only[V.ok]at h ⊢;exact hg _ h
 | .agg _ vs,h| .fn _ vs,h| .tup vs,h=>by simp only[V.ok]at h ⊢;exact V.rS hf hg vs h
 | .ptr (.g _) _ _,_| .mp (.g _),_| .sr (.g _) _ _ _ _ _ _,_| .d _ _,_| .ts _ _ _,_| .emp _ _,_| .wo,_| .wq _ _,_| .top _,_| .any,_=>by simp[V.ok]
theorem V.rS {f g f' g':Nat->Bool} (hf:∀n,f n=true->f' n=true) (hg:∀n,g n=true->g' n=true):∀xs:List V,th f g xs=true->th f' g' xs=true
 | [],_=>rfl|x::xs,h=>by simp only[th,bz]at h ⊢;exact⟨V.Rd hf hg x h.1,V.rS hf hg xs h.2⟩
end
theorem V.rP {f g f' g':Nat->Bool} (hf:∀n,f n=true->f' n=true) (hg:∀n,g n=true->g' n=true):∀xs:List (C × V),V.DK f g xs=true->V.DK f' g' xs=true
 | [],_=>rfl|x::xs,h=>by simp only[V.DK,bz]at h ⊢;exact⟨V.Rd hf hg x.2 h.1,V.rP hf hg xs h.2⟩
theorem O.Rd {f g f' g':Nat->Bool} (hf:∀n,f n=true->f' n=true) (hg:∀n,g n=true->g' n=true) (o:O) (h:o.ok f g=true):o.ok f' g'=true:=by
 cases o with
 |box x=>exact V.Rd hf hg x h|map=>exact V.rP hf hg _ h|it=>rfl|dead=>rfl
structure Sub (Γ Γ':G) (f g:Nat->Bool):Prop where
 oo:Γ'.oo=Γ.oo
 σ:Γ'.σ=Γ.σ
 H:Γ'.H=Γ.H
 Z:Γ'.Z=Γ.Z
 gl:Γ'.gl=Γ.gl
 ιg:∀k,Γ'.ι (.g k)=Γ.ι (.g k)
 ιl:∀n,f n=true->Γ'.ι (.l n)=Γ.ι (.l n)
 τ:∀t,g t=true->Γ'.τ t=Γ.τ t
 κ:∀b k p sz,Γ.κ b=some (.home k p,sz)->Γ'.κ b=Γ.κ b
variable {Γ':G} {f g:Nat->Bool}
mutual
theorem AA.sub (hs:Sub Γ Γ' f g) {hm:Option Key}:∀(x:V) {p:List Nat} {vs:List Value},x.ok f g=true->AA Γ hm p x vs->AA Γ' hm p x vs
 | .d _ _,_,_,_,h=>by simp only[AA]at h ⊢;rw[hs.H];exact h
 | .sl eb e cs t,_,_,ho,h=>by simp only[AA]at h ⊢;obtain⟨a,n,cap,h1,h2,x,L,h3,h4⟩:=h;exact⟨a,n,cap,h1,by rw[hs.H];exact h2,x,L,by rw[hs.τ t (by simpa[V.ok]using ho)];exact h3,h4⟩
 | .ts eb e cs,_,_,_,h=>by simp only[AA]at h ⊢;obtain⟨a,n,cap,k,h0,h1,h2,h3⟩:=h;refine⟨a,n,cap,k,h0,h1,by rw[hs.H];exact h2,?_⟩;rcases h3 with h3|⟨b,l,sz,a1,a2,a3,a4,a5⟩;{exact .inl h3};{exact .inr ⟨b,l,sz,a1,by rw[hs.H];exact a2,a3,by rw[hs.κ b k _ sz a4];exact a4,a5⟩}
 | .emp _ _,_,_,_,h=>by simpa only[AA]using h
 | .wo,_,_,_,h=>by simpa only[AA]using h
 | .ptr (.l k) q τ,_,_,ho,h=>by simp only[AA]at h ⊢;rw[hs.ιl k (by simpa[V.ok]using ho)];exact h
 | .ptr (.g k) q τ,_,_,_,h=>by simp only[AA]at h ⊢;rw[hs.ιg];exact h
 | .wq τ c,_,_,_,h=>by simp only[AA]at h ⊢;rw[hs.H];exact h
 | .sr (.l k) _ _ _ _ _ _,_,_,ho,h=>by simp only[AA]at h ⊢;rw[hs.ιl k (by simpa[V.ok]using ho),hs.σ];exact h
 | .sr (.g k) _ _ _ _ _ _,_,_,_,h=>by simp only[AA]at h ⊢;rw[hs.ιg,hs.σ];exact h
 | .mp (.l k),_,_,ho,h=>by simp only[AA]at h ⊢;rw[hs.ιl k (by simpa[V.ok]using ho)];exact h
 | .mp (.g k),_,_,_,h=>by simp only[AA]at h ⊢;rw[hs.ιg];exact h
 | .agg τ xs,_,_,ho,h=>by simp only[AA]at h ⊢;exact⟨h.1,h.2.1,h.2.2.1,h.2.2.2.1,AV.sub hs xs (by simpa[V.ok]using ho) h.2.2.2.2⟩
 | .fn _ wx,_,_,ho,h=>by simp only[AA]at h ⊢;obtain⟨cv,h1,h2⟩:=h;exact⟨cv,h1,BU.sub hs wx (by simpa[V.ok]using ho) h2⟩
 | .tup _,_,_,_,h=>by simp only[AA]at h
 | .top _,_,_,_,h=>by simpa only[AA]using h
 | .any,_,_,_,_=>by simp only[AA]
theorem AV.sub (hs:Sub Γ Γ' f g) {hm:Option Key}:∀(xs:List V) {p:List Nat} {i:Nat} {τ:Ty} {vs:List Value},th f g xs=true->AV Γ hm p i τ xs vs->AV Γ' hm p i τ xs vs
 | [],_,_,_,_,_,_=>by simp only[AV]
 |x::xs,_,_,_,_,ho,h=>by simp only[AV]at h ⊢;simp only[th,bz]at ho;obtain⟨⟨o,ff,h1,h2,h3,h4⟩,h5⟩:=h;exact⟨⟨o,ff,h1,h2,h3,AA.sub hs x ho.1 h4⟩,AV.sub hs xs ho.2 h5⟩
theorem BU.sub (hs:Sub Γ Γ' f g):∀(xs:List V) {vs:List Value},th f g xs=true->BU Γ xs vs->BU Γ' xs vs
 | [],_,_,h=>by simpa only[BU]using h
 |x::xs,_,ho,h=>by simp only[BU]at h ⊢;simp only[th,bz]at ho;obtain⟨v,vs',h1,h2,h3,h4⟩:=h;exact⟨v,vs',h1,AA.sub hs x ho.1 h2,h3,BU.sub hs xs ho.2 h4⟩
end
theorem AE.sub (hs:Sub Γ Γ' f g) {x:V} {v:Value} (ho:x.ok f g=true) (h:AE Γ x v):AE Γ' x v:=by
 cases x
 case any=>trivial
 case tup us=>obtain⟨vs,h1,h2⟩:=h;exact⟨vs,h1,BU.sub hs _ (by simpa[V.ok]using ho) h2⟩
 all_goals exact⟨AA.sub hs _ ho h.1,h.2⟩
theorem rO {f g:Nat->Bool}:∀{es:List (C × V)} {i:Nat} {c:C × V},V.DK f g es=true->es[i]? =some c->c.2.ok f g=true
 | [],_,_,_,h=>by simp at h
 |x::xs,0,c,h,hc=>by simp[V.DK]at h;simp at hc;subst hc;exact h.1
 |x::xs,i+1,c,h,hc=>by simp[V.DK]at h;exact rO h.2 (by simpa using hc)
theorem tP:∀{l:List Ty} {i:Nat} {t:Ty},Ty.Rm l=true->l[i]? =some t->t.EI=true
 | [],_,_,_,h=>by cases h
 |x::l,0,t,h,hi=>by simp only[Ty.Rm,bz]at h;simp at hi;subst hi;exact h.1
 |x::l,i+1,t,h,hi=>by simp only[Ty.Rm,bz]at h;exact tP h.2 (by simpa using hi)
theorem q4P {τ f:Ty} {i o:Nat} (h:τ.EI=true) (hc:τ.child i=some (o,f)):f.EI=true:=by
 cases τ with
 |struct sz os fs=>
  simp only[Ty.child]at hc;split at hc;{rename_i o' f' h1 h2;cases hc;exact tP (by simpa only[Ty.EI]using h) h2};{cases hc}
 |arr n e=>
  simp only[Ty.child]at hc;split at hc;{cases hc;simpa only[Ty.EI]using h};{cases hc}
 |_=>cases hc
mutual
theorem AA.plain (hH:Γ'.H=Γ.H) {hm:Option Key}:∀(x:V) {p:List Nat} {vs:List Value},x.ty.EI=true->AA Γ hm p x vs->AA Γ' hm p x vs
 | .d _ _,_,_,_,h=>by simp only[AA]at h ⊢;rw[hH];exact h
 | .top _,_,_,_,h=>by simpa only[AA]using h
 | .agg τ xs,p,vs,ht,h=>by simp only[AA]at h ⊢;exact⟨h.1,h.2.1,h.2.2.1,h.2.2.2.1,AV.plain hH xs ht h.2.2.2.2⟩
 | .sl ..,_,_,ht,_=>by simp[ox,Ty.EI]at ht
 | .ts ..,_,_,ht,_=>by simp[ox,Ty.EI]at ht
 | .emp ..,_,_,ht,_=>by simp[ox,Ty.EI]at ht
 | .wo,_,_,ht,_=>by simp[ox,Ty.EI]at ht
 | .ptr ..,_,_,ht,_=>by simp[ox,Ty.EI]at ht
 | .wq ..,_,_,ht,_=>by simp[ox,Ty.EI]at ht
 | .sr ..,_,_,ht,_=>by simp[ox,Ty.EI]at ht
 | .mp ..,_,_,ht,_=>by simp[ox,Ty.EI]at ht
 | .fn ..,_,_,ht,_=>by simp[ox,Ty.EI]at ht
 | .tup ..,_,_,ht,_=>by simp[ox,Ty.EI]at ht
 | .any,_,_,ht,_=>by simp[ox,Ty.EI]at ht
theorem AV.plain (hH:Γ'.H=Γ.H) {hm:Option Key} {p:List Nat}:∀(xs:List V) {i:Nat} {τ:Ty} {vs:List Value},τ.EI=true->AV Γ hm p i τ xs vs->AV Γ' hm p i τ xs vs
 | [],_,_,_,_,_=>by simp[AV]
 |x::xs,i,τ,vs,ht,h=>by simp only[AV]at h ⊢;obtain⟨⟨o,f,h1,h2,h3,h4⟩,h5⟩:=h;exact⟨⟨o,f,h1,h2,h3,AA.plain hH x (by rw[h2];exact q4P ht h1) h4⟩,AV.plain hH xs ht h5⟩
end
def O.okP (f g:Nat->Bool):O->Bool
 | .map _ vτ es=>vτ.EI||V.DK f g es|o=>o.ok f g
theorem O.q4k {f g:Nat->Bool} {o:O} (h:o.ok f g=true):o.okP f g=true:=by
 cases o with
 |map=>exact nr.2 (.inr h)|_=>exact h
theorem Own.sub (hs:Sub Γ Γ' f g) {w:World} {k:Key} {o:O} (hk:Γ'.ι k=Γ.ι k) (ho:o.okP f g=true) (h:Own Γ w k o):Own Γ' w k o:=by
 cases o with
 |box x=>
  obtain⟨b,cells,T,h1,h2,h3,h4,h5,h6,h7⟩:=h;exact⟨b,cells,T,by rw[hk];exact h1,by rw[hs.H];exact h2,by rw[hs.Z];exact h3,h4,h5,AA.sub hs x ho h6,h7⟩
 |map kτ vτ es=>
  obtain⟨b,ms,clock,h1,h2,h3,h4,h5,h6,h7⟩:=h;refine⟨b,ms,clock,by rw[hk];exact h1,by rw[hs.H];exact h2,by rw[hs.Z];exact h3,h4,h5,fun i m c hm hc=>?_,h7⟩;obtain⟨a1,a2,a3,a4⟩:=h6 i m c hm hc;simp only[O.okP,mq]at ho;rcases ho with ho|ho;{exact⟨by rw[hs.H];exact a1,a2,AA.plain hs.H _ (by rw[a4.2.1];exact ho) a3,a4⟩};{exact⟨by rw[hs.H];exact a1,a2,AA.sub hs _ (rO ho hc) a3,a4⟩}
 |it l pos=>
  obtain⟨b,adr,v,h1,h2,h3,h4,h5,h6,h7⟩:=h;refine⟨b,adr,v,by rw[hk];exact h1,by rw[hs.H];exact h2,by rw[hs.Z];exact h3,h4,h5,h6,?_⟩;rcases h7 with h7|⟨g,cap,g1,g2,g3,g4⟩;{exact .inl h7};{exact .inr ⟨g,cap,g1,by rw[hs.H];exact g2,by rw[hs.κ g _ _ _ g3];exact g3,g4⟩}
 |dead τ=>
  obtain⟨b,h1,h4⟩:=h;exact⟨b,by rw[hk];exact h1,h4⟩
theorem Own.BR {w:World} {k:Key} {o o':O} (hi:O.BR o o') (h:Own Γ w k o):Own Γ w k o':=by
 cases o' with
 |dead τ=>
  have e:τ=o.ty:=by cases o <;> exact hi
  obtain⟨b,τ',h1,_,h4,h5⟩:=h.block;exact⟨b,by rw[e,<-h5];exact h1,h4⟩
 |box y=>cases o with
  |box x=>
   obtain⟨b,cells,T,h1,h2,h3,h4,h5,h6,h7,h8⟩:=h;obtain⟨i1,ht,i2,i3⟩:=hi;obtain⟨r1,_⟩:=AA.BR y x i1 h6;exact⟨b,cells,T,by rw[ht];exact h1,h2,h3,h4,by rw[ht];exact h5,by rw[ht];exact r1,i2,i3⟩
  |_=>exact hi.elim
 |map kτ vτ es=>cases o with
  |map=>obtain⟨rfl,rfl,rfl⟩:=hi;exact h
  |_=>exact hi.elim
 |it l p=>cases o with
  |it=>obtain⟨rfl,rfl⟩:=hi;exact h
  |_=>exact hi.elim
theorem O.q1x {o o':O} (hi:O.BR o o') (h:o.JR):o'.JR:=by
 cases o' with
 |dead=>trivial|box y=>cases o with
  |box x=>
   obtain⟨e,rfl⟩:=h;obtain⟨i1,_,i2,_⟩:=hi;cases y <;> simp only[V.BR,qe,reduceCtorEq,or_self,fk]at i1 i2;obtain⟨h1,rfl⟩:=i1;simp only[CQ,Option.some.injEq]at h1;subst h1;exact⟨e,rfl⟩
  |_=>exact hi.elim
 |map kτ vτ es=>cases o with|map=>exact h.elim|_=>exact hi.elim
 |it l p=>cases o with|it=>exact h.elim|_=>exact hi.elim
theorem O.mS {o o':O} (hi:O.BR o o') (h:o.Ea=true):o'.Ea=true:=by cases o <;> simp[O.Ea]at h;cases o' <;> first|rfl|exact hi.elim
end
end
section
def Fc (s:S):List (Key × O)->Prop
 | []=>True|(k,o)::l=>(match s.obj k with|some o0=>O.BR o0 o|none=>False)/\Fc s l
def DY (τ:Ty):List (C × V)->Bool
 | []=>true|(_,v)::l=>(match v with| .d τ' _=>Ty.beq τ' τ|_=>false)&&DY τ l
theorem eU {f g:Nat->Bool} {τ:Ty}:∀{es:List (C × V)},DY τ es=true->V.DK f g es=true
 | [],_=>rfl|(_,v)::l,h=>by simp only[DY,bz]at h;simp only[V.DK,bz];refine⟨?_,eU h.2⟩;cases v <;> simp at h;rfl
def O.okB (f g:Nat->Bool):O->Bool
 | .map _ vτ es=>vτ.EI||DY vτ es|o=>o.ok f g
theorem O.q4j {f g:Nat->Bool} {o:O} (h:o.okB f g=true):o.okP f g=true:=by
 cases o with
 |map kτ vτ es=>
  simp only[O.okB,O.okP,mq]at h ⊢;exact h.imp id eU
 |_=>exact h
def FC (f g:Nat->Bool):List (Key × O)->Bool
 | []=>true|(_,o)::l=>o.okB f g&&FC f g l
def IE (L:List (Key × O)) (A:Key->Option O):List (Key × O)->Prop
 | []=>True|(.g k,o)::l=>((AK L (.g k)).isSome=true\/A k=some o)/\IE L A l|(.l _,_)::l=>IE L A l
def HX (f g:Nat->Bool) (s:S):List (Nat × V)->Prop
 | []=>True|(i,x)::l=>V.BR (s.get i) x/\x.ok f g=true/\(x= .any\/x.ty.isAgg=(s.get i).ty.isAgg)/\HX f g s l
def tkW (s:S):List (Nat × Option Nat)->Prop
 | []=>True|(t,x)::l=>(match x with|some L=>s.live t=some L|none=>s.known t=true)/\tkW s l
theorem UX {s:S}:∀{l:List (Key × O)} {k:Key} {o:O},Fc s l->AK l k=some o->∃o0,s.obj k=some o0/\O.BR o0 o
 | [],_,_,_,h=>by simp[AK]at h
 |(j,p)::l,k,o,hw,h=>by simp only[AK]at h;split at h;{rename_i e;cases h;subst e;have:=hw.1;split at this;{rename_i o0 ho;exact⟨o0,ho,this⟩};{exact this.elim}};{exact UX hw.2 h}
theorem oQ {f g:Nat->Bool}:∀{l:List (Key × O)} {k:Key} {o:O},FC f g l=true->AK l k=some o->o.okP f g=true
 | [],_,_,_,h=>by simp[AK]at h
 |(j,p)::l,k,o,hw,h=>by simp only[AK]at h;simp only[FC,bz]at hw;split at h;{cases h;exact O.q4j hw.1};{exact oQ hw.2 h}
theorem WV {L:List (Key × O)} {A:Key->Option O}:∀{l:List (Key × O)} {k:Key} {o:O},IE L A l->AK l (.g k)=some o->(AK L (.g k)).isSome=true\/A k=some o
 | [],_,_,_,h=>by simp[AK]at h
 |(.l j,p)::l,k,o,hw,h=>by simp[AK]at h;exact WV (l:=l) hw h
 |(.g j,p)::l,k,o,hw,h=>by simp only[AK]at h;split at h;{rename_i e;cases e;cases h;exact hw.1};{exact WV hw.2 h}
theorem Xq {f g:Nat->Bool} {s:S}:∀{l:List (Nat × V)} {i:Nat} {x:V},HX f g s l->look l i=some x->V.BR (s.get i) x/\x.ok f g=true/\(x= .any\/x.ty.isAgg=(s.get i).ty.isAgg)
 | [],_,_,_,h=>by simp[look]at h
 |(j,y)::l,i,x,hw,h=>by simp only[look]at h;split at h;{rename_i e;cases h;subst e;exact⟨hw.1,hw.2.1,hw.2.2.1⟩};{exact Xq hw.2.2.2 h}
theorem dH {s:S}:∀{l:List (Nat × Option Nat)} {t:Nat} {x:Option Nat},tkW s l->look l t=some x->match x with|some L=>s.live t=some L|none=>s.known t=true
 | [],_,_,_,h=>by simp[look]at h
 |(j,y)::l,t,x,hw,h=>by simp only[look]at h;split at h;{rename_i e;cases h;subst e;exact hw.1};{exact dH hw.2 h}
section
variable {Γ:G} {w:World} {s:S}
theorem Ux {s':S} (hA:s'.A=s.A) (hg:IE s'.loc s.A s.loc) {k:Key} (h:AK s'.loc (.g k)=none):s'.obj (.g k)=s.obj (.g k):=by
 unfold jo CY;rw[h];simp only;cases ho:AK s.loc (.g k)with
 |none=>rw[hA]|some o=>
  rcases WV hg ho with h1|h1;{rw[h]at h1;cases h1};{rw[hA];exact h1}
theorem AJ.sub (c:AJ Γ w s) {Γ':G} {f g:Nat->Bool} {s':S} (hs:Sub Γ Γ' f g) (hf:f=CB s'.loc) (hι:∀n,f n=false->Γ'.ι (.l n)=none) (hA:s'.A=s.A) (xq:AOk s.A)
  (yw:Fc s s'.loc) (zh:FC f g s'.loc=true) (hg:IE s'.loc s.A s.loc)
  (hκ:∀b o sz,Γ'.κ b=some (o,sz)->∃o',Γ.κ b=some (o',sz)/\∀T,LP o' T->LP o T)
  (tok:∀t L,s'.live t=some L->∃x,Γ'.τ t=some (x,L)/\∀b pos sz,x=some (b,pos,sz)->(∃l,Γ.H b=some l/\l.length=pos)/\Γ'.κ b=some (.tok t,sz))
  (xi:∀t,Γ'.τ t≠none->s'.known t=true):AJ Γ' w s':=by
 subst hf;have hfl:∀n,CB s'.loc n=true↔AK s'.loc (.l n)≠none:=by intro n;unfold CB;cases AK s'.loc (.l n) <;> simp
 have z39:∀k o,s'.obj k=some o->Γ'.ι k=Γ.ι k:=by
  intro k o h;cases k with
  |g k=>exact hs.ιg k|l n=>
   refine hs.ιl n ?_;rw[hfl];unfold jo CY at h;intro e;rw[e]at h;cases h
 refine⟨fun b l h=>c.hH b l (by rw[<-hs.H];exact h),fun b o h=>c.hZ b o (by rw[<-hs.Z];exact h),fun b o sz h=>?_,fun k o h=>?_,fun k h=>?_,fun k k' b τ τ' h1 h2=>?_,fun t L h=>?_,xi,fun gg τ cc h=>?_,by rw[hs.oo];exact c.hoo,fun b sz h=>c.hσ b sz (by rw[<-hs.σ];exact h)⟩;{obtain⟨o',h',hT⟩:=hκ b o sz h;obtain⟨a1,a2,arr,T,a3,a4,a5⟩:=c.hκ b o' sz h';exact⟨by rw[hs.Z];exact a1,by rw[hs.H];exact a2,arr,T,a3,a4,hT T a5⟩}
 ·have hk:=z39 k o h;cases hl:AK s'.loc k with
  |some o1=>
   have:o1=o:=by unfold jo CY at h;rw[hl]at h;cases h;rfl
   subst this;obtain⟨o0,ho,hi⟩:=UX yw hl;exact(c.obj k o0 ho).imp (fun h=>⟨hk.trans h.1,O.q1x hi h.2⟩) fun xd=>(xd.BR hi).sub hs hk (oQ zh hl)
  |none=>
   cases k with
   |l n=>unfold jo CY at h;rw[hl]at h;cases h
   |g k=>
    have h':s.obj (.g k)=some o:=by rw[<-Ux hA hg hl];exact h
    have hAk:s.A k=some o:=by
     have h2:s'.A k=some o:=by unfold jo CY at h;rw[hl]at h;exact h
     rw[<-hA];exact h2
    exact(c.obj _ o h').imp (fun h=>⟨hk.trans h.1,h.2⟩) fun xd=>xd.sub hs hk (O.q4k (O.Rd (by simp[Bl]) (by simp[Bl]) o (xq k o hAk)))
 ·cases k with
  |l n=>
   cases hh:CB s'.loc n with
   |false=>exact absurd (hι n hh) h|true=>
    have:=(hfl n).1 hh;unfold jo CY;cases hl:AK s'.loc (.l n)with
    |none=>exact absurd hl this|some o=>simp
  |g k=>
   rw[hs.ιg]at h;have:=c.dom _ h;cases hl:AK s'.loc (.g k)with
   |some o=>unfold jo CY;rw[hl];simp|none=>rw[Ux hA hg hl];exact this
 ·have back:∀k x,Γ'.ι k=some x->Γ.ι k=some x:=by
   intro k x h;cases k with
   |g k=>rw[<-hs.ιg];exact h|l n=>
    cases hh:CB s'.loc n with
    |false=>rw[hι n hh]at h;cases h
    |true=>rw[<-hs.ιl n hh];exact h
  have xk:∀k x,Γ'.ι k=some x->s.Bq k=true->s'.Bq k=true:=by
   intro k x hx h;cases hl:AK s'.loc k with
   |some o1=>
    obtain⟨o0,ho,hi⟩:=UX yw hl;rw[Ed ho]at h;have e:s'.obj k=some o1:=by unfold jo CY;rw[hl]
    rw[Ed e];exact O.mS hi h
   |none=>
    cases k with
    |g k=>unfold S.Bq at h ⊢;rw[Ux hA hg hl];exact h|l n=>
     cases hh:CB s'.loc n with
     |false=>rw[hι n hh]at hx;cases hx
     |true=>exact absurd hl ((hfl n).1 hh)
  exact(c.inj k k' b τ τ' (back _ _ h1) (back _ _ h2)).imp id (And.imp (Or.imp (xk _ _ h1) (xk _ _ h2)) id)
 ·obtain⟨x,a1,a2⟩:=tok t L h;refine⟨x,a1,fun b pos sz hx=>?_⟩;obtain⟨a3,a4⟩:=a2 b pos sz hx;exact⟨by rw[hs.H];exact a3,a4⟩
 ·rw[hs.H];exact c.hgl gg τ cc (by rw[<-hs.gl];exact h)
end
def G.part (Γ:G) (f g:Nat->Bool):G:=
 {Γ with ι:=fun k=>match k with| .l n=>if f n then Γ.ι (.l n)else none| .g k=>Γ.ι (.g k),τ:=fun t=>if g t then Γ.τ t else none}
theorem xV {X:Cx} {n:Nat} {s s':S} (hA:s'.A=s.A) (yw:Fc s s'.loc) (zh:FC (CB s'.loc) (Ct s'.tk) s'.loc=true) (hg:IE s'.loc s.A s.loc)
  (htk:tkW s s'.tk) (xy:HX (CB s'.loc) (Ct s'.tk) s s'.env):Dd X n s s':=by
 rintro Γ0 a w ⟨Γ,g1,g3,c,hs,hn,hf,xq⟩
 have sub:Sub Γ (Γ.part (CB s'.loc) (Ct s'.tk)) (CB s'.loc) (Ct s'.tk):=
  ⟨rfl,rfl,rfl,rfl,rfl,fun _=>rfl,fun n h=>by simp[G.part,h],fun t h=>by simp[G.part,h],fun _ _ _ _ _=>rfl⟩
 refine⟨Γ.part (CB s'.loc) (Ct s'.tk),⟨g1.H,g1.Z,g1.ZH,g1.g,g1.gl,g1.oo,g1.σ,g1.gn⟩,g3,c.sub sub rfl (fun n h=>by simp[G.part,h]) hA xq yw zh hg (fun b o sz h=>⟨o,h,fun _ h=>h⟩) (fun t L h=>?_) (fun t h=>?_),fun i=>?_,hn,hf,by rw[hA];exact xq⟩
 ·unfold S.live Ds at h;cases hl:look s'.tk t with
  |none=>simp[hl]at h|some x=>
   cases x with
   |none=>simp[hl]at h|some M=>
    simp[hl]at h;subst h;have yt:s.live t=some M:=dH htk hl;obtain⟨x,a1,a2⟩:=c.tok t M yt;exact⟨x,by simp[G.part,Ct,hl,a1],fun b pos sz hx=>a2 b pos sz hx⟩
 ·cases hh:Ct s'.tk t with|true=>exact hh|false=>simp[G.part,hh]at h
 ·cases hl:look s'.env i with
  |none=>simp[vk,hl,AE]|some x=>
   obtain⟨e1,e2,e3⟩:=Xq xy hl;have yu:s'.get i=x:=by simp[vk,hl]
   rw[yu];by_cases hx:x= .any;{subst hx;trivial}
   ·have hr:=hs i;have e3:=e3.resolve_left hx;refine AE.sub sub e2 ?_;cases hsi:s.get i with
    |any=>
     rw[hsi]at e1;cases x <;> simp[V.BR,CQ]at e1 hx
    |tup us=>
     rw[hsi]at e1 hr;cases x <;> simp[V.BR,CQ]at e1 hx;subst e1;exact hr
    |_=>
     rw[hsi]at e1 hr e3;have hpl:AA Γ none [] _ (a.tmps.getD i undef).cells.toList/\_:=hr;obtain⟨r1,r2⟩:=AA.BR x _ e1 hpl.1;have hxp:=V.Rn r1 hx;exact(Bz hxp).2 ⟨r1,by rw[e3];exact hpl.2⟩
end
section
def MO (X:Cx) (s:S) (r:ResultVar):V:=
 match r with
 | .tmp t=>s.get t| .cell a t=>(match s.get a with| .ptr k q τ=>(match s.obj k with|some (.box y)=>view (y.at q)|_=>.any)|_=>.any)
def Ee (X:Cx) (s:S):List ResultVar->List V
 | []=>[]|r::rs=>MO X s r::Ee X s rs
def Oe (X:Cx) (s:S) (r:ResultVar):Prop:=
 match r with
 | .tmp _=>True| .cell a t=>(match s.get a with| .ptr k q τ=>(match s.obj k with|some (.box y)=>τ=ty X.P t/\τ.known=true/\y.at q≠.any|_=>False)|_=>False)
def Oh (X:Cx) (s:S):List ResultVar->Prop
 | []=>True|r::rs=>Oe X s r/\Oh X s rs
def GZ (s:S) (f:Nat->Bool) (x:V) (v:V):Prop:=
 match v with
 | .ts eb e cs=>(match x with| .sl eb' e' cs' t=>eb'=eb/\e'=e/\cs'=cs/\s.live t=some cs.length| .emp eb' e'=>eb'=eb/\e'=e/\cs=[]| .wo=>cs=[]|_=>False)|v=>V.BR x v/\v.ok f Bl=true/\v.plain=true/\v.ty.isAgg=x.ty.isAgg
def Hu (s:S) (f:Nat->Bool):List V->List V->Prop
 | [],[]=>True|x::xs,v::vs=>GZ s f x v/\Hu s f xs vs|_,_=>False
def KA:List V->V->Option (List V)
 | [_],v=>some [v]|_,.tup vs=>some vs|_,_=>none
def FR:Nat->List V->List V->List (Nat × Option Nat)
 |m,x::xs,v::vs=>(match v,x with| .ts _ _ _,.sl _ _ _ t=>[(m,some t)]| .ts _ _ _,_=>[(m,none)]|_,_=>[])++FR (m+1) xs vs|_,_,_=>[]
def Ih:List (Nat × Option Nat)->List Nat
 | []=>[]|(_,some t)::l=>t::Ih l|(_,none)::l=>Ih l
def FE (X:Cx) (fn:Func) (A:Key->Option O) (v:V) (L:List (Key × O)) (s:S):Prop:=
 s.A=A/\Fc s L/\FC (CB L) Bl L=true/\IE L A s.loc/\Oh X s fn.results.toList/\
  (match KA (Ee X s fn.results.toList) v with|some vs=>Hu s (CB L) (Ee X s fn.results.toList) vs/\GC (Ih (FR 2000 (Ee X s fn.results.toList) vs))=true|none=>False)
def OQ:List (Nat × Option Nat)->Nat->Option Nat
 | [],_=>none|(m,some t)::l,u=>if t=u then some m else OQ l u|(_,none)::l,u=>OQ l u
theorem bA:∀{l:List (Nat × Option Nat)} {m t:Nat},GC (Ih l)=true->look l m=some (some t)->OQ l t=some m
 | [],_,_,_,h=>by simp[look]at h
 |(j,y)::l,m,t,hn,h=>by
  simp only[look]at h;split at h;{rename_i e;cases h;subst e;simp[OQ]}
  ·cases y with
   |none=>exact bA (l:=l) hn h|some u=>
    simp only[Ih,GC,bz,jg]at hn;have ih:=bA hn.2 h;have hne:u≠t:=by
     intro e;subst e;have hm:∀{l:List (Nat × Option Nat)} {m:Nat},look l m=some (some u)->u∈Ih l:=by
      intro l
      induction l with
      |nil=>intro m h;simp[look]at h|cons z l ih=>
       obtain⟨j',y'⟩:=z;intro m h;simp only[look]at h;split at h;{cases h;simp[Ih]};{cases y' with|none=>exact ih h|some t'=>simp[Ih,ih h]}
     have:=hm h;simp[this]at hn
    simp[OQ,hne,ih]
def G.fin (Γ:G) (f:Nat->Bool) (yj:List (Nat × Option Nat)):G:=
 {Γ with
  ι:=fun k=>match k with| .l n=>if f n then Γ.ι (.l n)else none| .g k=>Γ.ι (.g k)
  τ:=fun m=>match look yj m with|some (some t)=>Γ.τ t|some none=>some (none,0)|none=>none
  κ:=fun b=>match Γ.κ b with
   |some (.tok t,sz)=>match OQ yj t with|some m=>some (.tok m,sz)|none=>none
   |x=>x}
theorem Vb:∀{n:Nat} {xs vs:List V} {m:Nat},look (FR n xs vs) m=if n<=m then(match xs[m-n]?,vs[m-n]? with|some (.sl _ _ _ t),some (.ts _ _ _)=>some (some t)|some _,some (.ts _ _ _)=>some none|_,_=>none)else none
 |n,[],vs,m=>by simp[FR,look]
 |n,x::xs,[],m=>by simp only[FR,look];split <;> simp
 |n,x::xs,v::vs,m=>by
  simp only[FR,MC];have ih:=Vb (n:=n+1) (xs:=xs) (vs:=vs) (m:=m);by_cases h1:n=m
  ·subst h1;have hr:look (FR (n+1) xs vs) n=none:=by rw[ih,if_neg (by omega)]
   cases v <;> cases x <;> simp[look,hr]
  ·have h0:look (match v,x with| .ts _ _ _,.sl _ _ _ t=>[(n,some t)]| .ts _ _ _,_=>[(n,none)]|_,_=>[]) m=none:=by cases v <;> cases x <;> simp[look,h1]
   rw[h0,ih];by_cases h2:n<=m;{rw[if_pos h2,if_pos (by omega),show m-n=(m-(n+1))+1 by omega];simp only[fu]};{rw[if_neg h2,if_neg (by omega)]}
section
variable {X:Cx} {n:Nat} {s:S}
def SF (a:Act):ResultVar->Sem Value
 | .tmp t=>pure (a.tmps.getD t undef)| .cell b t=>do loadVar t (<-asAddr (a.tmps.getD b undef))
theorem q5m (fn:Func) (a:Act):results fn a.tmps=(do
  let vs <-fn.results.mapM (SF a)
  pure (if h:vs.size=1 then vs[0]else .tuple vs)):=by
 unfold results;congr 2
theorem q5A (hP:BH X.P=true) {Γ:G} {w:World} {a:Act} (c:AJ Γ w s) (hs:Fm Γ s a.tmps) {r:ResultVar} (hch:Oe X s r):
  ∃v,(SF a r).run X.P w= .ok v w/\AE Γ (MO X s r) v:=by
 cases r with
 |tmp t=>exact⟨_,rfl,hs t⟩|cell b t=>
  have hb:=hs b;simp only[Oe]at hch;split at hch;{rename_i k q τ hk;rw[hk]at hb;split at hch;{rename_i y hy;obtain⟨u,h1,h2⟩:=ZF hP c hb hy hch.2.2 hch.1 hch.2.1;obtain⟨b',τ0,o,_,_,hv⟩:=GI hb;refine⟨u,?_,?_⟩;{rw[hv]at h1;simp only[SF,hv];simpa[Instr.loadAt,Instr.sureAddr,asAddr]using h1};{simp only[MO,hk,hy];exact h2}};{exact hch.elim}};{exact hch.elim}
theorem vJ (hP:BH X.P=true) {Γ:G} {w:World} {a:Act} (c:AJ Γ w s) (hs:Fm Γ s a.tmps):∀(rs:List ResultVar),Oh X s rs->
  ∃vs:List Value,(rs.mapM (SF a)).run X.P w= .ok vs w/\vs.length=rs.length/\
   ∀(i:Nat) x v,(Ee X s rs)[i]? =some x->vs[i]? =some v->AE Γ x v
 | [],_=>⟨[],by simp,rfl,by simp[Ee]⟩|r::rs,hpl=>by simp only[Oh]at hpl;obtain⟨v,h1,h2⟩:=q5A hP c hs hpl.1;obtain⟨vs,h3,h4,h5⟩:=vJ hP c hs rs hpl.2;refine⟨v::vs,?_,by simp[h4],?_⟩;{rw[List.mapM_cons];simp only[dg];rw[h1];simp only[dd,dg];rw[h3];simp};{intro i x u hx hu;cases i with|zero=>simp[Ee]at hx hu;subst hx;subst hu;exact h2|succ i=>exact h5 i x u (by simpa[Ee]using hx) (by simpa using hu)}
theorem uQ:∀(rs:List ResultVar),(Ee X s rs).length=rs.length
 | []=>rfl|r::rs=>by simp[Ee,uQ rs]
theorem Og {f:Nat->Bool}:∀{xs vs:List V} {i:Nat} {v:V},Hu s f xs vs->vs[i]? =some v->∃x,xs[i]? =some x/\GZ s f x v
 | [],[],_,_,_,h=>by simp at h
 |x::xs,v::vs,0,v',hr,h=>by simp at h;subst h;exact⟨x,rfl,hr.1⟩
 |x::xs,v::vs,i+1,v',hr,h=>by obtain⟨y,h1,h2⟩:=Og hr.2 (show vs[i]? =some v' by simpa using h);exact⟨y,by simpa using h1,h2⟩
 | [],_::_,_,_,hr,_=>by simp[Hu]at hr
 |_::_,[],_,_,hr,_=>by simp[Hu]at hr
theorem uM {f:Nat->Bool}:∀{xs vs:List V},Hu s f xs vs->xs.length=vs.length
 | [],[],_=>rfl|x::xs,v::vs,h=>by simp[uM h.2]
 | [],_::_,hr=>by simp[Hu]at hr
 |_::_,[],hr=>by simp[Hu]at hr
theorem q5k {Γ:G} {w:World} (c:AJ Γ w s) {f:Nat->Bool} {yj:List (Nat × Option Nat)} {m:Nat} {x v:V} {u:Value} (yq:Sub Γ (Γ.fin f yj) f Bl) (hr:AE Γ x u) (hi:GZ s f x v)
  (hp:∀eb e cs,v= .ts eb e cs->match x with| .sl _ _ _ t=>look yj m=some (some t)|_=>look yj m=some none):AE (Γ.fin f yj) (v.slot m) u:=by
 have other:v.Ks=true->V.BR x v/\v.ok f Bl=true/\v.plain=true/\v.ty.isAgg=x.ty.isAgg->AE (Γ.fin f yj) (v.slot m) u:=by
  intro hn ⟨h1,h2,h3,h4⟩;have hvs:v.slot m=v:=by cases v <;> simp[wc];simp[V.Ks]at hn
  rw[hvs];refine AE.sub yq h2 ?_;cases x with
  |any=>
   cases v <;> simp[V.BR,CQ,qe]at h1 h3
  |tup us=>
   cases v <;> simp[V.BR,CQ,qe]at h1 h3
  |_=>
   obtain⟨q1,q2⟩:=hr;obtain⟨r1,_⟩:=AA.BR v _ h1 q1;exact(Bz h3).2 ⟨r1,by rw[h4];exact q2⟩
 cases v
 case ts eb e cs=>
  have hp:=hp eb e cs rfl;simp only[GZ]at hi;cases x <;> simp only at hi hp
  case sl eb' e' cs' t=>
   obtain⟨rfl,rfl,rfl,hl⟩:=hi;obtain⟨h1,_⟩:=(Bx rfl rfl).1 hr;simp only[AA]at h1;obtain⟨a,n,cap,hv,hrc,y,L,h2,h3,h4⟩:=h1;simp at hv;subst hv;simp only[wc];refine(Bx rfl rfl).2 ⟨?_,rfl⟩;simp only[AA];exact⟨a,n,cap,rfl,hrc,y,L,by simp[G.fin,hp,h2],h3,h4⟩
  case emp eb' e'=>
   obtain⟨rfl,rfl,rfl⟩:=hi;obtain⟨h1,_⟩:=(Bx rfl rfl).1 hr;simp only[AA]at h1;obtain⟨a,hv⟩:=h1;simp at hv;subst hv;simp only[wc];refine(Bx rfl rfl).2 ⟨?_,rfl⟩;simp only[AA];exact⟨a,0,0,rfl,Dw rfl (cn _) (ef _) (by rw[gz];exact ef _) (.inl rfl),none,0,by simp[G.fin,hp],cn _,fun _=>rfl⟩
  case wo=>
   subst hi;have hp2:look yj m=some none:=by assumption
   rw[FQ hr];simp only[wc];refine(Bx rfl rfl).2 ⟨?_,rfl⟩;simp only[AA];exact⟨none,0,0,rfl,Dw rfl (cn _) (ef _) (by rw[gz];exact ef _) (.inl rfl),none,0,by simp[G.fin,hp2],cn _,fun _=>rfl⟩
 all_goals exact other rfl (by simpa only[GZ]using hi)
theorem bb {Γ:G}:∀(xs:List V) (vs:List Value),xs.length=vs.length->(∀(i:Nat) x,xs[i]? =some x->x.plain=true)->(∀(i:Nat) x v,xs[i]? =some x->vs[i]? =some v->AE Γ x v)->BU Γ xs vs:=
 fun xs vs hl hp hr=>Rx hl fun i x v hx hv=>⟨hp i x hx,hr i x v hx hv⟩
theorem oZ:∀(xs:List V) (i j:Nat),look (OE i xs) j=if i<=j then xs[j-i]? else none
 | [],i,j=>by simp[OE,look]
 |x::xs,i,j=>by simp only[OE,look,oZ xs (i+1) j];by_cases h1:i=j;{subst h1;simp};{rw[if_neg h1];by_cases h2:i<=j;{rw[if_pos h2,if_pos (by omega),show j-i=(j-(i+1))+1 by omega,fu]};{rw[if_neg h2,if_neg (by omega)]}}
theorem JZ (hP:BH X.P=true) {f:FuncId} {fn:Func} {c:Code} {xs:List V} {A:Key->Option O} {v:V} {L:List (Key × O)}
  (hf:X.P.funcs[f]? =some fn) (hb:fn.body=some c) (hn:fn.ntmps=n) (hlen:xs.length<=n)
  (h:∀A',(∀k o,A k=some o->A' k=some o)->DC X n c (kz xs A') fun e s'=>(e= .normal\/e= .ret)/\FE X fn A' v L s'):Bn X f xs A v L:=by
 intro A' Γ w args hAA hgl ⟨c0,hA0⟩ xh xf;subst hn;refine calls_of_wp hf hb ?_;refine wp_mono (h A' hAA Γ {tmps:=args++ke (fn.ntmps-args.size) undef,defers:=[]} w ⟨Γ,.refl Γ,hgl,c0,?_,by simp;omega,rfl,hA0⟩) ?_
 ·intro i;have yu:(kz xs A').get i=((Cy 1000 xs)[i]?).getD .any:=by simp only[vk,kz,oZ,ef,if_true,Nat.sub_zero]
  rw[yu];cases hx:(Cy 1000 xs)[i]? with
  |none=>simp[AE]|some x=>
   have hi:i<args.size:=by rw[<-xh,<-cL 1000 xs];exact(cq.1 hx).1
   have hv:args[i]? =some args[i]:=Array.getElem?_eq_getElem hi;have:=xf i x _ hx hv;rw[il,Array.getElem?_append_left hi,hv];simpa using this
 ·rintro e a w' ⟨s',⟨he,hA,hL,z4B,xj,hch,zq⟩,Γ',g1,g3,c',hs,hn,hfr,xq⟩;obtain⟨us,hvs,hvl,hvr⟩:=vJ hP c' hs _ hch;split at zq
  ·rename_i vs xv;obtain⟨hri,hnd⟩:=zq;generalize hxs:Ee X s' fn.results.toList=rs at*;have hrl:rs.length=fn.results.toList.length:=by rw[<-hxs];exact uQ _
   have yq:Sub Γ' (Γ'.fin (CB L) (FR 2000 rs vs)) (CB L) Bl:=
    ⟨rfl,rfl,rfl,rfl,rfl,fun _=>rfl,fun n h=>by simp[G.fin,h],fun t h=>by simp[Bl]at h,fun b k p sz h=>by simp[G.fin,h]⟩
   have hvlen:=uM hri;have hul:us.length=rs.length:=by rw[hvl,hrl]
   -- what the places of the result's tokens are
   have htk:∀m,look (v.tkR 2000) m=if 2000<=m then(match vs[m-2000]? with|some (.ts _ _ cs)=>some (some cs.length)|_=>none)else none:=by
    intro m;cases rs with
    |nil=>cases v <;> simp[KA]at xv;subst xv;simp only[V.tkR,SY] <;> rfl
    |cons x1 rs1=>cases rs1 with
     |nil=>
      simp only[KA]at xv;cases xv;obtain⟨x',_,hi'⟩:=Og hri (i:=0) (v:=v) rfl;have hnt:v.tkR 2000=v.Dc 2000:=by cases v <;> simp[V.tkR];simp[GZ,qe]at hi'
      rw[hnt,wV];by_cases hm:2000=m;{subst hm;simp;cases v <;> rfl};{rw[if_neg hm];by_cases hm2:2000<=m;{rw[if_pos hm2,show m-2000=(m-2001)+1 by omega];simp};{rw[if_neg hm2]}}
     |cons x2 rs2=>cases v <;> simp[KA]at xv;subst xv;simp only[V.tkR,SY] <;> rfl
   have z3R:AJ (Γ'.fin (CB L) (FR 2000 rs vs)) w' (S.fin v L A'):=by
    refine c'.sub (s':=S.fin v L A') yq rfl (fun n h=>by simp[G.fin,show CB L n=false from h]) hA.symm xq hL z4B (hA ▸ xj) (fun b o sz h=>?_) (fun m M h=>?_) (fun m h=>?_)
    ·simp only[G.fin]at h;cases hk:Γ'.κ b with
     |none=>simp[hk]at h|some y=>
      obtain⟨o',sz'⟩:=y;cases o' with
      |home k p=>simp[hk]at h;exact⟨_,by rw[h.2],fun T hT=>by rw[<-h.1];exact hT⟩|tok t=>
       simp only[hk]at h;split at h;{simp at h;exact⟨_,by rw[h.2],fun T _=>by rw[<-h.1];trivial⟩};{cases h}
    · -- a live token of the result
     have h:look (v.tkR 2000) m=some (some M):=by
      unfold S.live Ds at h;change (match look (v.tkR 2000) m with|some (some L)=>some L|_=>none)=some M at h;cases hl:look (v.tkR 2000) m with
      |none=>simp[hl]at h|some y=>cases y with|none=>simp[hl]at h|some M'=>simp[hl]at h;rw[h]
     rw[htk]at h;by_cases hm:2000<=m
     ·rw[if_pos hm]at h;cases hv:vs[m-2000]? with
      |none=>simp[hv]at h|some v1=>
       obtain⟨x1,hx1,hi1⟩:=Og hri hv;cases v1 <;> simp[hv]at h;rename_i eb e cs;subst h;have ye:=Vb (n:=2000) (xs:=rs) (vs:=vs) (m:=m);rw[if_pos hm,hx1,hv]at ye;simp only[GZ]at hi1;cases x1 <;> simp only at hi1 ye;{obtain⟨rfl,rfl,rfl,yt⟩:=hi1;rename_i cs' t;obtain⟨y,a1,a2⟩:=c'.tok t _ yt;refine⟨y,by simp[G.fin,ye,a1],fun b pos sz hy=>?_⟩;obtain⟨a3,a4⟩:=a2 b pos sz hy;exact⟨a3,by simp[G.fin,a4,bA hnd ye]⟩};{obtain⟨rfl,rfl,rfl⟩:=hi1;exact⟨none,by simp[G.fin,ye],fun b pos sz h=>by cases h⟩};{subst hi1;exact⟨none,by simp[G.fin,ye],fun b pos sz h=>by cases h⟩}
     ·rw[if_neg hm]at h;cases h
    · -- tokens known
     have:look (FR 2000 rs vs) m≠none:=by intro e;simp[G.fin,e]at h
     rw[Vb]at this;unfold S.known;change (look (v.tkR 2000) m).isSome=true;rw[htk];by_cases hm:2000<=m
     ·rw[if_pos hm]at this ⊢;cases hv:vs[m-2000]? with
      |none=>rw[hv]at this;cases hx1:rs[m-2000]? with|none=>simp[hx1]at this|some x1=>simp[hx1]at this
      |some v1=>
       rw[hv]at this;cases v1
       case ts=>rfl
       all_goals (exfalso;cases hx1:rs[m-2000]? with|none=>simp[hx1]at this|some x1=>simp[hx1]at this)
     ·rw[if_neg hm]at this;exact absurd rfl this
   have z3C:(results fn a.tmps).run X.P w'= .ok (if h:us.length=1 then us[0]else .tuple us.toArray) w':=by
    have z4C:(fn.results.mapM (SF a)).run X.P w'= .ok us.toArray w':=by rw[Array.mapM_eq_mapM_toList];simp only[Sem.run_map]at hvs ⊢;rw[hvs];rfl
    rw[q5m];simp only[dg];rw[z4C];simp only[dd,Sem.run_pure,iv];split <;> simp
   have yp:∀(i:Nat) (v1:V) (u:Value),vs[i]? =some v1->us[i]? =some u->AE (Γ'.fin (CB L) (FR 2000 rs vs)) (v1.slot (2000+i)) u:=by intro i v1 u hv1 hu;obtain⟨x1,hx1,hi1⟩:=Og hri hv1;refine q5k c' yq (hvr i x1 u hx1 hu) hi1 fun eb e cs hts=>?_;subst hts;have ye:=Vb (n:=2000) (xs:=rs) (vs:=vs) (m:=2000+i);rw[if_pos (by omega),show 2000+i-2000=i by omega,hx1,hv1]at ye;simp only[GZ]at hi1;cases x1 <;> simp only at hi1 ye ⊢ <;> exact ye
   have hpl:∀(i:Nat) (x:V),(Cy 2000 vs)[i]? =some x->x.plain=true:=by
    intro i x hx;rw[SN]at hx;cases hv1:vs[i]? with
    |none=>simp[hv1]at hx|some v1=>
     simp[hv1]at hx;subst hx;obtain⟨x1,_,hi1⟩:=Og hri hv1;cases v1 <;> simp only[GZ]at hi1 <;> first|rfl|(exact hi1.2.2.1)
   have hrv:AE (Γ'.fin (CB L) (FR 2000 rs vs)) (v.Cw 2000) (if h:us.length=1 then us[0]else .tuple us.toArray):=by
    by_cases h1:us.length=1
    ·rw[dif_pos h1];cases rs with
     |nil=>rw[hul]at h1;simp at h1|cons x1 rs1=>cases rs1 with
      |nil=>
       simp only[KA]at xv;cases xv;have:=yp 0 v us[0] rfl (cr (by omega));have hsr:v.Cw 2000=v.slot 2000:=by cases v <;> simp[V.Cw];obtain⟨x',_,hi'⟩:=Og hri (i:=0) rfl;simp[GZ,qe]at hi'
       rw[hsr];exact this
      |cons x2 rs2=>rw[hul]at h1;simp at h1
    ·rw[dif_neg h1];have z20:BU (Γ'.fin (CB L) (FR 2000 rs vs)) (Cy 2000 vs) us:=bb _ _ (by rw[cL];omega) hpl fun i x u hx hu=>by
      rw[SN]at hx;cases hv1:vs[i]? with
      |none=>simp[hv1]at hx|some v1=>simp[hv1]at hx;subst hx;exact yp i v1 u hv1 hu
     have hvt:v= .tup vs:=by
      cases rs with
      |nil=>cases v <;> simp[KA]at xv;rw[xv]
      |cons x1 rs1=>cases rs1 with|nil=>exact absurd hul h1|cons x2 rs2=>cases v <;> simp[KA]at xv;rw[xv]
     subst hvt;exact⟨_,rfl,by simpa using z20⟩
   have z3S:GLe Γ' (Γ'.fin (CB L) (FR 2000 rs vs)):=⟨Hp.le_refl _,rfl,fun _ _=>rfl,fun _ _ h=>h,rfl,rfl,fun _ _ h=>h,fun _ h=>h⟩;rcases he with rfl|rfl;{exact⟨hfr,_,z3C,_,_,rfl,g1.trans z3S,z3R,hrv⟩};{exact⟨hfr,_,z3C,_,_,rfl,g1.trans z3S,z3R,hrv⟩}
  ·exact zq.elim
end
end
section
def dep (ops:List Oper) (i j:Nat):Prop:=∃o,ops[i]? =some o/\∃e∈o.after,rv .any e=true/\e.on=j
inductive Anc (ops:List Oper):Nat->Nat->Prop where
 |one {i j:Nat}:dep ops i j->Anc ops j i|step {i j k:Nat}:dep ops i k->Anc ops j k->Anc ops j i
theorem Anc.closed {ops:List Oper} {D:Nat->Prop} (hD:∀i j,D i->dep ops i j->D j) {i j:Nat} (h:Anc ops j i) (hi:D i):D j:=by
 induction h with
 |one h=>exact hD _ _ hi h|step h _ ih=>exact ih (hD _ _ hi h)
structure Res where
 t:Nat
 v:V
 lo:List (Key × O)
 tn:List (Nat × Option Nat)
 s1:S
def om (s:S):Key ⊕ Nat->Option (O ⊕ Option Nat)
 | .inl k=>(s.obj k).map .inl| .inr t=>(look s.tk t).map .inr
def Res.om (r:Res):Key ⊕ Nat->Option (O ⊕ Option Nat)
 | .inl k=>(AK r.lo k).map .inl| .inr t=>(look r.tn t).map .inr
def S.step (s:S) (o:Oper) (r:Res):S:=
 bif r.t==0 then s.set o.dst r.v else bif r.t==1 then(s.add r.lo r.tn).set o.dst r.v else r.s1.set o.dst r.v
theorem aG (s:S) (d:Option Nat) (v:V):om (s.set d v)=om s:=by cases d <;> rfl
theorem WM (s:S) (d:Option Nat) (v:V):(s.set d v).A=s.A:=by cases d <;> rfl
theorem rU (s:S) (lo:List (Key × O)) (tn:List (Nat × Option Nat)) (k:Key ⊕ Nat) {r:Res} (h1:r.lo=lo) (h2:r.tn=tn):om (s.add lo tn) k=match r.om k with|some x=>some x|none=>om s k:=by
 subst h1;subst h2;cases k with
 |inl k=>
  simp only[om,Res.om,S.add,jo,CY,Kl];cases AK r.lo k <;> rfl
 |inr t=>
  simp only[om,Res.om,S.add,MC];cases look r.tn t <;> rfl
theorem aH {s:S} {o:Oper} {r:Res} (h:r.t=0):om (s.step o r)=om s:=by unfold S.step;rw[h];exact aG _ _ _
theorem VC {s:S} {o:Oper} {r:Res} (h:r.t=1) (k:Key ⊕ Nat):om (s.step o r) k=match r.om k with|some x=>some x|none=>om s k:=by unfold S.step;rw[h];exact(congrFun (aG _ _ _) k).trans (rU s _ _ k rfl rfl)
theorem rV {s:S} {o:Oper} {r:Res} (h:r.t=2):om (s.step o r)=om r.s1:=by unfold S.step;rw[h];exact aG _ _ _
theorem q1b {s:S} {o:Oper} {r:Res} (h3:r.t=0\/r.t=1\/r.t=2) (h2:r.t=2->r.s1.env=s.env) (t:Nat):(s.step o r).get t=if o.dst=some t then r.v else s.get t:=by
 unfold S.step;rcases h3 with h|h|h;{rw[h];exact Jk _ _ _ _};{rw[h];exact Jk _ _ _ _}
 ·have e:r.s1.get t=s.get t:=by simp only[vk,h2 h]
  rw[h,<-e];exact Jk _ _ _ _
theorem yJ {s:S} {o:Oper} {r:Res} (h3:r.t=0\/r.t=1\/r.t=2) (h2:r.t=2->r.s1.A=s.A):(s.step o r).A=s.A:=by unfold S.step;rcases h3 with h|h|h;{rw[h];exact WM _ _ _};{rw[h];exact WM _ _ _};{rw[h,<-h2 h];exact WM _ _ _}
def Fl (ops:Array Oper) (s:S) (o:Oper):Option Bool:=
 match o.guard with
 |none=>some true|some (j,want)=>match Fy ops j with|none=>none|some t=>match s.get t with| .d .bool c=>some (c.toBool==want)| .tup []=>some false|_=>none
def Mn (X:Cx) (Q:S->Prop) (o:Oper) (ρ:Operand->V) (v:V):Prop:=
 ∀(Γ:G) (w:World) (a:Act) (s:S),Γ.gl=X.gl->AJ Γ w s->Q s->(∀y∈o.op.operands,AE Γ (ρ y) (a.eval y))->BI X.P o a w (BQ Γ w s v)
def OkR (X:Cx) (Q:S->Prop) (ops:Array Oper) (base s:S) (o:Oper) (r:Res):Prop:=
 (Fl ops s o=some false/\r.t=0/\r.v= .tup [])\/
 (Fl ops s o=some true/\(
  (r.t=0/\Mn X Q o (Ae X.gl s) r.v)\/
  (r.t=1/\WO X base o (Ae X.gl s) s r.v r.lo r.tn/\Sj s r.lo r.tn)\/
  (r.t=2/\eG X o (Ae X.gl s) s r.v r.s1)))
theorem OkR.mono {X:Cx} {Q Q':S->Prop} {ops:Array Oper} {base s:S} {o:Oper} {r:Res} (h:OkR X Q ops base s o r) (hq:∀s,Q' s->Q s):OkR X Q' ops base s o r:=by rcases h with h|⟨h0,h|h|h⟩;{exact .inl h};{exact .inr ⟨h0,.inl ⟨h.1,fun Γ w a s g c q=>h.2 Γ w a s g c (hq s q)⟩⟩};{exact .inr ⟨h0,.inr (.inl h)⟩};{exact .inr ⟨h0,.inr (.inr h)⟩}
def QC (n:Nat) (c:Nat->S) (s:S):Prop:=∀k o,(∀p,p<=n->(c p).obj k=some o)->s.obj k=some o
def Bw (rs:Nat->Res):Nat->Nat
 |0=>0|i+1=>if(rs i).t=2 then i+1 else Bw rs i
theorem Hh (rs:Nat->Res):∀i,Bw rs i<=i
 |0=>cn _|i+1=>by simp only[Bw];split;exact cn _;exact Nat.le_succ_of_le (Hh rs i)
theorem UK (rs:Nat->Res):∀i k,k<i->(rs k).t=2->k<Bw rs i
 |0,k,h,_=>by omega
 |i+1,k,h,ht=>by simp only[Bw];split;{exact h};{rename_i hi;refine UK rs i k ?_ ht;rcases lz.1 h with h|h;{exact h};{subst h;exact absurd ht hi}}
theorem Ym (rs:Nat->Res):∀i,Bw rs i=0\/∃k,Bw rs i=k+1/\(rs k).t=2
 |0=>.inl rfl|i+1=>by simp only[Bw];split;{exact .inr ⟨i,rfl,‹_›⟩};{exact Ym rs i}
structure Canon (X:Cx) (ops:List Oper) (s0:S) (rs:Nat->Res) (c:Nat->S):Prop where
 c0:c 0=s0
 cs:∀i o,ops[i]? =some o->c (i+1)=(c i).step o (rs i)
 ok:∀i o,ops[i]? =some o->OkR X (QC ops.length c) ops.toArray (c (Bw rs i)) (c i) o (rs i)
 tri:∀i,(rs i).t=0\/(rs i).t=1\/(rs i).t=2
def writes (ops:List Oper) (j t:Nat):Prop:=∃o,ops[j]? =some o/\o.dst=some t
def looks (ops:List Oper) (i t:Nat):Prop:=∃o,ops[i]? =some o/\t∈o.looksAt ops.toArray
structure Orders (ops:List Oper) (rs:Nat->Res):Prop where
 lt:∀i j,dep ops i j->j<i
 tt:∀i j,i<ops.length->j<ops.length->(rs i).t=2->(rs j).t≠0->j≠i->(j<i/\Anc ops j i)\/(i<j/\Anc ops i j)
 Cy:∀i j t,j≠i->writes ops j t->looks ops i t->(j<i/\Anc ops j i)\/(i<j/\Anc ops i j)
 one:∀i j t,writes ops i t->writes ops j t->i=j
theorem OkR.env {X:Cx} {Q:S->Prop} {ops:Array Oper} {base s:S} {o:Oper} {r:Res} (h:OkR X Q ops base s o r) (ht:r.t=2):r.s1.env=s.env/\r.s1.A=s.A:=by rcases h with h|⟨_,h|h|h⟩;{omega};{omega};{omega};{exact⟨h.2.2.1,h.2.1⟩}
section
variable {X:Cx} {ops:List Oper} {s0:S} {rs:Nat->Res} {c:Nat->S}
theorem getOp {i:Nat} (h:i<ops.length):∃o,ops[i]? =some o:=⟨_,cr h⟩
theorem Canon.A (K:Canon X ops s0 rs c):∀i,i<=ops.length->(c i).A=s0.A
 |0,_=>by rw[K.c0]
 |i+1,h=>by obtain⟨o,ho⟩:=getOp (ops:=ops) (i:=i) (by omega);rw[K.cs i o ho,yJ (K.tri i) (fun ht=>((K.ok i o ho).env ht).2),K.A i (by omega)]
theorem Canon.lY (K:Canon X ops s0 rs c) {i:Nat} {o:Oper} (ho:ops[i]? =some o) (t:Nat):(c (i+1)).get t=if o.dst=some t then(rs i).v else(c i).get t:=by rw[K.cs i o ho];exact q1b (K.tri i) (fun ht=>((K.ok i o ho).env ht).1) t
theorem Canon.YS (K:Canon X ops s0 rs c) (Od:Orders ops rs) {j t:Nat} (hw:writes ops j t):∀i,j<i->i<=ops.length->(c i).get t=(rs j).v
 |0,h,_=>by omega
 |i+1,h,hi=>by obtain⟨o,ho⟩:=getOp (ops:=ops) (i:=i) (by omega);rw[K.lY ho];by_cases hji:j=i;{subst hji;obtain⟨o',h1,h2⟩:=hw;rw[ho]at h1;cases h1;rw[if_pos h2]};{have hd:¬o.dst=some t:=fun e=>hji (Od.one j i t hw ⟨o,ho,e⟩);rw[if_neg hd];exact K.YS Od hw i (by omega) (by omega)}
theorem Canon.Tu (K:Canon X ops s0 rs c) {t:Nat}:∀i,i<=ops.length->(∀j,j<i->¬writes ops j t)->(c i).get t=s0.get t
 |0,_,_=>by rw[K.c0]
 |i+1,hi,hw=>by obtain⟨o,ho⟩:=getOp (ops:=ops) (i:=i) (by omega);have hd:¬o.dst=some t:=fun e=>hw i (by omega) ⟨o,ho,e⟩;rw[K.lY ho,if_neg hd];exact K.Tu i (by omega) (fun j hj=>hw j (by omega))
theorem Canon.fresh (K:Canon X ops s0 rs c) {i:Nat} (hi:i<ops.length) (ht:(rs i).t=1) {k:Key ⊕ Nat} {x:O ⊕ Option Nat} (h:(rs i).om k=some x):om (c i) k=none:=by
 obtain⟨o,ho⟩:=getOp hi;rcases K.ok i o ho with h1|⟨_,h1|h1|h1⟩;{omega};{omega}
 ·have hf:=h1.2.2;cases k with
  |inl k=>
   simp only[Res.om,fb]at h;obtain⟨y,h,_⟩:=h;simp only[om,hf.l k y h,mz]
  |inr t=>
   simp only[Res.om,fb]at h;obtain⟨y,h,_⟩:=h;have:=hf.t t y h;simp only[S.known]at this;simp only[om];cases hh:look (c i).tk t with
   |none=>rfl|some z=>rw[hh]at this;cases this
 ·omega
theorem Canon.mono (K:Canon X ops s0 rs c) {k:Key ⊕ Nat} {x:O ⊕ Option Nat} {i:Nat}:∀j,i<=j->j<=ops.length->(∀m,i<=m->m<j->(rs m).t≠2)->om (c i) k=some x->om (c j) k=some x
 |0,h,_,_,hx=>by have:i=0:=by omega
                 subst this;exact hx
 |j+1,h,hj,hn,hx=>by by_cases he:i=j+1;{subst he;exact hx};{have ih:=K.mono j (by omega) (by omega) (fun m h1 h2=>hn m h1 (by omega)) hx;obtain⟨o,ho⟩:=getOp (ops:=ops) (i:=j) (by omega);rw[K.cs j o ho];rcases K.tri j with h1|h1|h1;{rw[aH h1];exact ih};{rw[VC h1];cases hr:(rs j).om k with|none=>exact ih|some y=>have:=K.fresh (by omega) h1 hr;rw[ih]at this;cases this};{exact absurd h1 (hn j (by omega) (by omega))}}
theorem Canon.obj (K:Canon X ops s0 rs c) (k:Key ⊕ Nat):∀i,i<=ops.length->
  (∀j x,j<i->Bw rs i<=j->(rs j).t=1->(rs j).om k=some x->om (c i) k=some x)/\
  ((∀j,j<i->Bw rs i<=j->(rs j).t=1->(rs j).om k=none)->om (c i) k=om (c (Bw rs i)) k)
 |0,_=>⟨fun j x h=>by omega,fun _=>rfl⟩|i+1,hi=>by
  obtain⟨h1,h2⟩:=K.obj k i (by omega);obtain⟨o,ho⟩:=getOp (ops:=ops) (i:=i) (by omega);simp only[Bw];rcases K.tri i with ht|ht|ht;{rw[if_neg (by omega),K.cs i o ho,aH ht];refine⟨fun j x h3 h4 h5 h6=>?_,fun h3=>h2 fun j h4 h5 h6=>h3 j (by omega) h5 h6⟩;rcases lz.1 h3 with h7|h7;{exact h1 j x h7 h4 h5 h6};{subst h7;omega}};{rw[if_neg (by omega),K.cs i o ho,VC ht];refine⟨fun j x h3 h4 h5 h6=>?_,fun h3=>?_⟩;{rcases lz.1 h3 with h7|h7;{have:=h1 j x h7 h4 h5 h6;cases hr:(rs i).om k with|none=>exact this|some y=>have h8:=K.fresh (by omega) ht hr;rw[this]at h8;cases h8};{subst h7;rw[h6]}};{rw[h3 i (by omega) (Nat.le_of_lt_succ (Nat.lt_succ_of_le (Hh rs i))) ht];exact h2 fun j h4 h5 h6=>h3 j (by omega) h5 h6}};{rw[if_pos ht];exact⟨fun j x h3 h4=>by omega,fun _=>rfl⟩}
end
end
section
section
variable {X:Cx} {ops:List Oper} {s0:S} {rs:Nat->Res} {c:Nat->S}
def IB (X:Cx) (ops:List Oper) (s0:S) (rs:Nat->Res) (c:Nat->S) (Γ0:G) (n:Nat) (D:Nat->Prop) (a:Act) (w:World):Prop:=
 ∃Γ sD p,GLe Γ0 Γ/\Γ.gl=X.gl/\AJ Γ w sD/\AOk s0.A/\a.tmps.size=n/\a.defers=[]/\
  p<=ops.length/\(p=0\/∃k,p=k+1/\(rs k).t=2/\D k)/\(∀k,D k->(rs k).t=2->k<p)/\
  (∀k j x,D j->p<=j->(rs j).t=1->(rs j).om k=some x->om sD k=some x)/\
  (∀k,(∀j,D j->p<=j->(rs j).t=1->(rs j).om k=none)->om sD k=om (c p) k)/\
  (∀j t,D j->writes ops j t->AE Γ (rs j).v (a.tmps.getD t undef))/\
  (∀t,(∀j,D j->¬writes ops j t)->AE Γ (s0.get t) (a.tmps.getD t undef))
theorem xU {Γ:G} {a:Act} {s:S} {o:Oper} {b:Bool} {l:Array Oper} (h:Fl l s o=some b) (hs:∀t,t∈o.looksAt l->AE Γ (s.get t) (a.tmps.getD t undef)):
  ji o (yielded l a.tmps)=b:=by
 unfold Fl at h;split at h;{rename_i hg;cases h;simp[ji,hg]}
 ·rename_i j want hg;split at h;{cases h}
  ·rename_i t ht
   have hst:=hs t (by
    simp only[sq,hg,ic];right;simp only[Fy]at ht;rw[ht];simp)
   split at h;{rename_i b' hb;cases h;rw[hb]at hst;exact mB hg ht hst};{rename_i hb;cases h;rw[hb]at hst;exact mC hg ht hst};{cases h}
theorem q0R {Γ:G} {w:World} {s s':S} {a:Act} (hgl:Γ.gl=X.gl) (c:AJ Γ w s') {y:Operand} (hy:VD y=true) (ht:∀t,y= .tmp t->AE Γ (s.get t) (a.tmps.getD t undef)):
  AE Γ (Ae X.gl s y) (a.eval y):=by
 cases y with
 |tmp t=>exact ht t rfl|const v=>exact Tg (y:=.const v) (s:=⟨[],[],fun _=>none,[]⟩) hgl c (fun i=>by simp[vk,look,AE]) hy|global g=>exact Tg (y:=.global g) (s:=⟨[],[],fun _=>none,[]⟩) (a:=a) hgl c (fun i=>by simp[vk,look,AE]) hy|func f=>exact Tg (y:=.func f) (s:=⟨[],[],fun _=>none,[]⟩) (a:=a) hgl c (fun i=>by simp[vk,look,AE]) hy
theorem tV {a:Act} {d:Option Nat} {v:Value} {t:Nat} (h:d≠some t):(a.put d v).tmps.getD t undef=a.tmps.getD t undef:=by
 cases d with
 |none=>rfl|some e=>
  have:e≠t:=fun he=>h (by rw[he]);simp only[qv,il,Array.getElem?_setIfInBounds_ne this]
theorem q4U {a:Act} {t:Nat} {v:Value} (h:t<a.tmps.size):(a.put (some t) v).tmps.getD t undef=v:=by simp[qv,h]
theorem q4o {s s':S} (h:∀k,om s' k=om s k) (k:Key):s'.obj k=s.obj k:=by have:=h (.inl k);simp only[om]at this;cases h1:s'.obj k <;> cases h2:s.obj k <;> rw[h1,h2]at this;{cases this};{cases this};{cases this;rfl}
theorem rW {s s':S} (h:∀k,om s' k=om s k) (t:Nat):look s'.tk t=look s.tk t:=by have:=h (.inr t);simp only[om]at this;cases h1:look s'.tk t <;> cases h2:look s.tk t <;> rw[h1,h2]at this;{cases this};{cases this};{cases this;rfl}
theorem AJ.om {Γ:G} {w:World} {s s':S} (c:AJ Γ w s) (h:∀k,Go.E.om s' k=Go.E.om s k):AJ Γ w s':=
 c.congr (q4o h) (oP (rW h)) (fun t ht=>by rw[nH (rW h)];exact ht)
theorem VB {s:S} {k:Key} {o:O}:om s (.inl k)=some (.inl o)↔s.obj k=some o:=by simp[om]
theorem aF {s:S} {k:Key}:om s (.inl k)=none↔s.obj k=none:=by simp[om]
variable {Γ0:G} {n:Nat} {D:Nat->Prop}
theorem q6f (hP:BH X.P=true) (K:Canon X ops s0 rs c) (Od:Orders ops rs) (hok:∀o∈ops,Hm n o=true) (hDl:∀j,D j->j<ops.length) (hD:∀i j,D i->dep ops i j->D j) {i:Nat} (hi:i<ops.length) (hiD:¬D i) (z4D:∀j,dep ops i j->D j)
  {a:Act} {w:World} {Q:Exit->Act->World->Prop} (h:IB X ops s0 rs c Γ0 n D a w):wpOp X.P ops.toArray Q i (IB X ops s0 rs c Γ0 n (fun j=>D j\/j=i)) a w:=by
 obtain⟨Γ,sD,p,g1,g3,hc,hA,hn,hf,hp0,hp1,hp2,ob1,ob2,ew,e0⟩:=h;obtain⟨o,ho⟩:=getOp hi
 -- what is before i is done; what is behind i is not
 have hD':∀k j,(D k\/k=i)->dep ops k j->(D j\/j=i):=by rintro k j (h|rfl) hd;{exact .inl (hD k j h hd)};{exact .inl (z4D j hd)}
 have before:∀j,j≠i->Anc ops j i->D j:=fun j hj ha=>(Anc.closed hD' ha (.inr rfl)).resolve_right hj;have behind:∀k,D k->¬Anc ops i k:=fun k hk ha=>hiD (Anc.closed hD ha hk);have later:∀k,D k->(rs k).t=2->i<k->(rs i).t=0:=by intro k hk ht hik;by_cases h0:(rs i).t=0;{exact h0};{rcases Od.tt k i (hDl k hk) hi ht h0 (by omega)with⟨_,ha⟩|⟨h1,_⟩;{exact absurd ha (behind k hk)};{omega}}
 have slot:∀t,looks ops i t->AE Γ ((c i).get t) (a.tmps.getD t undef):=by intro t ht;by_cases hw:∃j,j≠i/\writes ops j t;{obtain⟨j,hj,hw⟩:=hw;rcases Od.Cy i j t hj hw ht with⟨hlt,ha⟩|⟨hlt,ha⟩;{rw[K.YS Od hw i hlt (by omega)];exact ew j t (before j hj ha) hw};{have hDj:¬D j:=fun h=>behind j h ha;have uniq:∀j',writes ops j' t->j'=j:=fun j' h=>Od.one j' j t h hw;rw[K.Tu (t:=t) i (by omega) (fun j' hj' h=>by have:=uniq j' h;omega)];exact e0 t (fun j' hj' h=>hDj (uniq j' h ▸ hj'))}};{have nw:∀j',writes ops j' t->j'=i:=fun j' h=>pc fun hne=>hw ⟨j',hne,h⟩;rw[K.Tu (t:=t) i (by omega) (fun j' hj' h=>by have:=nw j' h;omega)];exact e0 t (fun j' hj' h=>hiD (nw j' h ▸ hj'))}
 have hko:=hok o (List.mem_of_getElem? ho);simp only[Hm,bz,ny]at hko;have hd:∀t,o.dst=some t->t<a.tmps.size:=by intro t ht;have h2:=hko.2;rw[ht]at h2;rw[hn];exact of_decide_eq_true h2
 have xp:∀y∈o.op.operands,AE Γ (Ae X.gl (c i) y) (a.eval y):=fun y hy=>q0R g3 hc (hko.1 y hy) fun t ht=>slot t ⟨o,ho,by
  subst ht;simp only[sq,ic,tq];exact .inl ⟨.tmp t,by simpa using hy,rfl⟩⟩
 have wr:∀j t,writes ops j t->j≠i->o.dst≠some t:=fun j t hw hj hdt=>hj (Od.one j i t hw ⟨o,ho,hdt⟩)
 -- what all kinds of operations share
 have fin:∀{u:Value} {w':World} {Γ':G} {sD':S} {p':Nat},GLe Γ Γ'->Γ'.gl=X.gl->AJ Γ' w' sD'->p'<=ops.length->(p'=0\/∃k,p'=k+1/\(rs k).t=2/\(D k\/k=i))->
   (∀k,(D k\/k=i)->(rs k).t=2->k<p')->(∀k j x,(D j\/j=i)->p'<=j->(rs j).t=1->(rs j).om k=some x->om sD' k=some x)->
   (∀k,(∀j,(D j\/j=i)->p'<=j->(rs j).t=1->(rs j).om k=none)->om sD' k=om (c p') k)->
   Ba Γ Γ'->AE Γ' (rs i).v u->
   IB X ops s0 rs c Γ0 n (fun j=>D j\/j=i) (a.put o.dst u) w':=by
  intro u w' Γ' sD' p' gle z3n c' q0 q1 q2 qo1 qo2 xc hv;refine⟨Γ',sD',p',g1.trans gle,z3n,c',hA,?_,?_,q0,q1,q2,qo1,qo2,?_,?_⟩;{cases o.dst <;> simp[qv,hn]};{cases o.dst <;> simp[qv,hf]};{rintro j t (hj|rfl) hw;{have hji:j≠i:=fun e=>hiD (e ▸ hj);rw[tV (wr j t hw hji)];exact(ew j t hj hw).Bd xc};{obtain⟨o',h1,h2⟩:=hw;rw[ho]at h1;cases h1;rw[h2,q4U (hd t h2)];exact hv}};{intro t hw;rw[tV (fun e=>hw i (.inr rfl) ⟨o,ho,e⟩)];exact(e0 t (fun j hj=>hw j (.inl hj))).Bd xc}
 -- a value alone
 have value:∀{u:Value} {w':World} {Γ':G},(rs i).t=0->GLe Γ Γ'->Γ'.gl=X.gl->AJ Γ' w' sD->Ba Γ Γ'->AE Γ' (rs i).v u->
   IB X ops s0 rs c Γ0 n (fun j=>D j\/j=i) (a.put o.dst u) w':=by
  intro u w' Γ' ht gle z3n c' xc hv;refine fin gle z3n c' hp0 ?_ ?_ ?_ ?_ xc hv;{rcases hp1 with h|⟨k,h1,h2,h3⟩;{exact .inl h};{exact .inr ⟨k,h1,h2,.inl h3⟩}};{rintro k (hk|rfl) htk;{exact hp2 k hk htk};{omega}};{rintro k j x (hj|rfl) h1 h2 h3;{exact ob1 k j x hj h1 h2 h3};{omega}};{exact fun k h=>ob2 k fun j hj h1 h2=>h j (.inl hj) h1 h2}
 -- the phase
 have hpL:(rs i).t≠0->p=Bw rs i:=by
  intro hti;have hTD:∀k,(rs k).t=2->k<i->D k:=by intro k hk hki;rcases Od.tt k i (by omega) hi hk hti (by omega)with⟨h1,_⟩|⟨_,ha⟩;{omega};{exact before k (by omega) ha}
  have h1:p<=Bw rs i:=by
   rcases hp1 with h|⟨k,h1,h2,h3⟩;{omega}
   ·have hki:k<i:=by rcases kn k i with h|h;{exact h};{rcases Nat.lt_or_eq_of_le h with h|h;{exact absurd (later k h3 h2 h) hti};{subst h;exact absurd h3 hiD}}
    have:=UK rs i k hki h2;omega
  have h2:Bw rs i<=p:=by rcases Ym rs i with h|⟨k,h3,h4⟩;{omega};{have:=Hh rs i;have:=hp2 k (hTD k h4 (by omega)) h4;omega}
  omega
 have z3o:∀j,D j->(rs j).t≠0->∀m,p<=m->m<j->(rs m).t≠2:=by intro j hj ht m hm hmj htm;rcases Od.tt m j (by have:=hDl j hj;omega) (hDl j hj) htm ht (by omega)with⟨h1,_⟩|⟨_,ha⟩;{omega};{have:=hp2 m (Anc.closed hD ha hj) htm;omega}
 have z3T:(rs i).t≠0->∀m,p<=m->m<i->(rs m).t≠2:=by intro hti m hm hmi htm;have:=UK rs i m hmi htm;have:=hpL hti;omega
 -- a key is one of an operation's that is done, or stands as at the phase's start
 have za:∀k,(∃j x,D j/\p<=j/\(rs j).t=1/\(rs j).om k=some x)\/(∀j,D j->p<=j->(rs j).t=1->(rs j).om k=none):=by intro k;by_cases h:∃j x,D j/\p<=j/\(rs j).t=1/\(rs j).om k=some x;{exact .inl h};{refine .inr fun j h1 h2 h3=>?_;cases hr:(rs j).om k with|none=>rfl|some x=>exact absurd ⟨j,x,h1,h2,h3,hr⟩ h}
 simp only[wpOp,jx,ho];have z29:∀t,t∈o.looksAt ops.toArray->AE Γ ((c i).get t) (a.tmps.getD t undef):=fun t ht=>slot t ⟨o,ho,ht⟩;rcases K.ok i o ho with⟨hw,ht,hv⟩|⟨hw,z4a⟩;{rw[xU hw z29];simp only[fk,if_false];exact value ht (.refl Γ) g3 hc (.refl Γ) (by rw[hv];exact uJ)}
 ·rw[xU hw z29];simp only[if_true];left;rcases z4a with⟨ht,hdo⟩|⟨ht,hdo,hfr⟩|⟨ht,hdo⟩
  ·have hQ:QC ops.length c sD:=fun k ob hk=>by rcases za (.inl k)with⟨j,y,hj,hpj,htj,hy⟩|hB;{have:=K.fresh (hDl j hj) htj hy;rw[aF,hk j (pz (hDl j hj))]at this;cases this};{rw[<-VB,ob2 _ hB,VB];exact hk p hp0}
   refine hdo Γ w a sD g3 hc hQ xp _ _ ?_;rintro u w' ⟨Γ',gle,kp,c',hv⟩;exact value ht gle (gle.gl.trans g3) c' kp hv
  ·have hne:(rs i).t≠0:=by omega
   have hpl:=hpL hne;have hpi:p<=i:=by rw[hpl];exact Hh rs i
   obtain⟨co1,co2⟩:(∀k j x,j<i->p<=j->(rs j).t=1->(rs j).om k=some x->om (c i) k=some x)/\(∀k,(∀j,j<i->p<=j->(rs j).t=1->(rs j).om k=none)->om (c i) k=om (c p) k):=by refine⟨fun k=>?_,fun k=>?_⟩;{rw[hpl];exact(K.obj k i (by omega)).1};{rw[hpl];exact(K.obj k i (by omega)).2}
   have zu:∀k x,(rs i).om k=some x->om sD k=none:=by
    intro k x hx;have hfi:=K.fresh hi ht hx;rcases za k with⟨j,y,hj,hpj,htj,hy⟩|hB
    ·exfalso;rcases kn j i with hlt|hge;{have:=co1 k j y hlt hpj htj hy;rw[hfi]at this;cases this}
     ·have hij:i≠j:=fun e=>hiD (e ▸ hj);have h1:om (c (i+1)) k=some x:=by rw[K.cs i o ho,VC ht,hx]
      have h2:=K.mono j (by omega) (pz (hDl j hj)) (fun m hm hmj=>z3o j hj (by omega) m (by omega) hmj) h1;have h3:=K.fresh (hDl j hj) htj hy;rw[h2]at h3;cases h3
    ·rw[ob2 k hB];cases zv:om (c p) k with
     |none=>rfl|some y=>
      have:=K.mono i hpi (by omega) (z3T hne) zv;rw[hfi]at this;cases this
   have z3H:Compat sD (c i) (c (Bw rs i)):=by
    rw[<-hpl];refine⟨fun k x hx z3U=>?_,fun k x hx=>?_⟩
    ·rw[<-VB]at hx ⊢;rw[Ne,<-aF]at z3U;rcases za (.inl k)with⟨j,y,hj,hpj,htj,hy⟩|hB;{have hsD:=ob1 _ j y hj hpj htj hy;have hfj:=K.fresh (hDl j hj) htj hy;rcases kn j i with hlt|hge;{have h1:=co1 _ j y hlt hpj htj hy;rw[hx]at h1;cases h1;exact hsD};{have:=K.mono j hge (pz (hDl j hj)) (fun m hm hmj=>z3o j hj (by omega) m (by omega) hmj) hx;rw[hfj]at this;cases this}}
     ·have hsD:=ob2 _ hB;cases zv:om (c p) (.inl k)with
      |some y=>
       have:=K.mono i hpi (by omega) (z3T hne) zv;rw[hx]at this;cases this;rw[hsD,zv]
      |none=>rw[zv]at hsD;exact absurd hsD z3U
    ·rw[<-VB]at hx ⊢;rcases za (.inl k)with⟨j,y,hj,hpj,htj,hy⟩|hB;{exfalso;have hfj:=K.fresh (hDl j hj) htj hy;have:=K.mono j hpj (pz (hDl j hj)) (fun m' hm hmj=>z3o j hj (by omega) m' hm hmj) hx;rw[hfj]at this;cases this};{rw[ob2 _ hB];exact hx}
   have z3V:Sj sD (rs i).lo (rs i).tn:=by refine⟨fun k x hx=>?_,fun t x hx=>?_⟩;{exact aF.1 (zu (.inl k) (.inl x) (by simp[Res.om,hx]))};{have:=zu (.inr t) (.inr x) (by simp[Res.om,hx]);simp only[om,Option.map_eq_none_iff]at this;simp[S.known,this]}
   refine hdo Γ w a sD g3 hc z3H z3V xp _ _ ?_;rintro u w' ⟨Γ',gle,kp,c',hv⟩;have hom:∀k,om (sD.add (rs i).lo (rs i).tn) k=match(rs i).om k with|some x=>some x|none=>om sD k:=fun k=>rU sD _ _ k rfl rfl
   refine fin gle (gle.gl.trans g3) c' hp0 ?_ ?_ ?_ ?_ kp hv;{rcases hp1 with h|⟨k,h1,h2,h3⟩;{exact .inl h};{exact .inr ⟨k,h1,h2,.inl h3⟩}};{rintro k (hk|rfl) htk;{exact hp2 k hk htk};{omega}};{rintro k j x (hj|rfl) h1 h2 h3;{rw[hom k];have:=ob1 k j x hj h1 h2 h3;cases hr:(rs i).om k with|none=>exact this|some y=>rw[zu k y hr]at this;cases this};{rw[hom k,h3]}};{intro k h;rw[hom k,h i (.inr rfl) hpi ht];exact ob2 k fun j hj h1 h2=>h j (.inl hj) h1 h2}
  ·have hne:(rs i).t≠0:=by omega
   have hpl:=hpL hne;have hpi:p<=i:=by rw[hpl];exact Hh rs i
   have z3p:∀j,D j->(rs j).t≠0->j<i:=by intro j hj htj;rcases Od.tt i j hi (hDl j hj) ht htj (fun e=>hiD (e ▸ hj))with⟨h1,_⟩|⟨_,ha⟩;{exact h1};{exact absurd ha (behind j hj)}
   have hom:∀k,om (c i) k=om sD k:=by intro k;rcases za k with⟨j,y,hj,hpj,htj,hy⟩|hB;{rw[ob1 k j y hj hpj htj hy];refine(K.obj k i (by omega)).1 j y (z3p j hj (by omega)) (by rw[<-hpl];exact hpj) htj hy};{rw[ob2 k hB,hpl];refine(K.obj k i (by omega)).2 fun j hj hpj htj=>?_;rw[<-hpl]at hpj;rcases Od.tt i j hi (by omega) ht (by omega) (by omega)with⟨_,ha⟩|⟨h1,_⟩;{exact hB j (before j (by omega) ha) hpj htj};{omega}}
   refine hdo.2.2 Γ w a g3 (hc.om hom) xp _ _ ?_;rintro u w' ⟨Γ',gle,kp,c',hv⟩;refine fin (p':=i+1) gle (gle.gl.trans g3) c' (by omega) (.inr ⟨i,rfl,ht,.inr rfl⟩) ?_ ?_ ?_ kp hv;{rintro k (hk|rfl) htk;{have:=z3p k hk (by omega);omega};{omega}};{rintro k j x (hj|rfl) h1 h2 h3;{have:=z3p j hj (by omega);omega};{omega}};{intro k _;rw[K.cs i o ho,rV ht]}
end
end
section
theorem j6 {p q:Nat->Bool} {i:Nat} (hi:p i=false) (hq:∀j,q j=(p j||j==i)):∀n,i<n->(gq n).countP q=(gq n).countP p+1:=by
 have low:∀m,m<=i->(gq m).countP q=(gq m).countP p:=by
  intro m hm;apply List.countP_congr;intro j hj;have:j≠i:=by have:=gw.1 hj;omega
  simp[hq j,this]
 intro n hn
 induction n with
 |zero=>omega|succ n ih=>
  rw[List.range_succ,tp,tp];by_cases h:i<n
  ·rw[ih h];have:n≠i:=by omega
   simp only[List.countP_singleton,hq n];have hb:(n==i)=false:=by simpa using this
   rw[hb,vo];omega
  ·have:n=i:=by omega
   subst this;rw[low n (cn _)];simp[hq n,hi]
section
variable {X:Cx} {ops:List Oper} {s0:S} {rs:Nat->Res} {c:Nat->S} {Γ0:G} {n:Nat}
theorem IB.congr {D D':Nat->Prop} (h:∀j,D j↔D' j) {a:Act} {w:World} (hi:IB X ops s0 rs c Γ0 n D a w):IB X ops s0 rs c Γ0 n D' a w:=by have:D=D':=funext fun j=>propext (h j);rw[<-this];exact hi
theorem tY {listed:Array Bool} {i:Nat} (hsz:listed.size=ops.length) (h:i∈mj .any ops.toArray listed):
  i<ops.length/\listed.getD i false=false/\∀j,dep ops i j->listed.getD j false=true:=by
 simp only[mj,iv,mu,gw,bz,jg,jx]at h;obtain⟨h1,h2,h3⟩:=h;refine⟨h1,?_,?_⟩
 ·have:i<listed.size:=by omega
  simpa[oh,this]using h2
 ·rintro j ⟨o,ho,e,he,hb,rfl⟩;rw[ho]at h3;simp only[gr,jl,ny]at h3;have:=h3 e he;rw[hb]at this;simpa using this
theorem q5c (Od:Orders ops rs) {listed:Array Bool} (hsz:listed.size=ops.length) (h:mj .any ops.toArray listed=[]):∀i,i<ops.length->listed.getD i false=true:=by
 intro i
 induction i using vj with
 |_ i ih=>
  intro hi;cases hl:listed.getD i false with
  |true=>rfl|false=>
   exfalso;have:i∈mj .any ops.toArray listed:=by
    simp only[mj,iv,mu,gw,bz,jg,jx];have hs:i<listed.size:=by omega
    refine⟨hi,by simpa[oh,hs]using hl,?_⟩;rw[cr hi];simp only[gr,jl,ny];intro e he;cases hb:rv .any e with
    |false=>rfl|true=>
     have hd:dep ops i e.on:=⟨_,cr hi,e,he,hb,rfl⟩;have hlt:=Od.lt i e.on hd;simp only[ru,ju];exact ih e.on hlt (by omega)
   rw[h]at this;cases this
theorem yZ (hP:BH X.P=true) (K:Canon X ops s0 rs c) (Od:Orders ops rs) (hok:∀o∈ops,Hm n o=true) {Q:Exit->Act->World->Prop}
  (hQ:∀a w,IB X ops s0 rs c Γ0 n (fun j=>j<ops.length) a w->Q .normal a w):
  ∀(fuel:Nat) (listed:Array Bool) (a:Act) (w:World),listed.size=ops.length->fuel+(gq ops.length).countP (fun j=>listed.getD j false)=ops.length->
   (∀i j,i<ops.length->listed.getD i false=true->dep ops i j->listed.getD j false=true)->
   IB X ops s0 rs c Γ0 n (fun j=>j<ops.length/\listed.getD j false=true) a w->wpAny X.P .any ops.toArray Q fuel listed a w:=by
 intro fuel
 induction fuel with
 |zero=>
  intro listed a w hsz hc hcl hI;have xj:∀j,j<ops.length->listed.getD j false=true:=by
   have:(gq ops.length).countP (fun j=>listed.getD j false)=(gq ops.length).length:=by rw[List.length_range];omega
   rw[List.countP_eq_length]at this;exact fun j hj=>this j (gw.2 hj)
  refine⟨?_,hQ a w (hI.congr fun j=>⟨fun h=>h.1,fun h=>⟨h,xj j h⟩⟩)⟩;apply List.eq_nil_iff_forall_not_mem.2;intro i hi;obtain⟨h1,h2,_⟩:=tY hsz hi;rw[xj i h1]at h2;cases h2
 |succ fuel ih=>
  intro listed a w hsz hc hcl hI;refine⟨fun hr=>hQ a w (hI.congr fun j=>⟨fun h=>h.1,fun h=>⟨h,q5c Od hsz hr j h⟩⟩),fun i hi=>?_⟩;obtain⟨h1,h2,h3⟩:=tY hsz hi
  have hD:∀i j,(i<ops.length/\listed.getD i false=true)->dep ops i j->(j<ops.length/\listed.getD j false=true):=
   fun i j h hd=>⟨by have:=Od.lt i j hd;omega,hcl i j h.1 h.2 hd⟩
  have z4b:=q6f (Q:=Q) hP K Od hok (fun j h=>h.1) hD h1 (fun h=>by rw[h2]at h;cases h.2) (fun j hd=>⟨by have:=Od.lt i j hd;omega,h3 j hd⟩) hI;refine wpOp_mono ?_ z4b;intro a' w' hI';have zn:∀j,(listed.setIfInBounds i true).getD j false=(listed.getD j false||j==i):=by
   intro j;simp only[il,Array.getElem?_setIfInBounds];by_cases hji:i=j
   ·subst hji;have:i<listed.size:=by omega
    simp[this]
   ·have:(j==i)=false:=by simpa using fun e=>hji e.symm
    simp[hji,this]
  refine ih _ a' w' (by simp[hsz]) ?_ ?_ (hI'.congr fun j=>?_);{have:=j6 (p:=fun j=>listed.getD j false) (q:=fun j=>(listed.setIfInBounds i true).getD j false) (i:=i) h2 zn ops.length h1;omega}
  ·intro k j hk hlk hd;rw[zn]at hlk ⊢;rcases nr.1 hlk with h|h;{rw[hcl k j hk h hd];rfl}
   ·have:k=i:=by simpa using h
    subst this;rw[h3 j hd];rfl
  ·rw[zn];constructor;{rintro(h|rfl);{exact⟨h.1,by rw[h.2];rfl⟩};{exact⟨h1,by simp⟩}};{rintro⟨ha,hb⟩;rcases nr.1 hb with h|h;{exact .inl ⟨ha,h⟩};{exact .inr (by simpa using h)}}
theorem q1z (K:Canon X ops s0 rs c) {a:Act} {w:World} (h:At X n Γ0 s0 a w):IB X ops s0 rs c Γ0 n (fun j=>j<ops.length/\(ke ops.length false).getD j false=true) a w:=by
 obtain⟨Γ,g1,g3,hc,hs,hn,hf,hA⟩:=h;have no:∀j,¬(j<ops.length/\(ke ops.length false).getD j false=true):=by rintro j ⟨h1,h2⟩;simp[oh,h1]at h2
 exact⟨Γ,s0,0,g1,g3,hc,hA,hn,hf,ef _,.inl rfl,fun k h=>absurd h (no k),fun k j x h=>absurd h (no j),fun k _=>by rw[K.c0],fun j t h=>absurd h (no j),fun t _=>hs t⟩
theorem q1y (K:Canon X ops s0 rs c) (Od:Orders ops rs) {a:Act} {w:World} (h:IB X ops s0 rs c Γ0 n (fun j=>j<ops.length) a w):At X n Γ0 (c ops.length) a w:=by
 obtain⟨Γ,sD,p,g1,g3,hc,hA,hn,hf,hp0,hp1,hp2,ob1,ob2,ew,e0⟩:=h;have hpl:p=Bw rs ops.length:=by
  have h1:p<=Bw rs ops.length:=by rcases hp1 with h|⟨k,h1,h2,h3⟩;{omega};{have:=UK rs ops.length k h3 h2;omega}
  have h2:Bw rs ops.length<=p:=by rcases Ym rs ops.length with h|⟨k,h3,h4⟩;{omega};{have:=Hh rs ops.length;have:=hp2 k (by omega) h4;omega}
  omega
 have hom:∀k,om (c ops.length) k=om sD k:=by
  intro k;by_cases h:∃j x,j<ops.length/\p<=j/\(rs j).t=1/\(rs j).om k=some x;{obtain⟨j,x,h1,h2,h3,h4⟩:=h;rw[ob1 k j x h1 h2 h3 h4];exact(K.obj k _ (cn _)).1 j x h1 (by rw[<-hpl];exact h2) h3 h4}
  ·have hn:∀j,j<ops.length->p<=j->(rs j).t=1->(rs j).om k=none:=by
    intro j h1 h2 h3;cases hr:(rs j).om k with
    |none=>rfl|some x=>exact absurd ⟨j,x,h1,h2,h3,hr⟩ h
   rw[ob2 k hn,hpl];exact(K.obj k _ (cn _)).2 fun j h1 h2 h3=>hn j h1 (by rw[hpl];exact h2) h3
 refine⟨Γ,g1,g3,hc.om hom,fun t=>?_,hn,hf,by rw[K.A _ (cn _)];exact hA⟩;by_cases hw:∃j,j<ops.length/\writes ops j t;{obtain⟨j,hj,hw⟩:=hw;rw[K.YS Od hw _ hj (cn _)];exact ew j t hj hw};{rw[K.Tu (t:=t) _ (cn _) (fun j hj h=>hw ⟨j,hj,h⟩)];exact e0 t (fun j hj h=>hw ⟨j,hj,h⟩)}
theorem iC (hP:BH X.P=true) (hm:X.P.follows .mixedOrders=true) {id:Nat} {Ψ:Exit->S->Prop} (K:Canon X ops s0 rs c) (Od:Orders ops rs) (hok:∀o∈ops,Hm n o=true) (h:Ψ .normal (c ops.length)):
  DC X n (.region id ops.toArray true) s0 Ψ:=by
 intro Γ0 a w hat;obtain⟨Γ,g1,g3,hc,hs,hn,hf⟩:=hat;have zp:At X n Γ0 s0 a {w with drawn:=w.drawn+1}:=by exact⟨Γ,g1,g3,hc.ext (Ext.drew w),hs,hn,hf⟩
 refine wp_region_any hm ?_;refine yZ hP K Od hok (fun a w hI=>⟨c ops.length,h,q1y K Od hI⟩) ops.length (ke ops.length false) a _ (by simp) ?_ ?_ (q1z K zp)
 ·have:(gq ops.length).countP (fun j=>(ke ops.length false).getD j false)=0:=by apply List.countP_eq_zero.2;intro j hj;simp[oh,gw.1 hj]
  omega
 ·intro i j hi hl;simp[oh,hi]at hl
end
end
def NN (o:Oper):List Nat:=(o.after.toList.filter (rv .any)).map (·.on)
def q2S (acc:List Nat) (ds:List Nat):Nat:=ds.foldl (fun m k=>m|||2^k|||acc.getD k 0) 0
def Mr:List Oper->List Nat->List Nat
 | [],acc=>acc|o::rest,acc=>Mr rest (acc++[q2S acc (NN o)])
def yX (ops:List Oper) (j i:Nat):Bool:=((Mr ops []).getD i 0).testBit j
theorem wM (acc:List Nat) (j:Nat):∀(ds:List Nat) (m:Nat),(ds.foldl (fun m k=>m|||2^k|||acc.getD k 0) m).testBit j=true->m.testBit j=true\/∃k∈ds,j=k\/(acc.getD k 0).testBit j=true
 | [],m,h=>.inl h|k::ds,m,h=>by rcases wM acc j ds _ h with h1|⟨k',hk,h1⟩;{simp only[Nat.testBit_or,mq,Nat.testBit_two_pow,decide_eq_true_eq]at h1;rcases h1 with(h1|h1)|h1;{exact .inl h1};{exact .inr ⟨k,by simp,.inl h1.symm⟩};{exact .inr ⟨k,by simp,.inr h1⟩}};{exact .inr ⟨k',by simp[hk],h1⟩}
theorem q2X {ops:List Oper} {i k:Nat} {o:Oper} (ho:ops[i]? =some o) (h:k∈NN o):dep ops i k:=by simp only[NN,ly,mu]at h;obtain⟨e,⟨h1,h2⟩,h3⟩:=h;exact⟨o,ho,e,by simpa using h1,h2,h3⟩
theorem U4 {ops:List Oper} {i k:Nat} {o:Oper} (ho:ops[i]? =some o) (h:dep ops i k):k∈NN o:=by obtain⟨o',h1,e,h2,h3,h4⟩:=h;rw[ho]at h1;cases h1;simp only[NN,ly,mu];exact⟨e,⟨by simpa using h2,h3⟩,h4⟩
theorem eZ (ops:List Oper):∀(rest done:List Oper) (acc:List Nat),ops=done++rest->acc.length=done.length->(∀i j,(acc.getD i 0).testBit j=true->Anc ops j i)->
  ∀i j,((Mr rest acc).getD i 0).testBit j=true->Anc ops j i
 | [],_,acc,_,_,h=>h|o::rest,done,acc,he,hl,h=>by
  refine eZ ops rest (done++[o]) _ (by simp[he]) (by simp[hl]) ?_;intro i j hij;have ho:ops[acc.length]? =some o:=by rw[he,hl];simp
  simp only[du]at hij;by_cases hi:i<acc.length;{rw[ga hi]at hij;exact h i j (by simpa[du]using hij)};{by_cases hi2:i=acc.length;{subst hi2;simp only[List.getElem?_concat_length,jl]at hij;rcases wM acc j _ _ hij with h1|⟨k,hk,h1⟩;{simp at h1};{have hd:=q2X ho hk;rcases h1 with rfl|h1;{exact .one hd};{exact .step hd (h k j h1)}}};{rw[gp (by simp;omega)]at hij;simp at hij}}
theorem eY {ops:List Oper} {j i:Nat} (h:yX ops j i=true):Anc ops j i:=
 eZ ops ops [] [] rfl rfl (fun i j h=>by simp at h) i j h
def tmpsOf:List Operand->List Nat
 | []=>[]| .tmp t::l=>t::tmpsOf l|_::l=>tmpsOf l
def lk (ops:Array Oper) (o:Oper):List Nat:=
 tmpsOf o.op.operands.toList++(match o.guard with|some (g,_)=>(match Fy ops g with|some t=>[t] |none=>[])|none=>[])
theorem pR {t:Nat}:∀{l:List Operand},Operand.tmp t∈l->t∈tmpsOf l
 | [],h=>by simp at h
 |y::l,h=>by rcases List.mem_cons.1 h with h1|h1;{subst h1;simp[tmpsOf]};{have:=pR h1;cases y <;> simp[tmpsOf,this]}
theorem q2Y {ops:Array Oper} {o:Oper} {t:Nat} (h:t∈o.looksAt ops):t∈lk ops o:=by
 simp only[sq,ic,tq]at h;simp only[lk,ic];rcases h with⟨y,hy,ht⟩|h;{left;cases y <;> simp at ht;subst ht;exact pR hy}
 ·right;cases hg:o.guard with
  |none=>simp[hg]at h|some x=>
   obtain⟨g,b⟩:=x;simp only[hg]at h ⊢;simp only[Fy];cases hs:(ops[g]?).bind (·.dst)with
   |none=>simp[hs]at h|some t'=>simpa[hs]using h
def OI (ops:List Oper) (ts:List Nat):Bool:=
 let m:=Mr ops []
 let anc:=fun j i=>(m.getD i 0).testBit j
 let ix:=gq ops.length
 let both:=fun i j=>(decide (j<i)&&anc j i)||(decide (i<j)&&anc i j)
 (ix.all fun i=>match ops[i]? with|some o=>(NN o).all fun k=>decide (k<i)|none=>true)&&
 (ix.all fun i=>ts.getD i 0 != 2||ix.all fun j=>ts.getD j 0==0||j==i||both i j)&&
 (ix.all fun j=>match(ops[j]?).bind (·.dst)with
  |none=>true
  |some t=>ix.all fun i=>j==i||((match(ops[i]?).bind (·.dst)with|some t'=>t' != t|none=>true)&&
    (match ops[i]? with|some o=> !(lk ops.toArray o).contains t||both i j|none=>true)))
def s00:S:=⟨[],[],fun _=>none,[]⟩
theorem SI (k:Key):s00.obj k=none:=by cases k <;> rfl
def kop (X:Cx) (md:List (Nat × Nat)) (k:Option Nat) (base s:S) (o:Oper) (K0:V->Prop) (K1:V->List (Key × O)->List (Nat × Option Nat)->Prop) (K2:V->S->Prop):Prop:=
 match k with
 |some 0=>iop X md s00 (Ab o) o (Ae X.gl s) s00 (fun v lo tn=>lo=[]/\tn=[]/\K0 v)\/fop X o (Ae X.gl s) K0|some 1=>iop X md base (Ab o) o (Ae X.gl s) s K1|some 2=>top X md (Ab o) o (Ae X.gl s) s K2|_=>False
def vd (X:Cx) (md:List (Nat × Nat)) (ops:Array Oper) (Φ:S->Prop):List Oper->List Nat->S->S->Prop
 | [],_,_,s=>Φ s|o::rest,ts,base,s=>
  match o.guard with
  |none=>kop X md ts.head? base s o (fun v=>vd X md ops Φ rest ts.tail base (s.set o.dst v))
    (fun v lo tn=>FH s lo/\FI s tn/\vd X md ops Φ rest ts.tail base ((s.add lo tn).set o.dst v))
    (fun v s'=>vd X md ops Φ rest ts.tail (s'.set o.dst v) (s'.set o.dst v))
  |some (j,want)=>gx (gv ops s j) want (kop X md ts.head? base s o (fun v=>vd X md ops Φ rest ts.tail base (s.set o.dst v))
         (fun v lo tn=>FH s lo/\FI s tn/\vd X md ops Φ rest ts.tail base ((s.add lo tn).set o.dst v))
         (fun v s'=>vd X md ops Φ rest ts.tail (s'.set o.dst v) (s'.set o.dst v)))
     (vd X md ops Φ rest ts.tail base (s.set o.dst (.tup [])))
section
def bO:Res:=⟨0,.any,[],[],s00⟩
def BZ (rl:List Res) (i:Nat):Res:=rl.getD i bO
def cst (s0:S) (ops:List Oper) (rl:List Res):Nat->S
 |0=>s0|i+1=>match ops[i]? with|some o=>(cst s0 ops rl i).step o (BZ rl i)|none=>cst s0 ops rl i
theorem Vd {rl q:List Res} {i:Nat} (h:i<rl.length):BZ (rl++q) i=BZ rl i:=by simp only[BZ,du,ga h]
theorem Ol (rl:List Res) (r:Res):BZ (rl++[r]) rl.length=r:=by simp[BZ,du]
theorem Lg {s0:S} {ops:List Oper} {rl q:List Res}:∀i,i<=rl.length->cst s0 ops (rl++q) i=cst s0 ops rl i
 |0,_=>rfl|i+1,h=>by simp only[cst];rw[Lg i (by omega),Vd (by omega)]
theorem Qg {rl q:List Res}:∀i,i<=rl.length->Bw (BZ (rl++q)) i=Bw (BZ rl) i
 |0,_=>rfl|i+1,h=>by simp only[Bw];rw[Qg i (by omega),Vd (by omega)]
section
variable {X:Cx} {Q:S->Prop} {ops:List Oper} {s0:S} {Φ:S->Prop} {ts0:List Nat} {md:List (Nat × Nat)}
structure Pre (X:Cx) (Q:S->Prop) (ops:List Oper) (s0:S) (ts0:List Nat) (pre:List Res):Prop where
 ok:∀i o,i<pre.length->ops[i]? =some o->OkR X Q ops.toArray (cst s0 ops pre (Bw (BZ pre) i)) (cst s0 ops pre i) o (BZ pre i)
 kind:∀i,i<pre.length->(BZ pre i).t=0\/(BZ pre i).t=ts0.getD i 0
 tri:∀i,(BZ pre i).t=0\/(BZ pre i).t=1\/(BZ pre i).t=2
theorem Pre.snoc {pre:List Res} (p:Pre X Q ops s0 ts0 pre) {o:Oper} (ho:ops[pre.length]? =some o) {r:Res}
  (hok:OkR X Q ops.toArray (cst s0 ops pre (Bw (BZ pre) pre.length)) (cst s0 ops pre pre.length) o r) (hk:r.t=0\/r.t=ts0.getD pre.length 0) (z3q:r.t=0\/r.t=1\/r.t=2):Pre X Q ops s0 ts0 (pre++[r]):=by
 have rl:∀i,i<pre.length->BZ (pre++[r]) i=BZ pre i:=fun i h=>Vd h;have cl:∀i,i<=pre.length->cst s0 ops (pre++[r]) i=cst s0 ops pre i:=fun i h=>Lg i h;have tl:∀i,i<=pre.length->Bw (BZ (pre++[r])) i=Bw (BZ pre) i:=fun i h=>Qg i h;have yk:BZ (pre++[r]) pre.length=r:=Ol pre r;have cases_:∀i,i<(pre++[r]).length->i<pre.length\/i=pre.length:=by intro i h;simp at h;omega
 refine⟨?_,?_,?_⟩;{intro i o' hi ho';rcases cases_ i hi with h|rfl;{rw[rl i h,cl i (by omega),tl i (by omega),cl _ (by have:=Hh (BZ pre) i;omega)];exact p.ok i o' h ho'};{rw[ho]at ho';cases ho';rw[yk,cl _ (cn _),tl _ (cn _),cl _ (Hh _ _)];exact hok}};{intro i hi;rcases cases_ i hi with h|rfl;{rw[rl i h];exact p.kind i h};{rw[yk];exact hk}};{intro i;by_cases h:i<pre.length;{rw[rl i h];exact p.tri i};{by_cases h2:i=pre.length;{subst h2;rw[yk];exact z3q};{left;simp only[BZ,du];rw[gp (by simp;omega)];rfl}}}
theorem xG (hP:BH X.P=true):∀(rest:List Oper) (ts:List Nat) (pre:List Res) (done:List Oper),
  ops=done++rest->pre.length=done.length->ts=ts0.drop pre.length->Pre X Q ops s0 ts0 pre->
  vd X md ops.toArray Φ rest ts (cst s0 ops pre (Bw (BZ pre) pre.length)) (cst s0 ops pre pre.length)->
  ∃rl,rl.length=ops.length/\Pre X Q ops s0 ts0 rl/\Φ (cst s0 ops rl ops.length)
 | [],ts,pre,done,he,hl,_,p,h=>by
  have:pre.length=ops.length:=by rw[he,hl];simp
  exact⟨pre,this,p,by rw[<-this];simpa[vd]using h⟩
 |o::rest,ts,pre,done,he,hl,hts,p,h=>by
  have ho:ops[pre.length]? =some o:=by rw[he,hl];simp
  have next:∀(r:Res),Pre X Q ops s0 ts0 (pre++[r])->
    vd X md ops.toArray Φ rest ts.tail (if r.t=2 then(cst s0 ops pre pre.length).step o r else cst s0 ops pre (Bw (BZ pre) pre.length)) ((cst s0 ops pre pre.length).step o r)->
    ∃rl,rl.length=ops.length/\Pre X Q ops s0 ts0 rl/\Φ (cst s0 ops rl ops.length):=by
   intro r p' hv;refine xG hP rest ts.tail (pre++[r]) (done++[o]) (by simp[he]) (by simp[hl]) ?_ p' ?_;{rw[hts];simp}
   ·have e1:cst s0 ops (pre++[r]) (pre++[r]).length=(cst s0 ops pre pre.length).step o r:=by rw[da];simp only[dp,dx,Nat.zero_add,cst,ho];rw[Lg _ (cn _),Ol]
    have e2:cst s0 ops (pre++[r]) (Bw (BZ (pre++[r])) (pre++[r]).length)=if r.t=2 then(cst s0 ops pre pre.length).step o r else cst s0 ops pre (Bw (BZ pre) pre.length):=by
     have e3:(pre++[r]).length=pre.length+1:=by simp
     rw[e3];simp only[Bw,Ol];split;{rw[<-e3];exact e1};{rw[Qg _ (cn _),Lg _ (Hh _ _)]}
    rw[e1,e2];exact hv
  have kind:∀k,ts.head? =some k->k=ts0.getD pre.length 0:=by intro k hk;rw[hts,uv]at hk;simp[du,hk]
  simp only[vd]at h;generalize hs:cst s0 ops pre pre.length=s at*
  have skip:Fl ops.toArray s o=some false->vd X md ops.toArray Φ rest ts.tail (cst s0 ops pre (Bw (BZ pre) pre.length)) (s.set o.dst (.tup []))->
    ∃rl,rl.length=ops.length/\Pre X Q ops s0 ts0 rl/\Φ (cst s0 ops rl ops.length):=by
   intro hw hv;exact next ⟨0,.tup [],[],[],s00⟩ (p.snoc ho (.inl ⟨by rw[hs];exact hw,rfl,rfl⟩) (.inl rfl) (.inl rfl)) hv
  have go:Fl ops.toArray s o=some true->kop X md ts.head? (cst s0 ops pre (Bw (BZ pre) pre.length)) s o
      (fun v=>vd X md ops.toArray Φ rest ts.tail (cst s0 ops pre (Bw (BZ pre) pre.length)) (s.set o.dst v))
      (fun v lo tn=>FH s lo/\FI s tn/\vd X md ops.toArray Φ rest ts.tail (cst s0 ops pre (Bw (BZ pre) pre.length)) ((s.add lo tn).set o.dst v))
      (fun v s'=>vd X md ops.toArray Φ rest ts.tail (s'.set o.dst v) (s'.set o.dst v))->∃rl,rl.length=ops.length/\Pre X Q ops s0 ts0 rl/\Φ (cst s0 ops rl ops.length):=by
   intro hw hr;unfold kop at hr;split at hr
   ·rcases hr with hr|hr
    rotate_left
    ·obtain⟨v,hv,hI⟩:=YG hP hr;have hd:Mn X Q o (Ae X.gl s) v:=fun Γ w a s' hgl c _ xp=>hI Γ w a s' c xp;exact next ⟨0,v,[],[],s00⟩ (p.snoc ho (.inr ⟨by rw[hs];exact hw,.inl ⟨rfl,by rw[hs];exact hd⟩⟩) (.inl rfl) (.inl rfl)) hv
    obtain⟨v,lo,tn,⟨rfl,rfl,hv⟩,hI⟩:=Lu hP hr
    have hd:Mn X Q o (Ae X.gl s) v:=fun Γ w a s' hgl c _ xp=>
     hI Γ w a s' hgl c ⟨fun k o h=>(by rw[SI]at h;cases h),fun k o h=>(by rw[SI]at h;cases h)⟩ ⟨fun k o h=>(by simp[AK]at h),fun t x h=>(by simp[look]at h)⟩ xp
    exact next ⟨0,v,[],[],s00⟩ (p.snoc ho (.inr ⟨by rw[hs];exact hw,.inl ⟨rfl,by rw[hs];exact hd⟩⟩) (.inl rfl) (.inl rfl)) hv
   ·rename_i hk;obtain⟨v,lo,tn,⟨hf1,hf2,hv⟩,hI⟩:=Lu hP hr;exact next ⟨1,v,lo,tn,s00⟩ (p.snoc ho (.inr ⟨by rw[hs];exact hw,.inr (.inl ⟨rfl,by rw[hs];exact hI,by rw[hs];exact Tq hf1 hf2⟩)⟩) (.inr (kind 1 hk)) (.inr (.inl rfl))) hv
   ·rename_i hk;obtain⟨v,s1,hv,hT⟩:=Vy hP hr;exact next ⟨2,v,[],[],s1⟩ (p.snoc ho (.inr ⟨by rw[hs];exact hw,.inr (.inr ⟨rfl,by rw[hs];exact hT⟩)⟩) (.inr (kind 2 hk)) (.inr (.inr rfl))) hv
   ·exact hr.elim
  split at h;{rename_i hg;exact go (by simp[Fl,hg]) h}
  ·rename_i j want hg;cases ht:Fy ops.toArray j with
   |none=>simp[gv,ht,gx]at h|some t=>
    simp only[gv,ht]at h;unfold gx at h;split at h;{rename_i cb hb;by_cases hbw:cb.toBool=want;{exact go (by simp[Fl,hg,ht,hb,hbw]) (h.1 hbw)};{exact skip (by simp[Fl,hg,ht,hb,hbw]) (h.2 hbw)}};{rename_i hb;exact skip (by simp[Fl,hg,ht,hb]) h};{exact h.elim}
end
section
variable {X:Cx} {n:Nat} {s:S} {Ψ:Exit->S->Prop}
theorem fY {ops:List Oper} {i j:Nat} (h:((decide (j<i)&&((Mr ops []).getD i 0).testBit j)||(decide (i<j)&&((Mr ops []).getD j 0).testBit i))=true):(j<i/\Anc ops j i)\/(i<j/\Anc ops i j):=by simp only[mq,bz,decide_eq_true_eq]at h;rcases h with⟨h1,h2⟩|⟨h1,h2⟩;{exact .inl ⟨h1,eY h2⟩};{exact .inr ⟨h1,eY h2⟩}
theorem sC {Q:S->Prop} {ops:List Oper} {ts:List Nat} {s0:S} {rl:List Res} (hl:rl.length=ops.length) (p:Pre X Q ops s0 ts rl) (h:OI ops ts=true):
  Orders ops (BZ rl):=by
 simp only[OI,bz,eh,gw]at h;obtain⟨⟨h1,h2⟩,h3⟩:=h;refine⟨?_,?_,?_,?_⟩;{intro i j hd;obtain⟨o,ho,_⟩:=id hd;have hi:i<ops.length:=(cq.1 ho).1;have:=h1 i hi;rw[ho]at this;simp only[eh,decide_eq_true_eq]at this;exact this j (U4 ho hd)}
 ·intro i j hi hj ht htj hji;have hk:=p.kind i (by omega);have hti:ts.getD i 0=2:=by rcases hk with h|h <;> omega
  have z4E:ts.getD j 0≠0:=by rcases p.kind j (by omega)with h|h;{exact absurd h htj};{rw[<-h];exact htj}
  have:=h2 i hi;rw[hti]at this;simp only[bne_self_eq_false,ju,eh,gw]at this;have:=this j hj;have e1:(ts.getD j 0==0)=false:=by simpa using z4E
  have e2:(j==i)=false:=by simpa using hji
  rw[e1,e2]at this;simp only[ju]at this;exact fY this
 ·rintro i j t hji ⟨o,ho,hd⟩ ⟨o',ho',hl'⟩;have hj:j<ops.length:=(cq.1 ho).1;have hi:i<ops.length:=(cq.1 ho').1;have:=h3 j hj;rw[ho]at this;simp only[gu,hd,eh,gw]at this;have:=this i hi;have e2:(j==i)=false:=by simpa using hji
  rw[e2,ho']at this;have e3:(lk ops.toArray o').contains t=true:=by simpa using q2Y hl'
  simp only[ju,bz,e3,ru]at this;exact fY this.2
 ·rintro i j t ⟨o,ho,hd⟩ ⟨o',ho',hd'⟩;refine pc fun hne=>?_;have hi:i<ops.length:=(cq.1 ho).1;have hj:j<ops.length:=(cq.1 ho').1;have:=h3 j hj;rw[ho']at this;simp only[gu,hd',eh,gw]at this;have:=this i hi;have e2:(j==i)=false:=by simpa using fun e=>hne e.symm
  rw[e2,ho]at this;simp[hd]at this
theorem Y9 (hP:BH X.P=true) (hm:X.P.follows .mixedOrders=true) (md:List (Nat × Nat)) {id:Nat} {l:List Oper} (ts:List Nat) (hok:l.all (Hm n)=true) (z3r:OI l ts=true)
  (h:vd X md l.toArray (fun s'=>Ψ .normal s') l ts s s):DC X n (.region id l.toArray true) s Ψ:=by
 have p0:Pre X (fun _=>True) l s ts []:=⟨fun i o h=>by simp at h,fun i h=>by simp at h,fun i=>.inl (by simp[BZ,bO])⟩;obtain⟨rl,hl,p,hΦ⟩:=xG hP l ts [] [] rfl rfl (by simp) p0 h;have K:Canon X l s (BZ rl) (cst s l rl):=⟨rfl,fun i o ho=>by simp only[cst,ho],fun i o ho=>(p.ok i o (by rw[hl];exact(cq.1 ho).1) ho).mono fun _ _=>trivial,p.tri⟩;exact iC hP hm K (sC hl p z3r) (fun o ho=>eh.1 hok o ho) hΦ
end
end
section
def tK:Nat->Nat
 |3=>2|4=>0|n=>n
def sF (F:List Key) (s:S):S:=⟨[],F.filterMap fun k=>(s.obj k).map fun o=>(k,o),fun _=>none,[]⟩
theorem q2N {F:List Key} {s:S} {k:Key} {o:O}:AK (F.filterMap fun k=>(s.obj k).map fun o=>(k,o)) k=some o->k∈F/\s.obj k=some o:=by
 induction F with
 |nil=>intro h;simp[AK]at h|cons f F ih=>
  intro h;simp only[List.filterMap_cons]at h;cases hf:s.obj f with
  |none=>
   rw[hf]at h;exact⟨ep _ (ih h).1,(ih h).2⟩
  |some o'=>
   rw[hf]at h;simp only[gr,AK]at h;by_cases e:f=k;{subst e;simp at h;subst h;exact⟨List.mem_cons_self ..,hf⟩}
   ·have:(if f=k then some o' else AK (F.filterMap fun k=>(s.obj k).map fun o=>(k,o)) k)=some o:=by simpa using h
    rw[if_neg e]at this;exact⟨ep _ (ih this).1,(ih this).2⟩
def QF (F:List Key) (s s':S):Prop:=∀k∈F,∀o,s.obj k=some o->s'.obj k=some o
theorem Vh {F:List Key} {s:S} {k:Key} {o:O} (h:(sF F s).obj k=some o):k∈F/\s.obj k=some o:=by
 unfold jo sF CY at h;dsimp only at h;cases hl:AK (F.filterMap fun k=>(s.obj k).map fun o=>(k,o)) k with
 |some o'=>
  rw[hl]at h;cases h;exact q2N hl
 |none=>
  rw[hl]at h;cases k <;> cases h
def JA (X:Cx) (F:List Key) (md:List (Nat × Nat)) (k:Option Nat) (base s:S) (o:Oper) (K0:V->Prop) (K1:V->List (Key × O)->List (Nat × Option Nat)->Prop) (K2:V->S->Prop):Prop:=
 match k with
 |some 4=>iop X md (sF F s) (Ab o) o (Ae X.gl s) (sF F s) (fun v lo tn=>lo=[]/\tn=[]/\K0 v)|some 3=>top X md (Ab o) o (Ae X.gl s) s fun v s'=>(∀k∈F,s'.obj k=s.obj k)/\K2 v s'|some 2=>False|k=>kop X md k base s o K0 K1 K2
def vdF (X:Cx) (F:List Key) (md:List (Nat × Nat)) (ops:Array Oper) (Φ:S->Prop):List Oper->List Nat->S->S->Prop
 | [],_,_,s=>Φ s|o::rest,ts,base,s=>
  match o.guard with
  |none=>JA X F md ts.head? base s o (fun v=>vdF X F md ops Φ rest ts.tail base (s.set o.dst v))
    (fun v lo tn=>FH s lo/\FI s tn/\vdF X F md ops Φ rest ts.tail base ((s.add lo tn).set o.dst v))
    (fun v s'=>vdF X F md ops Φ rest ts.tail (s'.set o.dst v) (s'.set o.dst v))
  |some (j,want)=>gx (gv ops s j) want (JA X F md ts.head? base s o (fun v=>vdF X F md ops Φ rest ts.tail base (s.set o.dst v))
         (fun v lo tn=>FH s lo/\FI s tn/\vdF X F md ops Φ rest ts.tail base ((s.add lo tn).set o.dst v))
         (fun v s'=>vdF X F md ops Φ rest ts.tail (s'.set o.dst v) (s'.set o.dst v)))
     (vdF X F md ops Φ rest ts.tail base (s.set o.dst (.tup [])))
section
variable {X:Cx} {F:List Key} {ops:List Oper} {s0:S} {Φ:S->Prop} {ts0:List Nat} {md:List (Nat × Nat)}
structure GL (X:Cx) (F:List Key) (ops:List Oper) (s0:S) (ts0:List Nat) (pre:List Res):Prop where
 ok:∀i o,i<pre.length->ops[i]? =some o->OkR X (QF F (cst s0 ops pre i)) ops.toArray (cst s0 ops pre (Bw (BZ pre) i)) (cst s0 ops pre i) o (BZ pre i)
 kind:∀i,i<pre.length->(BZ pre i).t=0\/(BZ pre i).t=tK (ts0.getD i 0)
 tri:∀i,(BZ pre i).t=0\/(BZ pre i).t=1\/(BZ pre i).t=2
 xc:∀i,i<pre.length->(BZ pre i).t=2->∀k∈F,(BZ pre i).s1.obj k=(cst s0 ops pre i).obj k
theorem GL.snoc {pre:List Res} (p:GL X F ops s0 ts0 pre) {o:Oper} (ho:ops[pre.length]? =some o) {r:Res}
  (hok:OkR X (QF F (cst s0 ops pre pre.length)) ops.toArray (cst s0 ops pre (Bw (BZ pre) pre.length)) (cst s0 ops pre pre.length) o r) (hk:r.t=0\/r.t=tK (ts0.getD pre.length 0)) (z3q:r.t=0\/r.t=1\/r.t=2)
  (z4c:r.t=2->∀k∈F,r.s1.obj k=(cst s0 ops pre pre.length).obj k):GL X F ops s0 ts0 (pre++[r]):=by
 have rl:∀i,i<pre.length->BZ (pre++[r]) i=BZ pre i:=fun i h=>Vd h;have cl:∀i,i<=pre.length->cst s0 ops (pre++[r]) i=cst s0 ops pre i:=fun i h=>Lg i h;have tl:∀i,i<=pre.length->Bw (BZ (pre++[r])) i=Bw (BZ pre) i:=fun i h=>Qg i h;have yk:BZ (pre++[r]) pre.length=r:=Ol pre r;have cases_:∀i,i<(pre++[r]).length->i<pre.length\/i=pre.length:=by intro i h;simp at h;omega
 refine⟨?_,?_,?_,?_⟩;{intro i o' hi ho';rcases cases_ i hi with h|rfl;{rw[rl i h,cl i (by omega),tl i (by omega),cl _ (by have:=Hh (BZ pre) i;omega)];exact p.ok i o' h ho'};{rw[ho]at ho';cases ho';rw[yk,cl _ (cn _),tl _ (cn _),cl _ (Hh _ _)];exact hok}};{intro i hi;rcases cases_ i hi with h|rfl;{rw[rl i h];exact p.kind i h};{rw[yk];exact hk}};{intro i;by_cases h:i<pre.length;{rw[rl i h];exact p.tri i};{by_cases h2:i=pre.length;{subst h2;rw[yk];exact z3q};{left;simp only[BZ,du];rw[gp (by simp;omega)];rfl}}};{intro i hi ht;rcases cases_ i hi with h|rfl;{rw[rl i h,cl i (by omega)];rw[rl i h]at ht;exact p.xc i h ht};{rw[yk,cl _ (cn _)];rw[yk]at ht;exact z4c ht}}
theorem xH (hP:BH X.P=true):∀(rest:List Oper) (ts:List Nat) (pre:List Res) (done:List Oper),
  ops=done++rest->pre.length=done.length->ts=ts0.drop pre.length->GL X F ops s0 ts0 pre->
  vdF X F md ops.toArray Φ rest ts (cst s0 ops pre (Bw (BZ pre) pre.length)) (cst s0 ops pre pre.length)->
  ∃rl,rl.length=ops.length/\GL X F ops s0 ts0 rl/\Φ (cst s0 ops rl ops.length)
 | [],ts,pre,done,he,hl,_,p,h=>by
  have:pre.length=ops.length:=by rw[he,hl];simp
  exact⟨pre,this,p,by rw[<-this];simpa[vdF]using h⟩
 |o::rest,ts,pre,done,he,hl,hts,p,h=>by
  have ho:ops[pre.length]? =some o:=by rw[he,hl];simp
  have next:∀(r:Res),GL X F ops s0 ts0 (pre++[r])->
    vdF X F md ops.toArray Φ rest ts.tail (if r.t=2 then(cst s0 ops pre pre.length).step o r else cst s0 ops pre (Bw (BZ pre) pre.length)) ((cst s0 ops pre pre.length).step o r)->
    ∃rl,rl.length=ops.length/\GL X F ops s0 ts0 rl/\Φ (cst s0 ops rl ops.length):=by
   intro r p' hv;refine xH hP rest ts.tail (pre++[r]) (done++[o]) (by simp[he]) (by simp[hl]) ?_ p' ?_;{rw[hts];simp}
   ·have e1:cst s0 ops (pre++[r]) (pre++[r]).length=(cst s0 ops pre pre.length).step o r:=by rw[da];simp only[dp,dx,Nat.zero_add,cst,ho];rw[Lg _ (cn _),Ol]
    have e2:cst s0 ops (pre++[r]) (Bw (BZ (pre++[r])) (pre++[r]).length)=if r.t=2 then(cst s0 ops pre pre.length).step o r else cst s0 ops pre (Bw (BZ pre) pre.length):=by
     have e3:(pre++[r]).length=pre.length+1:=by simp
     rw[e3];simp only[Bw,Ol];split;{rw[<-e3];exact e1};{rw[Qg _ (cn _),Lg _ (Hh _ _)]}
    rw[e1,e2];exact hv
  have kind:∀k,ts.head? =some k->k=ts0.getD pre.length 0:=by intro k hk;rw[hts,uv]at hk;simp[du,hk]
  simp only[vdF]at h;generalize hs:cst s0 ops pre pre.length=s at*
  have skip:Fl ops.toArray s o=some false->vdF X F md ops.toArray Φ rest ts.tail (cst s0 ops pre (Bw (BZ pre) pre.length)) (s.set o.dst (.tup []))->
    ∃rl,rl.length=ops.length/\GL X F ops s0 ts0 rl/\Φ (cst s0 ops rl ops.length):=by
   intro hw hv;exact next ⟨0,.tup [],[],[],s00⟩ (p.snoc ho (.inl ⟨by rw[hs];exact hw,rfl,rfl⟩) (.inl rfl) (.inl rfl) (fun e=>by cases e)) hv
  have go:Fl ops.toArray s o=some true->JA X F md ts.head? (cst s0 ops pre (Bw (BZ pre) pre.length)) s o
      (fun v=>vdF X F md ops.toArray Φ rest ts.tail (cst s0 ops pre (Bw (BZ pre) pre.length)) (s.set o.dst v))
      (fun v lo tn=>FH s lo/\FI s tn/\vdF X F md ops.toArray Φ rest ts.tail (cst s0 ops pre (Bw (BZ pre) pre.length)) ((s.add lo tn).set o.dst v))
      (fun v s'=>vdF X F md ops.toArray Φ rest ts.tail (s'.set o.dst v) (s'.set o.dst v))->∃rl,rl.length=ops.length/\GL X F ops s0 ts0 rl/\Φ (cst s0 ops rl ops.length):=by
   intro hw hr;unfold JA at hr;split at hr
   ·obtain⟨v,lo,tn,⟨rfl,rfl,hv⟩,hI⟩:=Lu hP hr
    have hd:Mn X (QF F s) o (Ae X.gl s) v:=fun Γ w a s' hgl c hq xp=>
     hI Γ w a s' hgl c ⟨fun k o h _=>hq k (Vh h).1 o (Vh h).2,fun k o h=>hq k (Vh h).1 o (Vh h).2⟩ ⟨fun k o h=>(by simp[AK]at h),fun t x h=>(by simp[look]at h)⟩ xp
    exact next ⟨0,v,[],[],s00⟩ (p.snoc ho (.inr ⟨by rw[hs];exact hw,.inl ⟨rfl,by rw[hs];exact hd⟩⟩) (.inl rfl) (.inl rfl) (fun e=>by cases e)) hv
   ·rename_i hk;obtain⟨v,s1,⟨hkp,hv⟩,hT⟩:=Vy hP hr;exact next ⟨2,v,[],[],s1⟩ (p.snoc ho (.inr ⟨by rw[hs];exact hw,.inr (.inr ⟨rfl,by rw[hs];exact hT⟩)⟩) (.inr (by rw[<-kind 3 hk];rfl)) (.inr (.inr rfl)) (fun _ k hk=>by rw[hs];exact hkp k hk)) hv
   ·exact hr.elim
   ·rename_i hn4 hn3 hn2;unfold kop at hr;split at hr
    ·rcases hr with hr|hr
     rotate_left
     ·obtain⟨v,hv,hI⟩:=YG hP hr;have hd:Mn X (QF F s) o (Ae X.gl s) v:=fun Γ w a s' hgl c _ xp=>hI Γ w a s' c xp;exact next ⟨0,v,[],[],s00⟩ (p.snoc ho (.inr ⟨by rw[hs];exact hw,.inl ⟨rfl,by rw[hs];exact hd⟩⟩) (.inl rfl) (.inl rfl) (fun e=>by cases e)) hv
     obtain⟨v,lo,tn,⟨rfl,rfl,hv⟩,hI⟩:=Lu hP hr
     have hd:Mn X (QF F s) o (Ae X.gl s) v:=fun Γ w a s' hgl c _ xp=>
      hI Γ w a s' hgl c ⟨fun k o h=>(by rw[SI]at h;cases h),fun k o h=>(by rw[SI]at h;cases h)⟩ ⟨fun k o h=>(by simp[AK]at h),fun t x h=>(by simp[look]at h)⟩ xp
     exact next ⟨0,v,[],[],s00⟩ (p.snoc ho (.inr ⟨by rw[hs];exact hw,.inl ⟨rfl,by rw[hs];exact hd⟩⟩) (.inl rfl) (.inl rfl) (fun e=>by cases e)) hv
    ·rename_i hk;obtain⟨v,lo,tn,⟨hf1,hf2,hv⟩,hI⟩:=Lu hP hr;exact next ⟨1,v,lo,tn,s00⟩ (p.snoc ho (.inr ⟨by rw[hs];exact hw,.inr (.inl ⟨rfl,by rw[hs];exact hI,by rw[hs];exact Tq hf1 hf2⟩)⟩) (.inr (by rw[<-kind 1 hk];rfl)) (.inr (.inl rfl)) (fun e=>by cases e)) hv
    ·rename_i hk;exact absurd hk hn2
    ·exact hr.elim
  split at h;{rename_i hg;exact go (by simp[Fl,hg]) h}
  ·rename_i j want hg;cases ht:Fy ops.toArray j with
   |none=>simp[gv,ht,gx]at h|some t=>
    simp only[gv,ht]at h;unfold gx at h;split at h;{rename_i cb hb;by_cases hbw:cb.toBool=want;{exact go (by simp[Fl,hg,ht,hb,hbw]) (h.1 hbw)};{exact skip (by simp[Fl,hg,ht,hb,hbw]) (h.2 hbw)}};{rename_i hb;exact skip (by simp[Fl,hg,ht,hb]) h};{exact h.elim}
theorem GL.same {rl:List Res} (hl:rl.length=ops.length) (p:GL X F ops s0 ts0 rl) {k:Key} (hk:k∈F) (hs:s0.obj k≠none):∀i,i<=ops.length->(cst s0 ops rl i).obj k=s0.obj k
 |0,_=>rfl|i+1,hi=>by
  have ih:=GL.same hl p hk hs i (by omega);obtain⟨o,ho⟩:=getOp (ops:=ops) (i:=i) (by omega);have hc:cst s0 ops rl (i+1)=(cst s0 ops rl i).step o (BZ rl i):=by simp only[cst,ho]
  have ob:∀{s s':S},om s' (.inl k)=om s (.inl k)->s'.obj k=s.obj k:=fun{s s'} h=>by simp only[om]at h;cases h1:s'.obj k <;> cases h2:s.obj k <;> rw[h1,h2]at h;{cases h};{cases h};{cases h;rfl}
  rw[hc];rcases p.tri i with ht|ht|ht;{rw[ob (congrFun (aH ht) _)];exact ih}
  ·refine Eq.trans (ob ?_) ih;rw[VC ht];cases hr:(BZ rl i).om (.inl k)with
   |none=>rfl|some x=>
    exfalso;rcases p.ok i o (by omega) ho with h1|⟨_,h1|h1|h1⟩;{omega};{omega};{simp only[Res.om,fb]at hr;obtain⟨y,hr,_⟩:=hr;have:=h1.2.2.l k y hr;rw[ih]at this;exact hs this};{omega}
  ·rw[ob (congrFun (rV ht) _),p.xc i (by omega) ht k hk];exact ih
end
theorem q6t (ts:List Nat) (i:Nat):(ts.map tK).getD i 0=tK (ts.getD i 0):=by simp only[du,List.getElem?_map];cases ts[i]? <;> rfl
section
variable {X:Cx} {n:Nat} {s:S} {Ψ:Exit->S->Prop}
theorem X1 (hP:BH X.P=true) (hm:X.P.follows .mixedOrders=true) (F:List Key) (md:List (Nat × Nat)) {id:Nat} {l:List Oper} (ts:List Nat) (hok:l.all (Hm n)=true) (z3r:OI l (ts.map tK)=true)
  (hF:∀k∈F,s.obj k≠none) (h:vdF X F md l.toArray (fun s'=>Ψ .normal s') l ts s s):DC X n (.region id l.toArray true) s Ψ:=by
 have p0:GL X F l s ts []:=⟨fun i o h=>by simp at h,fun i h=>by simp at h,fun i=>.inl (by simp[BZ,bO]),fun i h=>by simp at h⟩;obtain⟨rl,hl,p,hΦ⟩:∃rl,rl.length=l.length/\GL X F l s ts rl/\Ψ .normal (cst s l rl l.length):=xH hP l ts [] [] rfl rfl (by simp) p0 h
 have K:Canon X l s (BZ rl) (cst s l rl):=⟨rfl,fun i o ho=>by simp only[cst,ho],fun i o ho=>by
  have hi:i<l.length:=(cq.1 ho).1;refine(p.ok i o (by rw[hl];exact hi) ho).mono fun s' hq k hk ob hob=>hq k ob fun q hqn=>?_;rw[p.same hl hk (hF k hk) q hqn];rw[p.same hl hk (hF k hk) i (by omega)]at hob;exact hob,p.tri⟩
 have pq:Pre X (fun _=>False) l s (ts.map tK) rl:=⟨fun i o hi ho=>(p.ok i o hi ho).mono fun _ h=>h.elim,fun i hi=>by rw[q6t];exact p.kind i hi,p.tri⟩;exact iC hP hm K (sC hl pq z3r) (fun o ho=>eh.1 hok o ho) hΦ
end
end
section
def GH (P:Program) (T:TypeId) (τ:Ty) (op:BinOp) (x y:V) (K:V->Prop):Prop:=
 match τ with
 | .int k=>x.isInt k/\(if BinOp.Kg op then y.Ez/\MR op k x.toInt y.toInt K else y.isInt k/\Jp op k x.toInt y.toInt K)| .bool=>x.isBool/\y.isBool/\(match op with| .eql=>K (.d .bool (.bool (x.toBool==y.toBool)))| .neq=>K (.d .bool (.bool (!(x.toBool==y.toBool))))|_=>False)| .str=>x.isStr/\y.isStr/\LD op x.toStr y.toStr K| .ptr=>(match op,x.Gt,y.Gt with| .eql,some a,some true=>K (.d .bool (.bool a))| .neq,some a,some true=>K (.d .bool (.bool (!a)))| .eql,some true,some b=>K (.d .bool (.bool b))| .neq,some true,some b=>K (.d .bool (.bool (!b)))|_,_,_=>False)| .arr n e=>CW P T=true/\x.DI (.arr n e)/\y.DI (.arr n e)/\Il op (qk x.toC y.toC) K| .struct sz os fs=>CW P T=true/\x.DI (.struct sz os fs)/\y.DI (.struct sz os fs)/\Il op (qk x.toC y.toC) K| .slice _ _=>(match op,x.RQ,y with| .eql,some r,.wo=>K (IW r)| .neq,some r,.wo=>K (IW (r.map (!·)))|_,_,_=>False)|_=>False
section
variable {P:Program} {T:TypeId} {x y:V} {K:V->Prop} {op:BinOp}
theorem q49:OU P op T x y K=GH P T (ty P T) op x y K:=rfl
theorem q4Z {k:IntKind}:GH P T (.int k) op x y K=(x.isInt k/\(if BinOp.Kg op then y.Ez/\MR op k x.toInt y.toInt K else y.isInt k/\Jp op k x.toInt y.toInt K)):=rfl
theorem q4W:GH P T .bool .eql x y K=(x.isBool/\y.isBool/\K (.d .bool (.bool (x.toBool==y.toBool)))):=rfl
theorem q4X:GH P T .bool .neq x y K=(x.isBool/\y.isBool/\K (.d .bool (.bool (!(x.toBool==y.toBool))))):=rfl
theorem q48:GH P T .str op x y K=(x.isStr/\y.isStr/\LD op x.toStr y.toStr K):=rfl
theorem q43 {k:Key} {q:List Nat} {τ:Ty}:GH P T .ptr .eql (.ptr k q τ) (.d .ptr .nil) K=K (.d .bool (.bool false)):=rfl
theorem q44 {k:Key} {q:List Nat} {τ:Ty}:GH P T .ptr .neq (.ptr k q τ) (.d .ptr .nil) K=K (.d .bool (.bool true)):=rfl
theorem q40:GH P T .ptr .eql (.d .ptr .nil) (.d .ptr .nil) K=K (.d .bool (.bool true)):=rfl
theorem q41:GH P T .ptr .neq (.d .ptr .nil) (.d .ptr .nil) K=K (.d .bool (.bool false)):=rfl
theorem q46 {eb:Nat} {e:Ty} {cs:List C} {t eb':Nat} {e':Ty}:GH P T (.slice eb e) .eql (.sl eb' e' cs t) .wo K=K (IW (bif cs.isEmpty then none else some false)):=rfl
theorem q45 {eb:Nat} {e:Ty} {c:C} {eb':Nat} {e':Ty}:GH P T (.slice eb e) .eql (.d (.slice eb' e') c) .wo K=K (IW (bif c.elems.isEmpty then none else some false)):=rfl
theorem q47 {eb:Nat} {e:Ty} {k:Key} {q:List Nat} {lo n:Nat} {cp:Option Nat} {eb':Nat} {e':Ty}:GH P T (.slice eb e) .eql (.sr k q lo n cp eb' e') .wo K=K (IW (bif n==0 then none else some false)):=rfl
theorem q4Y {eb:Nat} {e:Ty} {eb':Nat} {e':Ty}:GH P T (.slice eb e) .eql (.emp eb' e') .wo K=K (.top .bool):=rfl
theorem q42 {eb:Nat} {e:Ty}:GH P T (.slice eb e) .eql .wo .wo K=K (.d .bool (.bool true)):=rfl
theorem q4V {n:Nat} {e:Ty}:GH P T (.arr n e) op x y K=(CW P T=true/\x.DI (.arr n e)/\y.DI (.arr n e)/\Il op (qk x.toC y.toC) K):=rfl
end
theorem AF (n:Int):(C.int n).toInt=n:=rfl
theorem AX (b:Bool):(C.bool b).toBool=b:=rfl
theorem ba (l:List UInt8):(C.str l).toStr=l:=rfl
theorem Ac (cs:List C):(C.slice cs).elems=cs:=rfl
theorem Ak (cs:List C):(C.agg cs).elems=cs:=rfl
theorem az (cs:List C) (i:Nat):(C.agg cs).get i=cs.getD i .nil:=rfl
theorem q09 (i j:Nat) (x:V) (e:List (Nat × V)) (l:List (Key × O)) (A:Key->Option O) (tk:List (Nat × Option Nat)):(S.mk ((i,x)::e) l A tk).get j=if i=j then x else(S.mk e l A tk).get j:=by simp only[vk,look];split <;> rfl
theorem get_nil (j:Nat) (l:List (Key × O)) (A:Key->Option O) (tk:List (Nat × Option Nat)):(S.mk [] l A tk).get j= .any:=rfl
theorem q5N (e:List (Nat × V)) (l:List (Key × O)) (A:Key->Option O) (tk:List (Nat × Option Nat)) (d:Nat) (x:V):(S.mk e l A tk).set (some d) x=S.mk (ML e d x) l A tk:=rfl
theorem q5M (s:S) (x:V):s.set none x=s:=rfl
theorem q4T (e:List (Nat × V)) (l:List (Key × O)) (A:Key->Option O) (tk:List (Nat × Option Nat)) (k:Key) (o:O):(S.mk e l A tk).put k o=S.mk e (Rr l k o) A tk:=rfl
theorem q60 (e:List (Nat × V)) (l:List (Key × O)) (A:Key->Option O) (tk:List (Nat × Option Nat)) (t:Nat) (x:Option Nat):(S.mk e l A tk).tok t x=S.mk e l A (ML tk t x):=rfl
theorem yU (e:List (Nat × V)) (l:List (Key × O)) (A:Key->Option O) (tk:List (Nat × Option Nat)) (lo:List (Key × O)) (tn:List (Nat × Option Nat)):(S.mk e l A tk).add lo tn=S.mk e (lo++l) A (tn++tk):=rfl
theorem q31 (e:List (Nat × V)) (A:Key->Option O) (tk:List (Nat × Option Nat)) (k:Key):(S.mk e [] A tk).obj (.g k)=A k:=rfl
theorem q32 (e:List (Nat × V)) (A:Key->Option O) (tk:List (Nat × Option Nat)) (n:Nat):(S.mk e [] A tk).obj (.l n)=none:=rfl
theorem q30 (e:List (Nat × V)) (l:List (Key × O)) (A:Key->Option O) (tk:List (Nat × Option Nat)) (j k:Key) (o:O):(S.mk e ((j,o)::l) A tk).obj k=if j=k then some o else(S.mk e l A tk).obj k:=by simp only[jo,CY,AK];by_cases h:j=k <;> simp[h]
theorem q2I (e:List (Nat × V)) (l:List (Key × O)) (A:Key->Option O) (tk:List (Nat × Option Nat)) (t:Nat):(S.mk e l A tk).live t=Ds tk t:=rfl
theorem q2H (t:Nat):Ds [] t=none:=rfl
theorem q2G (u:Nat) (x:Option Nat) (tk:List (Nat × Option Nat)) (t:Nat):Ds ((u,x)::tk) t=if u=t then x else Ds tk t:=by simp only[Ds,look];by_cases h:u=t;{simp only[if_pos h];cases x <;> rfl};{simp only[if_neg h]}
theorem q1V (e:List (Nat × V)) (l:List (Key × O)) (A:Key->Option O) (t:Nat):(S.mk e l A []).known t=false:=rfl
theorem q7d (τ:Ty) (c:C) (i:Nat):(V.d τ c).get i= .d (τ.get i) (c.get i):=rfl
theorem q7c (τ:Ty) (vs:List V) (i:Nat):(V.agg τ vs).get i=vs.getD i .any:=rfl
theorem q69 (x:V):x.at []=x:=by cases x <;> rfl
theorem q68 (x:V) (i:Nat) (q:List Nat):x.at (i::q)=(x.get i).at q:=by rfl
theorem q6V (τ:Ty) (c:C):(V.d τ c).toInt=c.toInt:=rfl
theorem q6T (τ:Ty) (c:C):(V.d τ c).toBool=c.toBool:=rfl
theorem q6W (τ:Ty) (c:C):(V.d τ c).toStr=c.toStr:=rfl
theorem q6U (τ:Ty) (c:C):(V.d τ c).toC=c:=rfl
theorem zJ (n:Nat) (e:Ty) (i:Nat):(dc n e).get i=e:=rfl
theorem q66 (e:List (Nat × V)) (l:List (Key × O)) (A:Key->Option O) (tk:List (Nat × Option Nat)) (k:Key):(S.mk e l A tk).up k=((S.mk e l A tk).obj k).map (O.ren .g):=rfl
theorem q1T (k:IntKind):(Ty.int k).known=true:=rfl
theorem q1E (k:IntKind):(Ty.int k).isAgg=false:=rfl
theorem q1Q:(Ty.bool).known=true:=rfl
theorem q1B:(Ty.bool).isAgg=false:=rfl
theorem q1Y:(Ty.str).known=true:=rfl
theorem q1I:(Ty.str).isAgg=false:=rfl
theorem q1X (n:Nat) (e:Ty):(Ty.slice n e).known=true:=rfl
theorem q1H (n:Nat) (e:Ty):(Ty.slice n e).isAgg=false:=rfl
theorem q1P (n:Nat) (e:Ty):(dc n e).known=true:=rfl
theorem q1A (n:Nat) (e:Ty):(dc n e).isAgg=true:=rfl
theorem q1W:(Ty.ptr).known=true:=rfl
theorem q1G:(Ty.ptr).isAgg=false:=rfl
theorem q1U:(Ty.map).known=true:=rfl
theorem q1F:(Ty.map).isAgg=false:=rfl
theorem q1R:(Ty.func).known=true:=rfl
theorem q1C:(Ty.func).isAgg=false:=rfl
theorem q1S:(Ty.iface).known=true:=rfl
theorem q1D:(Ty.iface).isAgg=false:=rfl
theorem bl (n:Nat) (e:Ty) (i:Nat):(dc n e).child i=if i<n then some (i*e.size,e)else none:=rfl
theorem q1N (n:Nat) (e:Ty):(dc n e).DS=dh n e:=rfl
theorem q5X (n:Nat) (e:Ty) (i:Nat):(Ty.slice n e).get i=e:=rfl
theorem q3r (d:Nat):CN [] d=0:=rfl
theorem q3q (j m:Nat) (l:List (Nat × Nat)) (d:Nat):CN ((j,m)::l) d=if j=d then m else CN l d:=by simp only[CN,look];split <;> rfl
section
variable {X:Cx} {md:List (Nat × Nat)} {ops:Array Oper} {Φ:S->Prop} {o:Oper} {rest:List Oper} {s:S}
theorem Bn.mono {f:FuncId} {xs:List V} {A A':Key->Option O} {v:V} {L:List (Key × O)} (h:Bn X f xs A v L) (hA:∀k o,A k=some o->A' k=some o):Bn X f xs A' v L:=
 fun A'' Γ w args hAA=>h A'' Γ w args fun k o hk=>hAA k o (hA k o hk)
end
section
variable {X:Cx} {md:List (Nat × Nat)} {ops:Array Oper} {Φ:S->Prop} {o:Oper} {rest:List Oper} {ts:List Nat} {base s:S}
end
end
section
section
variable {X:Cx} {md:List (Nat × Nat)} {ops:Array Oper} {Φ:S->Prop} {n:List Unit} {u:Unit} {o:Oper} {rest:List Oper} {ts:List Nat} {base s s':S} {dst:Option Nat} {lo:List (Key × O)} {tn:List (Nat × Option Nat)} {d:Option Nat} {op:Op} {T:TypeId} {ps:String} {af:Array Edge} {j:Nat} {want:Bool}
theorem CG {x:V} {p q:Prop} (h:x= .d .bool (.bool true)):gx x true p q=p:=by subst h;exact Bu p q
theorem CF {x:V} {p q:Prop} (h:x= .d .bool (.bool true)):gx x false p q=q:=by subst h;exact Bt p q
theorem CE {x:V} {p q:Prop} (h:x= .d .bool (.bool false)):gx x true p q=q:=by subst h;exact Bs p q
theorem CD {x:V} {p q:Prop} (h:x= .d .bool (.bool false)):gx x false p q=p:=by subst h;exact Br p q
theorem CH {x:V} {want:Bool} {p q:Prop} (h:x= .tup []):gx x want p q=q:=by subst h;rfl
def vcK (X:Cx) (md:List (Nat × Nat)) (ops:Array Oper) (Φ:S->Prop) (rest:List Oper) (dst:Option Nat) (v:V) (s:S):Prop:=vc X md ops Φ rest (s.set dst v)
@[go_sem] theorem z2L:vc X md ops Φ [] s=Φ s:=id rfl
@[go_sem] theorem z2K:vc X md ops Φ (⟨d,op,T,ps,af,none⟩::rest) s=sop X md (Ab ⟨d,op,T,ps,af,none⟩) ⟨d,op,T,ps,af,none⟩ s (vcK X md ops Φ rest d):=by simp only[vc];exact id rfl
@[go_sem] theorem z2E (τ:Ty) (c:C):vcK X md ops Φ rest dst (.d τ c) s=vc X md ops Φ rest (s.set dst (.d τ c)):=id rfl
@[go_sem] theorem z2H (eb:Nat) (e:Ty) (cs:List C) (t:Nat):vcK X md ops Φ rest dst (.sl eb e cs t) s=vc X md ops Φ rest (s.set dst (.sl eb e cs t)):=id rfl
@[go_sem] theorem z2F (eb:Nat) (e:Ty):vcK X md ops Φ rest dst (.emp eb e) s=vc X md ops Φ rest (s.set dst (.emp eb e)):=id rfl
@[go_sem] theorem z2G:vcK X md ops Φ rest dst .wo s=vc X md ops Φ rest (s.set dst .wo):=id rfl
@[go_sem] theorem z2I (k:Key) (q:List Nat) (l0 m:Nat) (cp:Option Nat) (eb:Nat) (e:Ty):vcK X md ops Φ rest dst (.sr k q l0 m cp eb e) s=vc X md ops Φ rest (s.set dst (.sr k q l0 m cp eb e)):=id rfl
@[go_sem] theorem z2J (τ:Ty):vcK X md ops Φ rest dst (.top τ) s=vc X md ops Φ rest (s.set dst (.top τ)):=id rfl
end
end
section
mutual
def C.wf:Ty->C->Prop
 | .int k,c=>c= .int c.toInt/\k.min<=c.toInt/\c.toInt<=k.max| .bool,c=>c= .bool c.toBool| .str,c=>c= .str c.toStr/\c.toStr.length<=140737488355328| .slice eb e,c=>c= .slice c.elems/\c.elems.length*eb<=140737488355328/\c.elems.length<=9223372036854775807/\∀x∈c.elems,C.wf e x| .arr n e,c=>c= .agg c.elems/\c.elems.length=n/\∀x∈c.elems,C.wf e x| .struct _ _ fs,c=>c= .agg c.elems/\C.wfs fs c.elems| .opq _,_=>False| .iface,c=>c= .nil\/c= .bool true|_,c=>c= .nil
def C.wfs:List Ty->List C->Prop
 | [],cs=>cs=[]|f::fs,cs=>∃c cs',cs=c::cs'/\C.wf f c/\C.wfs fs cs'
end
theorem C.xX:∀{fs:List Ty} {cs:List C},C.wfs fs cs->cs.length=fs.length
 | [],_,h=>by simp only[C.wfs]at h;simp[h]
 |f::fs,cs,h=>by simp only[C.wfs]at h;obtain⟨c,cs',rfl,_,h⟩:=h;simp[C.xX h]
theorem C.xW:∀{fs:List Ty} {cs:List C} {i:Nat} {f:Ty},C.wfs fs cs->fs[i]? =some f->C.wf f (cs.getD i .nil)
 | [],_,_,_,_,h=>by simp at h
 |g::fs,cs,i,f,h,hi=>by
  simp only[C.wfs]at h;obtain⟨c,cs',rfl,h1,h2⟩:=h;cases i with
  |zero=>simp at hi;subst hi;simpa using h1|succ i=>simpa using C.xW h2 (show fs[i]? =some f by simpa using hi)
theorem C.GK {sz:Nat} {os:List Nat} {fs:List Ty} {c:C} {i:Nat} {f:Ty} (h:C.wf (.struct sz os fs) c) (hi:fs[i]? =some f):C.wf f (c.get i):=by simp only[C.wf]at h;rw[h.1];exact C.xW h.2 hi
theorem C.q7m {eb:Nat} {e:Ty} {c:C} {i:Nat} (h:C.wf (.slice eb e) c) (hi:i<c.elems.length):C.wf e (c.elems.getD i .nil):=by simp only[C.wf]at h;rw[du,cr hi];exact h.2.2.2 _ (List.getElem_mem hi)
mutual
theorem AH.wf {H:Hp}:∀{τ:Ty} {vs:List Value} {c:C},AH H τ vs c->C.wf τ c
 | .int k,vs,c,h=>by simp only[AH]at h;obtain⟨n,rfl,_,h1,h2⟩:=h;exact⟨rfl,h1,h2⟩
 | .bool,vs,c,h=>by simp only[AH]at h;obtain⟨n,rfl,_⟩:=h;rfl
 | .str,vs,c,h=>by simp only[AH]at h;obtain⟨n,rfl,_,h1⟩:=h;exact⟨rfl,h1⟩
 | .slice eb e,vs,c,h=>by simp only[AH]at h;obtain⟨a,n,cap,cs,rfl,rfl,h1,h2,h3,h4,h5⟩:=h;simp only[C.wf,bq];refine⟨trivial,by rw[h1];exact h4,by unfold maxLen at h3;omega,fun x hx=>?_⟩;obtain⟨i,hi⟩:=sv hx;rcases h5 with h5|⟨b,off,l,_,_,_,hr⟩;{subst h5;have:=(cq.1 hi).1;omega};{exact AH.wf (hr i x hi)}
 | .arr n e,vs,c,h=>by simp only[AH]at h;obtain⟨cs,rfl,h1,h2,h4,h3⟩:=h;simp only[C.wf,bq];refine⟨trivial,h1,fun x hx=>?_⟩;obtain⟨i,hi⟩:=sv hx;exact AH.wf (h3 i x hi)
 | .struct sz os fs,vs,c,h=>by simp only[AH]at h;obtain⟨cs,rfl,_,_,h2⟩:=h;simp only[C.wf,bq];exact⟨trivial,Bk.wf h2⟩
 | .ptr,vs,c,h| .map,vs,c,h| .func,vs,c,h=>by simp only[AH]at h;simp only[C.wf];exact h.1
 | .iface,vs,c,h=>by simp only[AH]at h;simp only[C.wf];rcases h with h|h;{exact .inl h.1};{exact .inr h.1}
 | .opq _,_,_,h=>by simp only[AH]at h
theorem Bk.wf {H:Hp}:∀{fs:List Ty} {os:List Nat} {vs:List Value} {cs:List C},Bk H fs os vs cs->C.wfs fs cs
 | [],_,_,_,h=>by simp only[Bk]at h;simp only[C.wfs];exact h
 |f::fs,o::os,vs,cs,h=>by simp only[Bk]at h;obtain⟨c,cs',rfl,_,h2,h3⟩:=h;simp only[C.wfs];exact⟨c,cs',rfl,AH.wf h2,Bk.wf h3⟩
 |_::_,[],_,_,h=>by simp[Bk]at h
end
mutual
def V.wf:V->Prop
 | .d τ c=>C.wf τ c| .sl eb e cs _=>C.wf (.slice eb e) (.slice cs)| .ts eb e cs=>C.wf (.slice eb e) (.slice cs)| .sr _ _ _ n _ eb _=>n*eb<=140737488355328/\n<=9223372036854775807| .wq τ c=>C.wf τ c| .agg _ vs=>V.wfs vs|_=>True
def V.wfs:List V->Prop
 | []=>True|x::xs=>x.wf/\V.wfs xs
end
mutual
theorem AA.wf {Γ:G} {hm:Option Key}:∀{x:V} {p:List Nat} {vs:List Value},AA Γ hm p x vs->x.wf
 | .d τ c,_,_,h=>by simp only[AA]at h;exact h.wf
 | .sl eb e cs t,_,_,h=>by simp only[AA]at h;obtain⟨a,n,cap,_,h,_⟩:=h;exact h.wf
 | .ts eb e cs,_,_,h=>by simp only[AA]at h;obtain⟨a,n,cap,k,_,_,h,_⟩:=h;exact h.wf
 | .sr _ _ _ n _ eb _,_,_,h=>by simp only[AA]at h;rcases h with⟨_,rfl,_⟩|⟨b,τ0,o,m,cap,_,_,_,_,h1,h2,h3,_⟩;{exact⟨by rw[gz];exact ef _,ef _⟩};exact⟨h3,by unfold maxLen at h2;omega⟩
 | .wq τ c,_,_,h=>by simp only[AA]at h;obtain⟨b,off,l,_,_,_,h⟩:=h;exact h.wf
 | .agg _ vs,_,_,h=>by simp only[AA]at h;exact AV.wf h.2.2.2.2
 | .emp _ _,_,_,_| .wo,_,_,_| .ptr _ _ _,_,_,_| .mp _,_,_,_| .fn _ _,_,_,_| .tup _,_,_,_| .top _,_,_,_| .any,_,_,_=>by simp only[V.wf]
theorem AV.wf {Γ:G} {hm:Option Key}:∀{xs:List V} {p:List Nat} {i:Nat} {τ:Ty} {vs:List Value},AV Γ hm p i τ xs vs->V.wfs xs
 | [],_,_,_,_,_=>by simp only[V.wfs]
 |x::xs,_,_,_,_,h=>by simp only[AV]at h;obtain⟨⟨o,f,_,_,_,h1⟩,h2⟩:=h;exact⟨AA.wf h1,AV.wf h2⟩
end
def V.wfT:V->Prop
 | .tup xs=>V.wfs xs|x=>x.wf
theorem BU.wf {Γ:G}:∀{xs:List V} {vs:List Value},BU Γ xs vs->V.wfs xs
 | [],_,_=>by simp only[V.wfs]
 |x::xs,_,h=>by simp only[BU]at h;obtain⟨v,vs',_,h1,_,h2⟩:=h;exact⟨AA.wf h1,BU.wf h2⟩
theorem AE.wf {Γ:G} {x:V} {v:Value} (h:AE Γ x v):x.wfT:=by
 cases x
 case any=>simp only[V.wfT,V.wf]
 case tup xs=>obtain⟨vs,_,h⟩:=h;exact h.wf
 all_goals exact AA.wf h.1
def O.wf:O->Prop
 | .box x=>x.wf| .map _ _ es=>∀c∈es,c.2.wf| .it _ _| .dead _=>True
structure WF (s:S):Prop where
 slot:∀t,(s.get t).wfT
 obj:∀k x,s.obj k=some (.box x)->x.wf
section
variable {X:Cx} {n:Nat} {s:S} {Ψ:Exit->S->Prop} {c:Code}
theorem At.wf {Γ0:G} {a:Act} {w:World} (h:At X n Γ0 s a w):WF s:=by obtain⟨Γ,_,_,c,hs,_⟩:=h;refine⟨fun t=>(hs t).wf,fun k x hk=>?_⟩;rcases c.obj k _ hk with⟨_,e,rfl⟩|⟨b,cells,T,_,_,_,_,_,h,_⟩;{simp[V.wf,C.wf,bq]};exact h.wf
theorem WF.at {t:Nat} {x:V} (h:WF s) (ht:s.get t=x):x.wfT:=ht ▸ h.slot t
end
theorem Oy {k:IntKind} {n:Int} (h1:k.min<=n) (h2:n<=k.max):k.wrap n=n:=by cases k <;> simp[IntKind.wrap,IntKind.min,IntKind.max,IntKind.bits,IntKind.signed]at h1 h2 ⊢ <;> omega
end
section
attribute [go_sem] eq_self gu Option.bind_none gr mz ru Bool.not_false decide_true decide_false forall_const true_implies false_implies
attribute [go_sem] implies_true not_true not_false_iff sop iop kop fop sl3 JW Ke PT lk List.head?_cons List.tail_cons List.head?_nil
attribute [go_sem] strOf Ty.QZ Op.operands Call.operands FH FI top q3r q3q pv OV OX Rt MM
attribute [go_sem] Rs OW OY Cb V.Ei cut q49 q4Z q4W q4X q48 q43
attribute [go_sem] q44 q40 q41 q46 q45 q47 q4Y q42 IW q4V fk if_true if_false Jp LD MR Il BinOp.Kg
attribute [go_sem] Ab Ae XP OE Cy wc Fk V.Dc V.Cw V.tkR kz q09
attribute [go_sem] get_nil q5N q5M q4T q60 yU q31 q32 q30 q2I q2H q2G
attribute [go_sem] q1V q66 O.ren V.ren V.DM ML Kd Kv Rr Kc SD
attribute [go_sem] E.look AK Nat.zero_ne_one Nat.one_ne_zero Cr Df Ce Ck GC EK JX gOk
attribute [go_sem] tOk S.ret Ff GY Ft dn rk dnL dnT EH Hx EP
attribute [go_sem] V.sites V.SL V.CI V.Hf V.okH V.Rc V.CK V.FV Fy jl qc or_false
attribute [go_sem] false_or and_true true_and and_self or_true true_or or_self List.nil_append List.cons_append List.append_nil V.isInt V.Ez
attribute [go_sem] V.isBool V.isStr V.DI q6V q6T q6W q6U AF AX ba Ac Ak
attribute [go_sem] az q69 q68 q7d q7c zJ V.setAt V.set C.set Gj CL JV
attribute [go_sem] Lb ox qe V.BN V.Cd V.Gt view views CQ ED List.map_cons List.map_nil
attribute [go_sem] List.getD_cons_zero List.getD_cons_succ List.set_cons_zero List.set_cons_succ List.all_cons List.all_nil il ne_eq not_false_eq_true not_true_eq_false Ty.size q1T
attribute [go_sem] q1E q1Q q1B q1Y q1I q1X q1H q1P q1A q1W q1G q1U
attribute [go_sem] q1F q1R q1C q1S q1D bl q1N q5X ta sy jx List.getElem?_cons_zero
attribute [go_sem] fu iv dp dx Nat.lt_add_one Nat.zero_lt_succ jq Bool.true_and Bool.or_true Bool.true_or vo ju
attribute [go_sem] cond_true cond_false Key.l.injEq Key.g.injEq bz List.contains_nil List.contains_cons Bool.and_self decide_eq_true_eq Nat.not_lt_zero dh List.replicate_zero
@[go_sem] theorem z2U (k:IntKind):AO (.int k)= .int 0:=rfl
@[go_sem] theorem z2R:AO .bool= .bool false:=rfl
@[go_sem] theorem z2Y:AO .str= .str []:=rfl
@[go_sem] theorem z2X (eb:Nat) (e:Ty):AO (.slice eb e)= .slice []:=rfl
@[go_sem] theorem z2W:AO .ptr= .nil:=rfl
@[go_sem] theorem z2V:AO .map= .nil:=rfl
@[go_sem] theorem z2S:AO .func= .nil:=rfl
@[go_sem] theorem z2T:AO .iface= .nil:=rfl
attribute [go_sem] Ai V.d.injEq V.emp.injEq
attribute [go_sem] false_and and_false SI Bu Br Bt Bs gv
attribute [go_sem] Fc FC IE Oh Oe Ee MO KA Hu GZ FR Ih V.BR V.FZ O.BR V.ok th V.DK DY O.okB O.ok CB Bl List.isEmpty_nil List.isEmpty_cons ta sy
section
variable {X:Cx} {n:Nat} {c:Code} {Ψ:Exit->S->Prop} {md:List (Nat × Nat)} {ops:Array Oper} {Φ:S->Prop} {m:List Unit} {l:List Oper} {ts:List Nat} {dst:Nat} {o:Oper} {K:V->S->Prop} {s s' b b':S}
theorem F4:((0:Nat)=100)=False:=by simp
theorem F5:((3:Nat)=100)=False:=by simp
attribute [go_sem] lop F4 F5 false_or false_and
end
end
section
section
variable {X:Cx} {n:Nat} {s:S} {Ψ:Exit->S->Prop}
theorem Yw {Γ0:G} {ι:Type} (I:ι->S) (μ:ι->Nat) {a:Act} {w:World} (h:∃i,At X n Γ0 (I i) a w):∃m,∃i,At X n Γ0 (I i) a w/\μ i=m/\∀j,At X n Γ0 (I j) a w->m<=μ j:=by
 obtain⟨i,hi⟩:=h;have:∀m i,μ i=m->At X n Γ0 (I i) a w->∃m,∃i,At X n Γ0 (I i) a w/\μ i=m/\∀j,At X n Γ0 (I j) a w->m<=μ j:=by
  intro m
  induction m using vj with
  |_ m ih=>
   intro i hm hi;by_cases h:∃j,At X n Γ0 (I j) a w/\μ j<m;{obtain⟨j,hj,hlt⟩:=h;exact ih _ hlt j rfl hj};{exact⟨m,i,hi,hm,fun j hj=>Nat.le_of_not_lt fun hlt=>h ⟨j,hj,hlt⟩⟩}
 exact this _ i rfl hi
theorem X4 {c rest:Code} (l:Nat) (hf:findLabel c l=some rest) {ι:Type} (I:ι->S) (μ:ι->Nat)
  (first:DC X n c s fun e s'=>match e with| .goto l'=>l'=l/\∃i,Dd X n s' (I i)|e=>Ψ e s')
  (pass:∀i,DC X n rest (I i) fun e s'=>match e with| .goto l'=>l'=l/\∃j,Dd X n s' (I j)/\μ j<μ i|e=>Ψ e s'):DC X n (.scope c) s Ψ:=by
 intro Γ0 a w hat
 open Classical in
 refine wp_scope_jumps l (fun a w=>∃i,At X n Γ0 (I i) a w) (fun a w=>if h:∃i,At X n Γ0 (I i) a w then Classical.choose (Yw I μ h)else 0) hf ?_ ?_
 ·refine wp_mono (first Γ0 a w hat) ?_;rintro e a' w' ⟨s',h1,h2⟩;cases e with
  |goto l'=>
   obtain⟨e1,i,hi⟩:=h1;exact⟨e1,i,hi Γ0 a' w' h2⟩
  |normal|exit _|ret|panic _|outgrown=>exact⟨s',h1,h2⟩
 ·intro a w hI;obtain⟨i,hi,hm,hmin⟩:=qq (Yw I μ hI);refine wp_mono (pass i Γ0 a w hi) ?_;rintro e a' w' ⟨s',h1,h2⟩;cases e with
  |goto l'=>
   obtain⟨e1,j,hj,hlt⟩:=h1;have zp:=hj Γ0 a' w' h2;have hI':∃i,At X n Γ0 (I i) a' w':=⟨j,zp⟩;refine⟨e1,hI',?_⟩;obtain⟨i',hi',hm',z4d⟩:=qq (Yw I μ hI');have:=z4d j zp;rw[dif_pos hI',dif_pos hI];omega
  |normal|exit _|ret|panic _|outgrown=>exact⟨s',h1,h2⟩
theorem iH {c:Code} (h:DC X n c s fun e s'=>match e with| .goto _=>False|e=>Ψ e s'):DC X n (.scope c) s Ψ:=by
 intro Γ0 a w hat;refine wp_scope_straight (wp_mono (h Γ0 a w hat) ?_);rintro e a' w' ⟨s',h1,h2⟩;cases e with
 |goto l'=>exact h1.elim|normal|exit _|ret|panic _|outgrown=>exact⟨s',h1,h2⟩
theorem XX {t:Nat} {c c':Code} (hb:s.get t= .top .bool) (h1:DC X n c s Ψ) (h2:DC X n c' s Ψ):DC X n (.cond (.tmp t) c c') s Ψ:=by
 intro Γ0 a w hat;have key:∃b,a.eval (.tmp t)= .bool b:=by obtain⟨Γ,_,_,_,hs,_⟩:=hat;have:=hs t;rw[hb]at this;obtain⟨h1,h2⟩:=(Bz rfl).1 this;rw[Cu (by simpa[ox,Ty.isAgg]using h2)]at h1;simp only[AA]at h1;obtain⟨b,hv⟩:=h1.2.2 trivial;exact⟨b,by simp only[List.cons.injEq,and_true]at hv;exact hv⟩
 obtain⟨b,hv⟩:=key;refine wp_cond (t:=b) hv ?_;cases b with
 |true=>exact h1 Γ0 a w hat|false=>exact h2 Γ0 a w hat
theorem q7l {t u eb:Nat} {e:Ty} (hu:s.known u=false) (ht:s.get t= .wo\/s.get t= .emp eb e):Dd X n s (S.set {s with tk:=(u,some 0)::s.tk} (some t) (.sl eb e [] u)):=by
 rintro Γ0 a w ⟨Γ,g1,g3,c,hs,hn,hf,hA⟩;obtain⟨c1,p1,g2⟩:=c.DX hu (x:=none) (L:=0) (fun _ _ _ h=>by cases h);refine⟨Γ.DX u none 0,g1.trans g2,g2.gl.trans g3,PU c1 _ _,fun i=>?_,hn,hf,hA⟩;rw[Jk];split
 ·rename_i e1;cases e1;have h0:=hs t;obtain⟨a0,ha⟩:∃a0,a.tmps.getD t undef= .slice a0 0 0:=by rcases ht with h|h;{rw[h]at h0;exact⟨none,FQ h0⟩};{rw[h]at h0;obtain⟨h1,_⟩:=(Bx rfl rfl).1 h0;simp only[AA]at h1;obtain⟨a0,h1⟩:=h1;exact⟨a0,by simpa using h1⟩}
  rw[ha];refine(Bx rfl rfl).2 ⟨?_,rfl⟩;simp only[AA];exact⟨a0,0,0,rfl,Dw rfl (cn _) (ef _) (by rw[gz];exact ef _) (.inl rfl),none,0,by simp[G.DX,Bm],cn _,fun _=>rfl⟩
 ·exact(hs i).Bd p1
end
attribute [go_sem] HX tkW Ct
end
section
theorem C.q0P (a b:C):qk a b=qk b a:=by rw[Bool.eq_iff_iff,C.Fx,C.Fx];exact eq_comm
theorem oW {α:Type}:∀(es:List (C × α)) (c:C) (v:α) (c':C),FD (ER es c v) c'=if qk c' c=true then some v else FD es c'
 | [],c,v,c'=>by simp only[ER,FD]
 |(k,u)::es,c,v,c'=>by
  simp only[ER];by_cases h:qk c k=true;{rw[if_pos h];have:=C.Fx.1 h;subst this;simp only[FD];split <;> rfl}
  ·rw[if_neg h];simp only[FD];by_cases h':qk c' k=true
   ·rw[if_pos h',if_pos h'];have:=C.Fx.1 h';subst this;have:qk c' c=false:=by
     cases hh:qk c' c with
     |false=>rfl|true=>rw[C.q0P]at hh;exact absurd hh h
    rw[this];simp
   ·rw[if_neg h',if_neg h',oW es c v c']
def xF (nx:C->C) (c v:C):C->C:=fun c'=>if qk c' c=true then v else nx c'
structure PE (P:Program) (et:TypeId) (τ:Ty) (es:List (C × V)) (nx:C->C):Prop where
 look:∀c,Gp P et es c= .d τ (nx c)
 all:∀f g,V.DK f g es=true
 dat:DY τ es=true
theorem rQ {f g:Nat->Bool}:∀{es:List (C × V)} {c:C} {v:V},V.DK f g es=true->v.ok f g=true->V.DK f g (ER es c v)=true
 | [],c,v,_,hv=>by simp only[ER,V.DK,hv,jq]
 |(k,u)::es,c,v,h,hv=>by simp only[V.DK,bz]at h;simp only[ER];split;{simp only[V.DK,hv,h.2,jq]};{simp only[V.DK,h.1,rQ h.2 hv,jq]}
theorem eV {τ:Ty}:∀{es:List (C × V)} {c v:C},DY τ es=true->DY τ (ER es c (.d τ v))=true
 | [],c,v,_=>by simp only[ER,DY,(Ty.beq_iff τ τ).2 rfl,jq]
 |(k,u)::es,c,v,h=>by simp only[DY,bz]at h;simp only[ER];split;{simp only[DY,(Ty.beq_iff τ τ).2 rfl,h.2,jq]};{simp only[DY,h.1,eV h.2,jq]}
theorem PE.put {P:Program} {et:TypeId} {τ:Ty} {es:List (C × V)} {nx:C->C} (h:PE P et τ es nx) (c v:C):PE P et τ (ER es c (.d τ v)) (xF nx c v):=by refine⟨fun c'=>?_,fun f g=>rQ (h.all f g) rfl,eV h.dat⟩;have:=h.look c';unfold Gp at this ⊢;rw[oW];unfold xF;by_cases e:qk c' c=true;{rw[if_pos e,if_pos e];rfl};{rw[if_neg e,if_neg e];exact this}
theorem PE.nil {P:Program} {et:TypeId} {τ:Ty} (h:Ai (ty P et)= .d τ (AO τ)):PE P et τ [] (fun _=>AO τ):=⟨fun c=>by
 unfold Gp;simp only[FD,qc];exact h,fun _ _=>rfl,rfl⟩
section
variable {X:Cx} {n:Nat} {s:S} {Ψ:Exit->S->Prop}
end
attribute [go_sem] Ty.flat V.CK V.FV
end
section
mutual
def V.EE:V->V
 | .emp eb e=>.ts eb e []| .agg τ vs=>.agg τ (V.Iv vs)|x=>x
def V.Iv:List V->List V
 | []=>[]|x::xs=>x.EE::V.Iv xs
end
theorem V.Tb (x:V):x.EE.ty=x.ty:=by cases x <;> simp[V.EE,ox]
theorem V.q0I (x:V):x.EE.plain=x.plain:=by cases x <;> simp[V.EE,qe]
theorem V.jW:∀xs:List V,(V.Iv xs).length=xs.length
 | []=>rfl|x::xs=>by simp[V.Iv,V.jW xs]
mutual
theorem V.jV:∀x:V,x.EE.BN=x.BN
 | .agg τ vs=>by simp only[V.EE,V.BN];exact V.jX vs
 | .emp _ _| .sl _ _ _ _| .ptr _ _ _| .sr _ _ _ _ _ _ _| .mp _| .d _ _| .ts _ _ _| .wo| .wq _ _| .top _| .any| .fn _ _| .tup _=>by simp[V.EE,V.BN]
theorem V.jX:∀xs:List V,V.Cd (V.Iv xs)=V.Cd xs
 | []=>rfl|x::xs=>by simp only[V.Iv,V.Cd,V.jV x,V.jX xs]
end
section
variable {Γ:G} {k:Key}
mutual
theorem AA.EE:∀(x:V) {p:List Nat} {vs:List Value},AA Γ (some k) p x vs->AA Γ (some k) p x.EE vs
 | .emp eb e,p,vs,h=>by simp only[AA,V.EE]at h ⊢;obtain⟨a,rfl⟩:=h;exact⟨a,0,0,k,rfl,rfl,Dw rfl (cn _) (ef _) (by rw[gz];exact ef _) (.inl rfl),.inl rfl⟩
 | .agg τ xs,p,vs,h=>by simp only[AA,V.EE]at h ⊢;exact⟨h.1,h.2.1,by rw[V.jW];exact h.2.2.1,h.2.2.2.1,AV.EE xs h.2.2.2.2⟩
 | .sl _ _ _ _,_,_,h| .ptr _ _ _,_,_,h| .sr _ _ _ _ _ _ _,_,_,h| .mp _,_,_,h| .d _ _,_,_,h| .ts _ _ _,_,_,h| .wo,_,_,h| .wq _ _,_,_,h| .top _,_,_,h| .any,_,_,h| .fn _ _,_,_,h| .tup _,_,_,h=>h
theorem AV.EE:∀(xs:List V) {p:List Nat} {i:Nat} {τ:Ty} {vs:List Value},AV Γ (some k) p i τ xs vs->AV Γ (some k) p i τ (V.Iv xs) vs
 | [],_,_,_,_,_=>by simp only[V.Iv,AV]
 |x::xs,_,_,_,_,h=>by simp only[AV,V.Iv,V.Tb]at h ⊢;obtain⟨⟨o,f,h1,h2,h3,h4⟩,h5⟩:=h;exact⟨⟨o,f,h1,h2,h3,AA.EE x h4⟩,AV.EE xs h5⟩
end
end
theorem q7i {X:Cx} {n:Nat} {s:S} {k:Key} {x:V} (h:s.obj k=some (.box x)):Dd X n s (s.put k (.box x.EE)):=by rintro Γ0 a w ⟨Γ,g1,g3,c,hs,hn,hf,hA⟩;refine⟨Γ,g1,g3,⟨c.hH,c.hZ,c.hκ,fun j o hj=>?_,fun j hj=>?_,c.Jo (fun j hj=>?_),c.tok,c.xi,c.hgl,c.hoo,c.hσ⟩,hs,hn,hf,hA⟩;{rw[Db]at hj;split at hj;{rename_i e;subst e;cases hj;rcases c.obj _ _ h with⟨hn,e,rfl⟩|⟨b,cells,T,h1,h2,h3,h4,h5,h6,h7,h8⟩;{exact .inl ⟨hn,e,rfl⟩};exact .inr ⟨b,cells,T,by rw[V.Tb];exact h1,h2,h3,h4,by rw[V.Tb];exact h5,by rw[V.Tb];exact AA.EE x h6,by rw[V.q0I];exact h7,by rw[V.jV];exact h8⟩};{exact c.obj j o hj}};{rw[Db];split;{simp};{exact c.dom j hj}};{unfold S.Bq at hj ⊢;rw[Db];split;{rename_i e;subst e;rw[h]at hj;cases hj};{exact hj}}
attribute [go_sem] V.EE V.Iv
end
end Go.E
