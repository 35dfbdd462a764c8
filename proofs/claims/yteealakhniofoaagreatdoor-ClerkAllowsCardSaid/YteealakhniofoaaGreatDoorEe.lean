/-
 A framework for runs of Go code over abstract data: what it needs, and that it is sound, part 5.
 Conditions: none.
-/
import Derived.Test.YteealakhniofoaaGreatDoorEd
import Derived.ScopeJumps
set_option linter.all false
noncomputable section
set_option maxRecDepth 100000
set_option maxHeartbeats 4000000
open Array renaming all_eq_true'->pz,getD->qg,getD_eq_getD_getElem?->ib,replicate->ku
open Bool renaming and_eq_true->bg,and_true->ju,false_eq_true->fq,false_or->jz,not_eq_true'->je,not_true->tu,or_eq_true->od,or_eq_true_iff->po,or_false->xk
open Classical renaming byContradiction->qo,choose_spec->si
open Go.Act renaming put->sq
open Go.E.C renaming elems->ax,eqb->sc
open Go.E.S renaming get->xg,obj->jt,start->mb
open Go.E.Ty renaming arr->ca
open Go.E.V renaming oks->vg,plain->rp,slot->xz,ty->qk
open Go.Oper renaming looksAt->um
open Go.Region renaming binds->ua,ready->nz,wanted->jj
open Go.Result renaming andThen_ok->cu
open Go.Sem renaming run_bind->cz
open List renaming all_eq_true->dv,countP_append->vk,getD_eq_getElem?_getD->bq,getElem?_append_left->ft,getElem?_cons_succ->fu,getElem?_eq_getElem->bo,getElem?_eq_none->gb,getElem?_eq_some_iff->cd,getElem?_of_mem->uw,getElem?_toArray->kb,head?_drop->wk,length_append->br,length_cons->cg,length_nil->cr,mem_append->eh,mem_cons_of_mem->fp,mem_filter->mj,mem_filterMap->vl,mem_map->lu,mem_range->gp,range->gf,replicate->bp,size_toArray->iq
open Nat renaming le_of_lt->rf,le_refl->bx,lt_or_ge->lg,lt_succ_iff_lt_or_eq->nq,strongRecOn->xe,zero_le->dr,zero_mul->gq
open Option renaming bind_some->gm,getD_none->rm,getD_some->jg,isSome_none->qe,isSome_some->qf,map_eq_some_iff->ed,map_none->oh,map_some->gj
namespace Go.E
open Go
section
mutual
def V.BZ (x:V):V->Prop
 | .d τ c=>(match x with| .ye=>(∃eb e,τ= .slice eb e)/\c= .slice []|x=>Cl x=some c/\x.ty=τ)| .emp eb e=>x= .emp eb e\/x= .ye| .agg τ ws=>(match x with| .agg τ' vs=>τ'=τ/\V.GW vs ws|x=>x= .agg τ ws)| .any=>True|y=>x=y
def V.GW:List V->List V->Prop
 | [],[]=>True|x::xs,y::ys=>V.BZ x y/\y.ty=x.ty/\V.GW xs ys|_,_=>False
end
def O.BZ:O->O->Prop
 | .box x,.box y=>V.BZ x y/\y.ty=x.ty/\y.plain=true/\y.BW=true| .map kτ vτ es,.map kτ' vτ' es'=>kτ=kτ'/\vτ=vτ'/\es=es'| .it l p,.it l' p'=>l=l'/\p=p'|o,.dead τ=>τ=o.ty|_,_=>False
def DW (tk:List (Nat × Option Nat)) (t:Nat):Bool:=(look tk t).isSome
def Cd (L:List (Key × O)) (n:Nat):Bool:=(AZ L (.l n)).isSome
section
variable {Γ:G}
theorem V.pC:∀{xs ys:List V},V.GW xs ys->xs.length=ys.length
 | [],[],_=>rfl|x::xs,y::ys,h=>by simp only[V.GW]at h;simp[V.pC h.2.2]
 | [],_::_,h=>by simp[V.GW]at h
 |_::_,[],h=>by simp[V.GW]at h
mutual
theorem AA.BZ {hm:Option Key}:∀(y x:V) {p:List Nat} {vs:List Value},V.BZ x y->AA Γ hm p x vs->AA Γ hm p y vs/\(y≠.any->y.ty.isAgg=x.ty.isAgg/\(x≠.ye->y.ty=x.ty))
 | .d τ c,x,p,vs,h,hr=>by
  cases x
  case ye=>
   simp only[V.BZ]at h;obtain⟨⟨eb,e,rfl⟩,rfl⟩:=h;simp only[AA]at hr ⊢;subst hr;exact⟨Eg rfl (bx _) (dr _) (by rw[gq];exact dr _) (.inl rfl),fun _=>⟨rfl,fun h=>absurd rfl h⟩⟩
  all_goals
   simp only[V.BZ]at h;obtain⟨h1,h2⟩:=h;have:=LC _ hr h1;rw[h2]at this;exact⟨by simpa only[AA]using this,fun _=>⟨by simp only[qk]at h2 ⊢;rw[h2],fun _=>by simp only[qk]at h2 ⊢;rw[h2]⟩⟩
 | .emp eb e,x,p,vs,h,hr=>by simp only[V.BZ]at h;rcases h with rfl|rfl;{exact⟨hr,fun _=>⟨rfl,fun _=>rfl⟩⟩};{simp only[AA]at hr ⊢;subst hr;exact⟨⟨none,rfl⟩,fun _=>⟨rfl,fun h=>absurd rfl h⟩⟩}
 | .agg τ ws,x,p,vs,h,hr=>by
  cases x
  case agg τ' us=>
   simp only[V.BZ]at h;obtain⟨rfl,h⟩:=h;simp only[AA]at hr ⊢;obtain⟨r1,r2,r3,r4,r5⟩:=hr;exact⟨⟨r1,r2,by rw[<-V.pC h];exact r3,r4,Ag.BZ ws us h r5⟩,fun _=>⟨rfl,fun _=>rfl⟩⟩
  all_goals (simp only[V.BZ]at h;cases h)
 | .any,x,p,vs,_,_=>⟨by simp only[AA],fun h=>absurd rfl h⟩| .sl eb e cs t,x,p,vs,h,hr=>by simp only[V.BZ]at h;subst h;exact⟨hr,fun _=>⟨rfl,fun _=>rfl⟩⟩
 | .ts eb e cs,x,p,vs,h,hr=>by simp only[V.BZ]at h;subst h;exact⟨hr,fun _=>⟨rfl,fun _=>rfl⟩⟩
 | .ye,x,p,vs,h,hr=>by simp only[V.BZ]at h;subst h;exact⟨hr,fun _=>⟨rfl,fun _=>rfl⟩⟩
 | .ptr k q τ,x,p,vs,h,hr=>by simp only[V.BZ]at h;subst h;exact⟨hr,fun _=>⟨rfl,fun _=>rfl⟩⟩
 | .yf τ c,x,p,vs,h,hr=>by simp only[V.BZ]at h;subst h;exact⟨hr,fun _=>⟨rfl,fun _=>rfl⟩⟩
 | .sr k q lo n cp eb e,x,p,vs,h,hr=>by simp only[V.BZ]at h;subst h;exact⟨hr,fun _=>⟨rfl,fun _=>rfl⟩⟩
 | .mp k,x,p,vs,h,hr=>by simp only[V.BZ]at h;subst h;exact⟨hr,fun _=>⟨rfl,fun _=>rfl⟩⟩
 | .fn f yg,x,p,vs,h,hr=>by simp only[V.BZ]at h;subst h;exact⟨hr,fun _=>⟨rfl,fun _=>rfl⟩⟩
 | .tup us,x,p,vs,h,hr=>by simp only[V.BZ]at h;subst h;exact⟨hr,fun _=>⟨rfl,fun _=>rfl⟩⟩
 | .top τ,x,p,vs,h,hr=>by simp only[V.BZ]at h;subst h;exact⟨hr,fun _=>⟨rfl,fun _=>rfl⟩⟩
theorem Ag.BZ {hm:Option Key}:∀(ys xs:List V) {p:List Nat} {i:Nat} {τ:Ty} {vs:List Value},V.GW xs ys->Ag Γ hm p i τ xs vs->Ag Γ hm p i τ ys vs
 | [],[],_,_,_,_,_,h=>h|y::ys,x::xs,p,i,τ,vs,h,hr=>by simp only[V.GW]at h;simp only[Ag]at hr ⊢;obtain⟨⟨o,f,h1,h2,h3,h4⟩,h5⟩:=hr;obtain⟨k1,k2⟩:=AA.BZ y x h.1 h4;exact⟨⟨o,f,h1,h.2.1.trans h2,h3,k1⟩,Ag.BZ ys xs h.2.2 h5⟩
 | [],_::_,_,_,_,_,h,_=>by simp[V.GW]at h
 |_::_,[],_,_,_,_,h,_=>by simp[V.GW]at h
end
mutual
theorem V.SV {f g f' g':Nat->Bool} (hf:∀n,f n=true->f' n=true) (hg:∀n,g n=true->g' n=true):∀x:V,x.ok f g=true->x.ok f' g'=true
 | .ptr (.l k) _ _,h| .mp (.l k),h| .sr (.l k) _ _ _ _ _ _,h=>by simp only[V.ok]at h ⊢;exact hf _ h
 | .sl _ _ _ t,h=>by simp only[V.ok]at h ⊢;exact hg _ h
 | .agg _ vs,h| .fn _ vs,h| .tup vs,h=>by simp only[V.ok]at h ⊢;exact V.tJ hf hg vs h
 | .ptr (.g _) _ _,_| .mp (.g _),_| .sr (.g _) _ _ _ _ _ _,_| .d _ _,_| .ts _ _ _,_| .emp _ _,_| .ye,_| .yf _ _,_| .top _,_| .any,_=>by simp[V.ok]
theorem V.tJ {f g f' g':Nat->Bool} (hf:∀n,f n=true->f' n=true) (hg:∀n,g n=true->g' n=true):∀xs:List V,vg f g xs=true->vg f' g' xs=true
 | [],_=>rfl|x::xs,h=>by simp only[vg,bg]at h ⊢;exact⟨V.SV hf hg x h.1,V.tJ hf hg xs h.2⟩
end
theorem V.tG {f g f' g':Nat->Bool} (hf:∀n,f n=true->f' n=true) (hg:∀n,g n=true->g' n=true):∀xs:List (C × V),V.Ds f g xs=true->V.Ds f' g' xs=true
 | [],_=>rfl|x::xs,h=>by simp only[V.Ds,bg]at h ⊢;exact⟨V.SV hf hg x.2 h.1,V.tG hf hg xs h.2⟩
theorem O.SV {f g f' g':Nat->Bool} (hf:∀n,f n=true->f' n=true) (hg:∀n,g n=true->g' n=true) (o:O) (h:o.ok f g=true):o.ok f' g'=true:=by
 cases o with
 |box x=>exact V.SV hf hg x h|map=>exact V.tG hf hg _ h|it=>rfl|dead=>rfl
structure Sub (Γ Γ':G) (f g:Nat->Bool):Prop where
 oo:Γ'.oo=Γ.oo
 σ:Γ'.σ=Γ.σ
 H:Γ'.H=Γ.H
 Z:Γ'.Z=Γ.Z
 gl:Γ'.gl=Γ.gl
 ιg:∀k,Γ'.ι (.g k)=Γ.ι (.g k)
 ιl:∀n,f n=true->Γ'.ι (.l n)=Γ.ι (.l n)
 τ:∀t,g t=true->Γ'.τ t=Γ.τ t
 κ:∀b k p sz,Γ.κ b=some (.home k p,sz)->Γ'.κ b=Γ.κ b
variable {Γ':G} {f g:Nat->Bool}
mutual
theorem AA.sub (hs:Sub Γ Γ' f g) {hm:Option Key}:∀(x:V) {p:List Nat} {vs:List Value},x.ok f g=true->AA Γ hm p x vs->AA Γ' hm p x vs
 | .d _ _,_,_,_,h=>by simp only[AA]at h ⊢;rw[hs.H];exact h
 | .sl eb e cs t,_,_,ho,h=>by simp only[AA]at h ⊢;obtain⟨a,n,cap,h1,h2,x,L,h3,h4⟩:=h;exact⟨a,n,cap,h1,by rw[hs.H];exact h2,x,L,by rw[hs.τ t (by simpa[V.ok]using ho)];exact h3,h4⟩
 | .ts eb e cs,_,_,_,h=>by simp only[AA]at h ⊢;obtain⟨a,n,cap,k,h0,h1,h2,h3⟩:=h;refine⟨a,n,cap,k,h0,h1,by rw[hs.H];exact h2,?_⟩;rcases h3 with h3|⟨b,l,sz,a1,a2,a3,a4,a5⟩;{exact .inl h3};{exact .inr ⟨b,l,sz,a1,by rw[hs.H];exact a2,a3,by rw[hs.κ b k _ sz a4];exact a4,a5⟩}
 | .emp _ _,_,_,_,h=>by simpa only[AA]using h
 | .ye,_,_,_,h=>by simpa only[AA]using h
 | .ptr (.l k) q τ,_,_,ho,h=>by simp only[AA]at h ⊢;rw[hs.ιl k (by simpa[V.ok]using ho)];exact h
 | .ptr (.g k) q τ,_,_,_,h=>by simp only[AA]at h ⊢;rw[hs.ιg];exact h
 | .yf τ c,_,_,_,h=>by simp only[AA]at h ⊢;rw[hs.H];exact h
 | .sr (.l k) _ _ _ _ _ _,_,_,ho,h=>by simp only[AA]at h ⊢;rw[hs.ιl k (by simpa[V.ok]using ho),hs.σ];exact h
 | .sr (.g k) _ _ _ _ _ _,_,_,_,h=>by simp only[AA]at h ⊢;rw[hs.ιg,hs.σ];exact h
 | .mp (.l k),_,_,ho,h=>by simp only[AA]at h ⊢;rw[hs.ιl k (by simpa[V.ok]using ho)];exact h
 | .mp (.g k),_,_,_,h=>by simp only[AA]at h ⊢;rw[hs.ιg];exact h
 | .agg τ xs,_,_,ho,h=>by simp only[AA]at h ⊢;exact⟨h.1,h.2.1,h.2.2.1,h.2.2.2.1,Ag.sub hs xs (by simpa[V.ok]using ho) h.2.2.2.2⟩
 | .fn _ yg,_,_,ho,h=>by simp only[AA]at h ⊢;obtain⟨cv,h1,h2⟩:=h;exact⟨cv,h1,Bb.sub hs yg (by simpa[V.ok]using ho) h2⟩
 | .tup _,_,_,_,h=>by simp only[AA]at h
 | .top _,_,_,_,h=>by simpa only[AA]using h
 | .any,_,_,_,_=>by simp only[AA]
theorem Ag.sub (hs:Sub Γ Γ' f g) {hm:Option Key}:∀(xs:List V) {p:List Nat} {i:Nat} {τ:Ty} {vs:List Value},vg f g xs=true->Ag Γ hm p i τ xs vs->Ag Γ' hm p i τ xs vs
 | [],_,_,_,_,_,_=>by simp only[Ag]
 |x::xs,_,_,_,_,ho,h=>by simp only[Ag]at h ⊢;simp only[vg,bg]at ho;obtain⟨⟨o,ff,h1,h2,h3,h4⟩,h5⟩:=h;exact⟨⟨o,ff,h1,h2,h3,AA.sub hs x ho.1 h4⟩,Ag.sub hs xs ho.2 h5⟩
theorem Bb.sub (hs:Sub Γ Γ' f g):∀(xs:List V) {vs:List Value},vg f g xs=true->Bb Γ xs vs->Bb Γ' xs vs
 | [],_,_,h=>by simpa only[Bb]using h
 |x::xs,_,ho,h=>by simp only[Bb]at h ⊢;simp only[vg,bg]at ho;obtain⟨v,vs',h1,h2,h3,h4⟩:=h;exact⟨v,vs',h1,AA.sub hs x ho.1 h2,h3,Bb.sub hs xs ho.2 h4⟩
end
theorem AK.sub (hs:Sub Γ Γ' f g) {x:V} {v:Value} (ho:x.ok f g=true) (h:AK Γ x v):AK Γ' x v:=by
 cases x
 case any=>trivial
 case tup us=>obtain⟨vs,h1,h2⟩:=h;exact⟨vs,h1,Bb.sub hs _ (by simpa[V.ok]using ho) h2⟩
 all_goals exact⟨AA.sub hs _ ho h.1,h.2⟩
theorem tF {f g:Nat->Bool}:∀{es:List (C × V)} {i:Nat} {c:C × V},V.Ds f g es=true->es[i]? =some c->c.2.ok f g=true
 | [],_,_,_,h=>by simp at h
 |x::xs,0,c,h,hc=>by simp[V.Ds]at h;simp at hc;subst hc;exact h.1
 |x::xs,i+1,c,h,hc=>by simp[V.Ds]at h;exact tF h.2 (by simpa using hc)
theorem uX:∀{l:List Ty} {i:Nat} {t:Ty},Ty.SZ l=true->l[i]? =some t->t.Ey=true
 | [],_,_,_,h=>by cases h
 |x::l,0,t,h,hi=>by simp only[Ty.SZ,bg]at h;simp at hi;subst hi;exact h.1
 |x::l,i+1,t,h,hi=>by simp only[Ty.SZ,bg]at h;exact uX h.2 (by simpa using hi)
theorem q58 {τ f:Ty} {i o:Nat} (h:τ.Ey=true) (hc:τ.child i=some (o,f)):f.Ey=true:=by
 cases τ with
 |struct sz os fs=>
  simp only[Ty.child]at hc;split at hc;{rename_i o' f' h1 h2;cases hc;exact uX (by simpa only[Ty.Ey]using h) h2};{cases hc}
 |arr n e=>
  simp only[Ty.child]at hc;split at hc;{cases hc;simpa only[Ty.Ey]using h};{cases hc}
 |_=>cases hc
mutual
theorem AA.plain (hH:Γ'.H=Γ.H) {hm:Option Key}:∀(x:V) {p:List Nat} {vs:List Value},x.ty.Ey=true->AA Γ hm p x vs->AA Γ' hm p x vs
 | .d _ _,_,_,_,h=>by simp only[AA]at h ⊢;rw[hH];exact h
 | .top _,_,_,_,h=>by simpa only[AA]using h
 | .agg τ xs,p,vs,ht,h=>by simp only[AA]at h ⊢;exact⟨h.1,h.2.1,h.2.2.1,h.2.2.2.1,Ag.plain hH xs ht h.2.2.2.2⟩
 | .sl ..,_,_,ht,_=>by simp[qk,Ty.Ey]at ht
 | .ts ..,_,_,ht,_=>by simp[qk,Ty.Ey]at ht
 | .emp ..,_,_,ht,_=>by simp[qk,Ty.Ey]at ht
 | .ye,_,_,ht,_=>by simp[qk,Ty.Ey]at ht
 | .ptr ..,_,_,ht,_=>by simp[qk,Ty.Ey]at ht
 | .yf ..,_,_,ht,_=>by simp[qk,Ty.Ey]at ht
 | .sr ..,_,_,ht,_=>by simp[qk,Ty.Ey]at ht
 | .mp ..,_,_,ht,_=>by simp[qk,Ty.Ey]at ht
 | .fn ..,_,_,ht,_=>by simp[qk,Ty.Ey]at ht
 | .tup ..,_,_,ht,_=>by simp[qk,Ty.Ey]at ht
 | .any,_,_,ht,_=>by simp[qk,Ty.Ey]at ht
theorem Ag.plain (hH:Γ'.H=Γ.H) {hm:Option Key} {p:List Nat}:∀(xs:List V) {i:Nat} {τ:Ty} {vs:List Value},τ.Ey=true->Ag Γ hm p i τ xs vs->Ag Γ' hm p i τ xs vs
 | [],_,_,_,_,_=>by simp[Ag]
 |x::xs,i,τ,vs,ht,h=>by simp only[Ag]at h ⊢;obtain⟨⟨o,f,h1,h2,h3,h4⟩,h5⟩:=h;exact⟨⟨o,f,h1,h2,h3,AA.plain hH x (by rw[h2];exact q58 ht h1) h4⟩,Ag.plain hH xs ht h5⟩
end
def O.okP (f g:Nat->Bool):O->Bool
 | .map _ vτ es=>vτ.Ey||V.Ds f g es|o=>o.ok f g
theorem O.q5J {f g:Nat->Bool} {o:O} (h:o.ok f g=true):o.okP f g=true:=by
 cases o with
 |map=>exact po.2 (.inr h)|_=>exact h
theorem Own.sub (hs:Sub Γ Γ' f g) {w:World} {k:Key} {o:O} (hk:Γ'.ι k=Γ.ι k) (ho:o.okP f g=true) (h:Own Γ w k o):Own Γ' w k o:=by
 cases o with
 |box x=>
  obtain⟨b,cells,T,h1,h2,h3,h4,h5,h6,h7⟩:=h;exact⟨b,cells,T,by rw[hk];exact h1,by rw[hs.H];exact h2,by rw[hs.Z];exact h3,h4,h5,AA.sub hs x ho h6,h7⟩
 |map kτ vτ es=>
  obtain⟨b,ms,clock,h1,h2,h3,h4,h5,h6,h7⟩:=h;refine⟨b,ms,clock,by rw[hk];exact h1,by rw[hs.H];exact h2,by rw[hs.Z];exact h3,h4,h5,fun i m c hm hc=>?_,h7⟩;obtain⟨a1,a2,a3,a4⟩:=h6 i m c hm hc;simp only[O.okP,od]at ho;rcases ho with ho|ho;{exact⟨by rw[hs.H];exact a1,a2,AA.plain hs.H _ (by rw[a4.2.1];exact ho) a3,a4⟩};{exact⟨by rw[hs.H];exact a1,a2,AA.sub hs _ (tF ho hc) a3,a4⟩}
 |it l pos=>
  obtain⟨b,adr,v,h1,h2,h3,h4,h5,h6,h7⟩:=h;refine⟨b,adr,v,by rw[hk];exact h1,by rw[hs.H];exact h2,by rw[hs.Z];exact h3,h4,h5,h6,?_⟩;rcases h7 with h7|⟨g,cap,g1,g2,g3,g4⟩;{exact .inl h7};{exact .inr ⟨g,cap,g1,by rw[hs.H];exact g2,by rw[hs.κ g _ _ _ g3];exact g3,g4⟩}
 |dead τ=>
  obtain⟨b,h1,h4⟩:=h;exact⟨b,by rw[hk];exact h1,h4⟩
theorem Own.BZ {w:World} {k:Key} {o o':O} (hi:O.BZ o o') (h:Own Γ w k o):Own Γ w k o':=by
 cases o' with
 |dead τ=>
  have e:τ=o.ty:=by cases o <;> exact hi
  obtain⟨b,τ',h1,_,h4,h5⟩:=h.block;exact⟨b,by rw[e,<-h5];exact h1,h4⟩
 |box y=>cases o with
  |box x=>
   obtain⟨b,cells,T,h1,h2,h3,h4,h5,h6,h7,h8⟩:=h;obtain⟨i1,ht,i2,i3⟩:=hi;obtain⟨r1,_⟩:=AA.BZ y x i1 h6;exact⟨b,cells,T,by rw[ht];exact h1,h2,h3,h4,by rw[ht];exact h5,by rw[ht];exact r1,i2,i3⟩
  |_=>exact hi.elim
 |map kτ vτ es=>cases o with
  |map=>obtain⟨rfl,rfl,rfl⟩:=hi;exact h
  |_=>exact hi.elim
 |it l p=>cases o with
  |it=>obtain⟨rfl,rfl⟩:=hi;exact h
  |_=>exact hi.elim
theorem O.q2J {o o':O} (hi:O.BZ o o') (h:o.Jr):o'.Jr:=by
 cases o' with
 |dead=>trivial|box y=>cases o with
  |box x=>
   obtain⟨e,rfl⟩:=h;obtain⟨i1,_,i2,_⟩:=hi;cases y <;> simp only[V.BZ,rp,reduceCtorEq,or_self,fq]at i1 i2;obtain⟨h1,rfl⟩:=i1;simp only[Cl,Option.some.injEq]at h1;subst h1;exact⟨e,rfl⟩
  |_=>exact hi.elim
 |map kτ vτ es=>cases o with|map=>exact h.elim|_=>exact hi.elim
 |it l p=>cases o with|it=>exact h.elim|_=>exact hi.elim
theorem O.pB {o o':O} (hi:O.BZ o o') (h:o.FL=true):o'.FL=true:=by cases o <;> simp[O.FL]at h;cases o' <;> first|rfl|exact hi.elim
end
end
section
def GZ (s:S):List (Key × O)->Prop
 | []=>True|(k,o)::l=>(match s.obj k with|some o0=>O.BZ o0 o|none=>False)/\GZ s l
def EJ (τ:Ty):List (C × V)->Bool
 | []=>true|(_,v)::l=>(match v with| .d τ' _=>Ty.beq τ' τ|_=>false)&&EJ τ l
theorem iE {f g:Nat->Bool} {τ:Ty}:∀{es:List (C × V)},EJ τ es=true->V.Ds f g es=true
 | [],_=>rfl|(_,v)::l,h=>by simp only[EJ,bg]at h;simp only[V.Ds,bg];refine⟨?_,iE h.2⟩;cases v <;> simp at h;rfl
def O.okB (f g:Nat->Bool):O->Bool
 | .map _ vτ es=>vτ.Ey||EJ vτ es|o=>o.ok f g
theorem O.q5I {f g:Nat->Bool} {o:O} (h:o.okB f g=true):o.okP f g=true:=by
 cases o with
 |map kτ vτ es=>
  simp only[O.okB,O.okP,od]at h ⊢;exact h.imp id iE
 |_=>exact h
def Fy (f g:Nat->Bool):List (Key × O)->Bool
 | []=>true|(_,o)::l=>o.okB f g&&Fy f g l
def Ij (L:List (Key × O)) (A:Key->Option O):List (Key × O)->Prop
 | []=>True|(.g k,o)::l=>((AZ L (.g k)).isSome=true\/A k=some o)/\Ij L A l|(.l _,_)::l=>Ij L A l
def IB (f g:Nat->Bool) (s:S):List (Nat × V)->Prop
 | []=>True|(i,x)::l=>V.BZ (s.get i) x/\x.ok f g=true/\(x= .any\/x.ty.isAgg=(s.get i).ty.isAgg)/\IB f g s l
def tkW (s:S):List (Nat × Option Nat)->Prop
 | []=>True|(t,x)::l=>(match x with|some L=>s.live t=some L|none=>s.known t=true)/\tkW s l
theorem VW {s:S}:∀{l:List (Key × O)} {k:Key} {o:O},GZ s l->AZ l k=some o->∃o0,s.obj k=some o0/\O.BZ o0 o
 | [],_,_,_,h=>by simp[AZ]at h
 |(j,p)::l,k,o,hw,h=>by simp only[AZ]at h;split at h;{rename_i e;cases h;subst e;have:=hw.1;split at this;{rename_i o0 ho;exact⟨o0,ho,this⟩};{exact this.elim}};{exact VW hw.2 h}
theorem rG {f g:Nat->Bool}:∀{l:List (Key × O)} {k:Key} {o:O},Fy f g l=true->AZ l k=some o->o.okP f g=true
 | [],_,_,_,h=>by simp[AZ]at h
 |(j,p)::l,k,o,hw,h=>by simp only[AZ]at h;simp only[Fy,bg]at hw;split at h;{cases h;exact O.q5I hw.1};{exact rG hw.2 h}
theorem Xk {L:List (Key × O)} {A:Key->Option O}:∀{l:List (Key × O)} {k:Key} {o:O},Ij L A l->AZ l (.g k)=some o->(AZ L (.g k)).isSome=true\/A k=some o
 | [],_,_,_,h=>by simp[AZ]at h
 |(.l j,p)::l,k,o,hw,h=>by simp[AZ]at h;exact Xk (l:=l) hw h
 |(.g j,p)::l,k,o,hw,h=>by simp only[AZ]at h;split at h;{rename_i e;cases e;cases h;exact hw.1};{exact Xk hw.2 h}
theorem Yl {f g:Nat->Bool} {s:S}:∀{l:List (Nat × V)} {i:Nat} {x:V},IB f g s l->look l i=some x->V.BZ (s.get i) x/\x.ok f g=true/\(x= .any\/x.ty.isAgg=(s.get i).ty.isAgg)
 | [],_,_,_,h=>by simp[look]at h
 |(j,y)::l,i,x,hw,h=>by simp only[look]at h;split at h;{rename_i e;cases h;subst e;exact⟨hw.1,hw.2.1,hw.2.2.1⟩};{exact Yl hw.2.2.2 h}
theorem fU {s:S}:∀{l:List (Nat × Option Nat)} {t:Nat} {x:Option Nat},tkW s l->look l t=some x->match x with|some L=>s.live t=some L|none=>s.known t=true
 | [],_,_,_,h=>by simp[look]at h
 |(j,y)::l,t,x,hw,h=>by simp only[look]at h;split at h;{rename_i e;cases h;subst e;exact hw.1};{exact fU hw.2 h}
section
variable {Γ:G} {w:World} {s:S}
theorem Vw {s':S} (hA:s'.A=s.A) (hg:Ij s'.loc s.A s.loc) {k:Key} (h:AZ s'.loc (.g k)=none):s'.obj (.g k)=s.obj (.g k):=by
 unfold jt Cs;rw[h];simp only;cases ho:AZ s.loc (.g k)with
 |none=>rw[hA]|some o=>
  rcases Xk hg ho with h1|h1;{rw[h]at h1;cases h1};{rw[hA];exact h1}
theorem AY.sub (c:AY Γ w s) {Γ':G} {f g:Nat->Bool} {s':S} (hs:Sub Γ Γ' f g) (hf:f=Cd s'.loc) (hι:∀n,f n=false->Γ'.ι (.l n)=none) (hA:s'.A=s.A) (zd:AOk s.A)
  (z8l:GZ s s'.loc) (z8w:Fy f g s'.loc=true) (hg:Ij s'.loc s.A s.loc)
  (hκ:∀b o sz,Γ'.κ b=some (o,sz)->∃o',Γ.κ b=some (o',sz)/\∀T,MN o' T->MN o T)
  (tok:∀t L,s'.live t=some L->∃x,Γ'.τ t=some (x,L)/\∀b pos sz,x=some (b,pos,sz)->(∃l,Γ.H b=some l/\l.length=pos)/\Γ'.κ b=some (.tok t,sz))
  (yu:∀t,Γ'.τ t≠none->s'.known t=true):AY Γ' w s':=by
 subst hf;have hfl:∀n,Cd s'.loc n=true↔AZ s'.loc (.l n)≠none:=by intro n;unfold Cd;cases AZ s'.loc (.l n) <;> simp
 have z99:∀k o,s'.obj k=some o->Γ'.ι k=Γ.ι k:=by
  intro k o h;cases k with
  |g k=>exact hs.ιg k|l n=>
   refine hs.ιl n ?_;rw[hfl];unfold jt Cs at h;intro e;rw[e]at h;cases h
 refine⟨fun b l h=>c.hH b l (by rw[<-hs.H];exact h),fun b o h=>c.hZ b o (by rw[<-hs.Z];exact h),fun b o sz h=>?_,fun k o h=>?_,fun k h=>?_,fun k k' b τ τ' h1 h2=>?_,fun t L h=>?_,yu,fun gg τ cc h=>?_,by rw[hs.oo];exact c.hoo,fun b sz h=>c.hσ b sz (by rw[<-hs.σ];exact h)⟩;{obtain⟨o',h',hT⟩:=hκ b o sz h;obtain⟨a1,a2,arr,T,a3,a4,a5⟩:=c.hκ b o' sz h';exact⟨by rw[hs.Z];exact a1,by rw[hs.H];exact a2,arr,T,a3,a4,hT T a5⟩}
 ·have hk:=z99 k o h;cases hl:AZ s'.loc k with
  |some o1=>
   have:o1=o:=by unfold jt Cs at h;rw[hl]at h;cases h;rfl
   subst this;obtain⟨o0,ho,hi⟩:=VW z8l hl;exact(c.obj k o0 ho).imp (fun h=>⟨hk.trans h.1,O.q2J hi h.2⟩) fun yp=>(yp.BZ hi).sub hs hk (rG z8w hl)
  |none=>
   cases k with
   |l n=>unfold jt Cs at h;rw[hl]at h;cases h
   |g k=>
    have h':s.obj (.g k)=some o:=by rw[<-Vw hA hg hl];exact h
    have hAk:s.A k=some o:=by
     have h2:s'.A k=some o:=by unfold jt Cs at h;rw[hl]at h;exact h
     rw[<-hA];exact h2
    exact(c.obj _ o h').imp (fun h=>⟨hk.trans h.1,h.2⟩) fun yp=>yp.sub hs hk (O.q5J (O.SV (by simp[CQ]) (by simp[CQ]) o (zd k o hAk)))
 ·cases k with
  |l n=>
   cases hh:Cd s'.loc n with
   |false=>exact absurd (hι n hh) h|true=>
    have:=(hfl n).1 hh;unfold jt Cs;cases hl:AZ s'.loc (.l n)with
    |none=>exact absurd hl this|some o=>simp
  |g k=>
   rw[hs.ιg]at h;have:=c.dom _ h;cases hl:AZ s'.loc (.g k)with
   |some o=>unfold jt Cs;rw[hl];simp|none=>rw[Vw hA hg hl];exact this
 ·have back:∀k x,Γ'.ι k=some x->Γ.ι k=some x:=by
   intro k x h;cases k with
   |g k=>rw[<-hs.ιg];exact h|l n=>
    cases hh:Cd s'.loc n with
    |false=>rw[hι n hh]at h;cases h
    |true=>rw[<-hs.ιl n hh];exact h
  have yv:∀k x,Γ'.ι k=some x->s.CY k=true->s'.CY k=true:=by
   intro k x hx h;cases hl:AZ s'.loc k with
   |some o1=>
    obtain⟨o0,ho,hi⟩:=VW z8l hl;rw[FV ho]at h;have e:s'.obj k=some o1:=by unfold jt Cs;rw[hl]
    rw[FV e];exact O.pB hi h
   |none=>
    cases k with
    |g k=>unfold S.CY at h ⊢;rw[Vw hA hg hl];exact h|l n=>
     cases hh:Cd s'.loc n with
     |false=>rw[hι n hh]at hx;cases hx
     |true=>exact absurd hl ((hfl n).1 hh)
  exact(c.inj k k' b τ τ' (back _ _ h1) (back _ _ h2)).imp id (And.imp (Or.imp (yv _ _ h1) (yv _ _ h2)) id)
 ·obtain⟨x,a1,a2⟩:=tok t L h;refine⟨x,a1,fun b pos sz hx=>?_⟩;obtain⟨a3,a4⟩:=a2 b pos sz hx;exact⟨by rw[hs.H];exact a3,a4⟩
 ·rw[hs.H];exact c.hgl gg τ cc (by rw[<-hs.gl];exact h)
end
def G.part (Γ:G) (f g:Nat->Bool):G:=
 {Γ with ι:=fun k=>match k with| .l n=>if f n then Γ.ι (.l n)else none| .g k=>Γ.ι (.g k),τ:=fun t=>if g t then Γ.τ t else none}
theorem y8 {X:Cx} {n:Nat} {s s':S} (hA:s'.A=s.A) (z8l:GZ s s'.loc) (z8w:Fy (Cd s'.loc) (DW s'.tk) s'.loc=true) (hg:Ij s'.loc s.A s.loc)
  (htk:tkW s s'.tk) (zk:IB (Cd s'.loc) (DW s'.tk) s s'.env):EI X n s s':=by
 rintro Γ0 a w ⟨Γ,g1,g3,c,hs,hn,hf,zd⟩
 have sub:Sub Γ (Γ.part (Cd s'.loc) (DW s'.tk)) (Cd s'.loc) (DW s'.tk):=
  ⟨rfl,rfl,rfl,rfl,rfl,fun _=>rfl,fun n h=>by simp[G.part,h],fun t h=>by simp[G.part,h],fun _ _ _ _ _=>rfl⟩
 refine⟨Γ.part (Cd s'.loc) (DW s'.tk),⟨g1.H,g1.Z,g1.ZH,g1.g,g1.gl,g1.oo,g1.σ,g1.gn⟩,g3,c.sub sub rfl (fun n h=>by simp[G.part,h]) hA zd z8l z8w hg (fun b o sz h=>⟨o,h,fun _ h=>h⟩) (fun t L h=>?_) (fun t h=>?_),fun i=>?_,hn,hf,by rw[hA];exact zd⟩
 ·unfold S.live Ed at h;cases hl:look s'.tk t with
  |none=>simp[hl]at h|some x=>
   cases x with
   |none=>simp[hl]at h|some M=>
    simp[hl]at h;subst h;have z8i:s.live t=some M:=fU htk hl;obtain⟨x,a1,a2⟩:=c.tok t M z8i;exact⟨x,by simp[G.part,DW,hl,a1],fun b pos sz hx=>a2 b pos sz hx⟩
 ·cases hh:DW s'.tk t with|true=>exact hh|false=>simp[G.part,hh]at h
 ·cases hl:look s'.env i with
  |none=>simp[xg,hl,AK]|some x=>
   obtain⟨e1,e2,e3⟩:=Yl zk hl;have z8t:s'.get i=x:=by simp[xg,hl]
   rw[z8t];by_cases hx:x= .any;{subst hx;trivial}
   ·have hr:=hs i;have e3:=e3.resolve_left hx;refine AK.sub sub e2 ?_;cases hsi:s.get i with
    |any=>
     rw[hsi]at e1;cases x <;> simp[V.BZ,Cl]at e1 hx
    |tup us=>
     rw[hsi]at e1 hr;cases x <;> simp[V.BZ,Cl]at e1 hx;subst e1;exact hr
    |_=>
     rw[hsi]at e1 hr e3;have hpl:AA Γ none [] _ (a.tmps.getD i undef).cells.toList/\_:=hr;obtain⟨r1,r2⟩:=AA.BZ x _ e1 hpl.1;have hxp:=V.Sa r1 hx;exact(Ca hxp).2 ⟨r1,by rw[e3];exact hpl.2⟩
end
section
def Nd (X:Cx) (s:S) (r:ResultVar):V:=
 match r with
 | .tmp t=>s.get t| .cell a t=>(match s.get a with| .ptr k q τ=>(match s.obj k with|some (.box y)=>view (y.at q)|_=>.any)|_=>.any)
def Fh (X:Cx) (s:S):List ResultVar->List V
 | []=>[]|r::rs=>Nd X s r::Fh X s rs
def QM (X:Cx) (s:S) (r:ResultVar):Prop:=
 match r with
 | .tmp _=>True| .cell a t=>(match s.get a with| .ptr k q τ=>(match s.obj k with|some (.box y)=>τ=ty X.P t/\τ.known=true/\y.at q≠.any|_=>False)|_=>False)
def QO (X:Cx) (s:S):List ResultVar->Prop
 | []=>True|r::rs=>QM X s r/\QO X s rs
def HW (s:S) (f:Nat->Bool) (x:V) (v:V):Prop:=
 match v with
 | .ts eb e cs=>(match x with| .sl eb' e' cs' t=>eb'=eb/\e'=e/\cs'=cs/\s.live t=some cs.length| .emp eb' e'=>eb'=eb/\e'=e/\cs=[]| .ye=>cs=[]|_=>False)|v=>V.BZ x v/\v.ok f CQ=true/\v.plain=true/\v.ty.isAgg=x.ty.isAgg
def IV (s:S) (f:Nat->Bool):List V->List V->Prop
 | [],[]=>True|x::xs,v::vs=>HW s f x v/\IV s f xs vs|_,_=>False
def Kc:List V->V->Option (List V)
 | [_],v=>some [v]|_,.tup vs=>some vs|_,_=>none
def GN:Nat->List V->List V->List (Nat × Option Nat)
 |m,x::xs,v::vs=>(match v,x with| .ts _ _ _,.sl _ _ _ t=>[(m,some t)]| .ts _ _ _,_=>[(m,none)]|_,_=>[])++GN (m+1) xs vs|_,_,_=>[]
def JF:List (Nat × Option Nat)->List Nat
 | []=>[]|(_,some t)::l=>t::JF l|(_,none)::l=>JF l
def Ez (X:Cx) (fn:Func) (A:Key->Option O) (v:V) (L:List (Key × O)) (s:S):Prop:=
 s.A=A/\GZ s L/\Fy (Cd L) CQ L=true/\Ij L A s.loc/\QO X s fn.results.toList/\
  (match Kc (Fh X s fn.results.toList) v with|some vs=>IV s (Cd L) (Fh X s fn.results.toList) vs/\HB (JF (GN 2000 (Fh X s fn.results.toList) vs))=true|none=>False)
def Pn:List (Nat × Option Nat)->Nat->Option Nat
 | [],_=>none|(m,some t)::l,u=>if t=u then some m else Pn l u|(_,none)::l,u=>Pn l u
theorem cG:∀{l:List (Nat × Option Nat)} {m t:Nat},HB (JF l)=true->look l m=some (some t)->Pn l t=some m
 | [],_,_,_,h=>by simp[look]at h
 |(j,y)::l,m,t,hn,h=>by
  simp only[look]at h;split at h;{rename_i e;cases h;subst e;simp[Pn]}
  ·cases y with
   |none=>exact cG (l:=l) hn h|some u=>
    simp only[JF,HB,bg,je]at hn;have ih:=cG hn.2 h;have hne:u≠t:=by
     intro e;subst e;have hm:∀{l:List (Nat × Option Nat)} {m:Nat},look l m=some (some u)->u∈JF l:=by
      intro l
      induction l with
      |nil=>intro m h;simp[look]at h|cons z l ih=>
       obtain⟨j',y'⟩:=z;intro m h;simp only[look]at h;split at h;{cases h;simp[JF]};{cases y' with|none=>exact ih h|some t'=>simp[JF,ih h]}
     have:=hm h;simp[this]at hn
    simp[Pn,hne,ih]
def G.fin (Γ:G) (f:Nat->Bool) (zv:List (Nat × Option Nat)):G:=
 {Γ with
  ι:=fun k=>match k with| .l n=>if f n then Γ.ι (.l n)else none| .g k=>Γ.ι (.g k)
  τ:=fun m=>match look zv m with|some (some t)=>Γ.τ t|some none=>some (none,0)|none=>none
  κ:=fun b=>match Γ.κ b with
   |some (.tok t,sz)=>match Pn zv t with|some m=>some (.tok m,sz)|none=>none
   |x=>x}
theorem Wl:∀{n:Nat} {xs vs:List V} {m:Nat},look (GN n xs vs) m=if n<=m then(match xs[m-n]?,vs[m-n]? with|some (.sl _ _ _ t),some (.ts _ _ _)=>some (some t)|some _,some (.ts _ _ _)=>some none|_,_=>none)else none
 |n,[],vs,m=>by simp[GN,look]
 |n,x::xs,[],m=>by simp only[GN,look];split <;> simp
 |n,x::xs,v::vs,m=>by
  simp only[GN,NG];have ih:=Wl (n:=n+1) (xs:=xs) (vs:=vs) (m:=m);by_cases h1:n=m
  ·subst h1;have hr:look (GN (n+1) xs vs) n=none:=by rw[ih,if_neg (by omega)]
   cases v <;> cases x <;> simp[look,hr]
  ·have h0:look (match v,x with| .ts _ _ _,.sl _ _ _ t=>[(n,some t)]| .ts _ _ _,_=>[(n,none)]|_,_=>[]) m=none:=by cases v <;> cases x <;> simp[look,h1]
   rw[h0,ih];by_cases h2:n<=m;{rw[if_pos h2,if_pos (by omega),show m-n=(m-(n+1))+1 by omega];simp only[fu]};{rw[if_neg h2,if_neg (by omega)]}
section
variable {X:Cx} {n:Nat} {s:S}
def TJ (a:Act):ResultVar->Sem Value
 | .tmp t=>pure (a.tmps.getD t undef)| .cell b t=>do loadVar t (<-asAddr (a.tmps.getD b undef))
theorem q8c (fn:Func) (a:Act):results fn a.tmps=(do
  let vs <-fn.results.mapM (TJ a)
  pure (if h:vs.size=1 then vs[0]else .tuple vs)):=by
 unfold results;congr 2
theorem q8z (hP:BS X.P=true) {Γ:G} {w:World} {a:Act} (c:AY Γ w s) (hs:Gm Γ s a.tmps) {r:ResultVar} (hch:QM X s r):
  ∃v,(TJ a r).run X.P w= .ok v w/\AK Γ (Nd X s r) v:=by
 cases r with
 |tmp t=>exact⟨_,rfl,hs t⟩|cell b t=>
  have hb:=hs b;simp only[QM]at hch;split at hch;{rename_i k q τ hk;rw[hk]at hb;split at hch;{rename_i y hy;obtain⟨u,h1,h2⟩:=aA hP c hb hy hch.2.2 hch.1 hch.2.1;obtain⟨b',τ0,o,_,_,hv⟩:=HF hb;refine⟨u,?_,?_⟩;{rw[hv]at h1;simp only[TJ,hv];simpa[Instr.loadAt,Instr.sureAddr,asAddr]using h1};{simp only[Nd,hk,hy];exact h2}};{exact hch.elim}};{exact hch.elim}
theorem xX (hP:BS X.P=true) {Γ:G} {w:World} {a:Act} (c:AY Γ w s) (hs:Gm Γ s a.tmps):∀(rs:List ResultVar),QO X s rs->
  ∃vs:List Value,(rs.mapM (TJ a)).run X.P w= .ok vs w/\vs.length=rs.length/\
   ∀(i:Nat) x v,(Fh X s rs)[i]? =some x->vs[i]? =some v->AK Γ x v
 | [],_=>⟨[],by simp,rfl,by simp[Fh]⟩|r::rs,hpl=>by simp only[QO]at hpl;obtain⟨v,h1,h2⟩:=q8z hP c hs hpl.1;obtain⟨vs,h3,h4,h5⟩:=xX hP c hs rs hpl.2;refine⟨v::vs,?_,by simp[h4],?_⟩;{rw[List.mapM_cons];simp only[cz];rw[h1];simp only[cu,cz];rw[h3];simp};{intro i x u hx hu;cases i with|zero=>simp[Fh]at hx hu;subst hx;subst hu;exact h2|succ i=>exact h5 i x u (by simpa[Fh]using hx) (by simpa using hu)}
theorem xF:∀(rs:List ResultVar),(Fh X s rs).length=rs.length
 | []=>rfl|r::rs=>by simp[Fh,xF rs]
theorem QN {f:Nat->Bool}:∀{xs vs:List V} {i:Nat} {v:V},IV s f xs vs->vs[i]? =some v->∃x,xs[i]? =some x/\HW s f x v
 | [],[],_,_,_,h=>by simp at h
 |x::xs,v::vs,0,v',hr,h=>by simp at h;subst h;exact⟨x,rfl,hr.1⟩
 |x::xs,v::vs,i+1,v',hr,h=>by obtain⟨y,h1,h2⟩:=QN hr.2 (show vs[i]? =some v' by simpa using h);exact⟨y,by simpa using h1,h2⟩
 | [],_::_,_,_,hr,_=>by simp[IV]at hr
 |_::_,[],_,_,hr,_=>by simp[IV]at hr
theorem xD {f:Nat->Bool}:∀{xs vs:List V},IV s f xs vs->xs.length=vs.length
 | [],[],_=>rfl|x::xs,v::vs,h=>by simp[xD h.2]
 | [],_::_,hr=>by simp[IV]at hr
 |_::_,[],hr=>by simp[IV]at hr
theorem q8a {Γ:G} {w:World} (c:AY Γ w s) {f:Nat->Bool} {zv:List (Nat × Option Nat)} {m:Nat} {x v:V} {u:Value} (z8Z:Sub Γ (Γ.fin f zv) f CQ) (hr:AK Γ x u) (hi:HW s f x v)
  (hp:∀eb e cs,v= .ts eb e cs->match x with| .sl _ _ _ t=>look zv m=some (some t)|_=>look zv m=some none):AK (Γ.fin f zv) (v.slot m) u:=by
 have other:v.Lj=true->V.BZ x v/\v.ok f CQ=true/\v.plain=true/\v.ty.isAgg=x.ty.isAgg->AK (Γ.fin f zv) (v.slot m) u:=by
  intro hn ⟨h1,h2,h3,h4⟩;have hvs:v.slot m=v:=by cases v <;> simp[xz];simp[V.Lj]at hn
  rw[hvs];refine AK.sub z8Z h2 ?_;cases x with
  |any=>
   cases v <;> simp[V.BZ,Cl,rp]at h1 h3
  |tup us=>
   cases v <;> simp[V.BZ,Cl,rp]at h1 h3
  |_=>
   obtain⟨q1,q2⟩:=hr;obtain⟨r1,_⟩:=AA.BZ v _ h1 q1;exact(Ca h3).2 ⟨r1,by rw[h4];exact q2⟩
 cases v
 case ts eb e cs=>
  have hp:=hp eb e cs rfl;simp only[HW]at hi;cases x <;> simp only at hi hp
  case sl eb' e' cs' t=>
   obtain⟨rfl,rfl,rfl,hl⟩:=hi;obtain⟨h1,_⟩:=(Ch rfl rfl).1 hr;simp only[AA]at h1;obtain⟨a,n,cap,hv,hrc,y,L,h2,h3,h4⟩:=h1;simp at hv;subst hv;simp only[xz];refine(Ch rfl rfl).2 ⟨?_,rfl⟩;simp only[AA];exact⟨a,n,cap,rfl,hrc,y,L,by simp[G.fin,hp,h2],h3,h4⟩
  case emp eb' e'=>
   obtain⟨rfl,rfl,rfl⟩:=hi;obtain⟨h1,_⟩:=(Ch rfl rfl).1 hr;simp only[AA]at h1;obtain⟨a,hv⟩:=h1;simp at hv;subst hv;simp only[xz];refine(Ch rfl rfl).2 ⟨?_,rfl⟩;simp only[AA];exact⟨a,0,0,rfl,Eg rfl (bx _) (dr _) (by rw[gq];exact dr _) (.inl rfl),none,0,by simp[G.fin,hp],bx _,fun _=>rfl⟩
  case ye=>
   subst hi;have hp2:look zv m=some none:=by assumption
   rw[GM hr];simp only[xz];refine(Ch rfl rfl).2 ⟨?_,rfl⟩;simp only[AA];exact⟨none,0,0,rfl,Eg rfl (bx _) (dr _) (by rw[gq];exact dr _) (.inl rfl),none,0,by simp[G.fin,hp2],bx _,fun _=>rfl⟩
 all_goals exact other rfl (by simpa only[HW]using hi)
theorem X3 {Γ:G}:∀(xs:List V) (vs:List Value),xs.length=vs.length->(∀(i:Nat) x,xs[i]? =some x->x.plain=true)->(∀(i:Nat) x v,xs[i]? =some x->vs[i]? =some v->AK Γ x v)->Bb Γ xs vs:=
 fun xs vs hl hp hr=>TB hl fun i x v hx hv=>⟨hp i x hx,hr i x v hx hv⟩
theorem rQ:∀(xs:List V) (i j:Nat),look (Pf i xs) j=if i<=j then xs[j-i]? else none
 | [],i,j=>by simp[Pf,look]
 |x::xs,i,j=>by simp only[Pf,look,rQ xs (i+1) j];by_cases h1:i=j;{subst h1;simp};{rw[if_neg h1];by_cases h2:i<=j;{rw[if_pos h2,if_pos (by omega),show j-i=(j-(i+1))+1 by omega,fu]};{rw[if_neg h2,if_neg (by omega)]}}
theorem Jx (hP:BS X.P=true) {f:FuncId} {fn:Func} {c:Code} {xs:List V} {A:Key->Option O} {v:V} {L:List (Key × O)}
  (hf:X.P.funcs[f]? =some fn) (hb:fn.body=some c) (hn:fn.ntmps=n) (hlen:xs.length<=n)
  (h:∀A',(∀k o,A k=some o->A' k=some o)->DC X n c (mb xs A') fun e s'=>(e= .normal\/e= .ret)/\Ez X fn A' v L s'):Cc X f xs A v L:=by
 intro A' Γ w args hAA hgl ⟨c0,hA0⟩ yt yr;subst hn;refine calls_of_wp hf hb ?_;refine wp_mono (h A' hAA Γ {tmps:=args++ku (fn.ntmps-args.size) undef,defers:=[]} w ⟨Γ,.refl Γ,hgl,c0,?_,by simp;omega,rfl,hA0⟩) ?_
 ·intro i;have z8t:(mb xs A').get i=((Db 1000 xs)[i]?).getD .any:=by simp only[xg,mb,rQ,dr,if_true,Nat.sub_zero]
  rw[z8t];cases hx:(Db 1000 xs)[i]? with
  |none=>simp[AK]|some x=>
   have hi:i<args.size:=by rw[<-yt,<-fB 1000 xs];exact(cd.1 hx).1
   have hv:args[i]? =some args[i]:=Array.getElem?_eq_getElem hi;have:=yr i x _ hx hv;rw[ib,Array.getElem?_append_left hi,hv];simpa using this
 ·rintro e a w' ⟨s',⟨he,hA,hL,y0D,yq,hch,z8D⟩,Γ',g1,g3,c',hs,hn,hfr,zd⟩;obtain⟨us,hvs,hvl,hvr⟩:=xX hP c' hs _ hch;split at z8D
  ·rename_i vs zh;obtain⟨hri,hnd⟩:=z8D;generalize hxs:Fh X s' fn.results.toList=rs at*;have hrl:rs.length=fn.results.toList.length:=by rw[<-hxs];exact xF _
   have z8Z:Sub Γ' (Γ'.fin (Cd L) (GN 2000 rs vs)) (Cd L) CQ:=
    ⟨rfl,rfl,rfl,rfl,rfl,fun _=>rfl,fun n h=>by simp[G.fin,h],fun t h=>by simp[CQ]at h,fun b k p sz h=>by simp[G.fin,h]⟩
   have hvlen:=xD hri;have hul:us.length=rs.length:=by rw[hvl,hrl]
   -- what the places of the result's tokens are
   have htk:∀m,look (v.tkR 2000) m=if 2000<=m then(match vs[m-2000]? with|some (.ts _ _ cs)=>some (some cs.length)|_=>none)else none:=by
    intro m;cases rs with
    |nil=>cases v <;> simp[Kc]at zh;subst zh;simp only[V.tkR,Tc] <;> rfl
    |cons x1 rs1=>cases rs1 with
     |nil=>
      simp only[Kc]at zh;cases zh;obtain⟨x',_,hi'⟩:=QN hri (i:=0) (v:=v) rfl;have hnt:v.tkR 2000=v.EH 2000:=by cases v <;> simp[V.tkR];simp[HW,rp]at hi'
      rw[hnt,zM];by_cases hm:2000=m;{subst hm;simp;cases v <;> rfl};{rw[if_neg hm];by_cases hm2:2000<=m;{rw[if_pos hm2,show m-2000=(m-2001)+1 by omega];simp};{rw[if_neg hm2]}}
     |cons x2 rs2=>cases v <;> simp[Kc]at zh;subst zh;simp only[V.tkR,Tc] <;> rfl
   have z9R:AY (Γ'.fin (Cd L) (GN 2000 rs vs)) w' (S.fin v L A'):=by
    refine c'.sub (s':=S.fin v L A') z8Z rfl (fun n h=>by simp[G.fin,show Cd L n=false from h]) hA.symm zd hL y0D (hA ▸ yq) (fun b o sz h=>?_) (fun m M h=>?_) (fun m h=>?_)
    ·simp only[G.fin]at h;cases hk:Γ'.κ b with
     |none=>simp[hk]at h|some y=>
      obtain⟨o',sz'⟩:=y;cases o' with
      |home k p=>simp[hk]at h;exact⟨_,by rw[h.2],fun T hT=>by rw[<-h.1];exact hT⟩|tok t=>
       simp only[hk]at h;split at h;{simp at h;exact⟨_,by rw[h.2],fun T _=>by rw[<-h.1];trivial⟩};{cases h}
    · -- a live token of the result
     have h:look (v.tkR 2000) m=some (some M):=by
      unfold S.live Ed at h;change (match look (v.tkR 2000) m with|some (some L)=>some L|_=>none)=some M at h;cases hl:look (v.tkR 2000) m with
      |none=>simp[hl]at h|some y=>cases y with|none=>simp[hl]at h|some M'=>simp[hl]at h;rw[h]
     rw[htk]at h;by_cases hm:2000<=m
     ·rw[if_pos hm]at h;cases hv:vs[m-2000]? with
      |none=>simp[hv]at h|some v1=>
       obtain⟨x1,hx1,hi1⟩:=QN hri hv;cases v1 <;> simp[hv]at h;rename_i eb e cs;subst h;have zp:=Wl (n:=2000) (xs:=rs) (vs:=vs) (m:=m);rw[if_pos hm,hx1,hv]at zp;simp only[HW]at hi1;cases x1 <;> simp only at hi1 zp;{obtain⟨rfl,rfl,rfl,z8i⟩:=hi1;rename_i cs' t;obtain⟨y,a1,a2⟩:=c'.tok t _ z8i;refine⟨y,by simp[G.fin,zp,a1],fun b pos sz hy=>?_⟩;obtain⟨a3,a4⟩:=a2 b pos sz hy;exact⟨a3,by simp[G.fin,a4,cG hnd zp]⟩};{obtain⟨rfl,rfl,rfl⟩:=hi1;exact⟨none,by simp[G.fin,zp],fun b pos sz h=>by cases h⟩};{subst hi1;exact⟨none,by simp[G.fin,zp],fun b pos sz h=>by cases h⟩}
     ·rw[if_neg hm]at h;cases h
    · -- tokens known
     have:look (GN 2000 rs vs) m≠none:=by intro e;simp[G.fin,e]at h
     rw[Wl]at this;unfold S.known;change (look (v.tkR 2000) m).isSome=true;rw[htk];by_cases hm:2000<=m
     ·rw[if_pos hm]at this ⊢;cases hv:vs[m-2000]? with
      |none=>rw[hv]at this;cases hx1:rs[m-2000]? with|none=>simp[hx1]at this|some x1=>simp[hx1]at this
      |some v1=>
       rw[hv]at this;cases v1
       case ts=>rfl
       all_goals (exfalso;cases hx1:rs[m-2000]? with|none=>simp[hx1]at this|some x1=>simp[hx1]at this)
     ·rw[if_neg hm]at this;exact absurd rfl this
   have z9C:(results fn a.tmps).run X.P w'= .ok (if h:us.length=1 then us[0]else .tuple us.toArray) w':=by
    have y0E:(fn.results.mapM (TJ a)).run X.P w'= .ok us.toArray w':=by rw[Array.mapM_eq_mapM_toList];simp only[Sem.run_map]at hvs ⊢;rw[hvs];rfl
    rw[q8c];simp only[cz];rw[y0E];simp only[cu,Sem.run_pure,iq];split <;> simp
   have z8e:∀(i:Nat) (v1:V) (u:Value),vs[i]? =some v1->us[i]? =some u->AK (Γ'.fin (Cd L) (GN 2000 rs vs)) (v1.slot (2000+i)) u:=by intro i v1 u hv1 hu;obtain⟨x1,hx1,hi1⟩:=QN hri hv1;refine q8a c' z8Z (hvr i x1 u hx1 hu) hi1 fun eb e cs hts=>?_;subst hts;have zp:=Wl (n:=2000) (xs:=rs) (vs:=vs) (m:=2000+i);rw[if_pos (by omega),show 2000+i-2000=i by omega,hx1,hv1]at zp;simp only[HW]at hi1;cases x1 <;> simp only at hi1 zp ⊢ <;> exact zp
   have hpl:∀(i:Nat) (x:V),(Db 2000 vs)[i]? =some x->x.plain=true:=by
    intro i x hx;rw[TQ]at hx;cases hv1:vs[i]? with
    |none=>simp[hv1]at hx|some v1=>
     simp[hv1]at hx;subst hx;obtain⟨x1,_,hi1⟩:=QN hri hv1;cases v1 <;> simp only[HW]at hi1 <;> first|rfl|(exact hi1.2.2.1)
   have hrv:AK (Γ'.fin (Cd L) (GN 2000 rs vs)) (v.Da 2000) (if h:us.length=1 then us[0]else .tuple us.toArray):=by
    by_cases h1:us.length=1
    ·rw[dif_pos h1];cases rs with
     |nil=>rw[hul]at h1;simp at h1|cons x1 rs1=>cases rs1 with
      |nil=>
       simp only[Kc]at zh;cases zh;have:=z8e 0 v us[0] rfl (bo (by omega));have hsr:v.Da 2000=v.slot 2000:=by cases v <;> simp[V.Da];obtain⟨x',_,hi'⟩:=QN hri (i:=0) rfl;simp[HW,rp]at hi'
       rw[hsr];exact this
      |cons x2 rs2=>rw[hul]at h1;simp at h1
    ·rw[dif_neg h1];have z8W:Bb (Γ'.fin (Cd L) (GN 2000 rs vs)) (Db 2000 vs) us:=X3 _ _ (by rw[fB];omega) hpl fun i x u hx hu=>by
      rw[TQ]at hx;cases hv1:vs[i]? with
      |none=>simp[hv1]at hx|some v1=>simp[hv1]at hx;subst hx;exact z8e i v1 u hv1 hu
     have hvt:v= .tup vs:=by
      cases rs with
      |nil=>cases v <;> simp[Kc]at zh;rw[zh]
      |cons x1 rs1=>cases rs1 with|nil=>exact absurd hul h1|cons x2 rs2=>cases v <;> simp[Kc]at zh;rw[zh]
     subst hvt;exact⟨_,rfl,by simpa using z8W⟩
   have z9S:GLe Γ' (Γ'.fin (Cd L) (GN 2000 rs vs)):=⟨Hp.le_refl _,rfl,fun _ _=>rfl,fun _ _ h=>h,rfl,rfl,fun _ _ h=>h,fun _ h=>h⟩;rcases he with rfl|rfl;{exact⟨hfr,_,z9C,_,_,rfl,g1.trans z9S,z9R,hrv⟩};{exact⟨hfr,_,z9C,_,_,rfl,g1.trans z9S,z9R,hrv⟩}
  ·exact z8D.elim
end
end
section
def dep (ops:List Oper) (i j:Nat):Prop:=∃o,ops[i]? =some o/\∃e∈o.after,ua .any e=true/\e.on=j
inductive Anc (ops:List Oper):Nat->Nat->Prop where
 |one {i j:Nat}:dep ops i j->Anc ops j i|step {i j k:Nat}:dep ops i k->Anc ops j k->Anc ops j i
theorem Anc.closed {ops:List Oper} {D:Nat->Prop} (hD:∀i j,D i->dep ops i j->D j) {i j:Nat} (h:Anc ops j i) (hi:D i):D j:=by
 induction h with
 |one h=>exact hD _ _ hi h|step h _ ih=>exact ih (hD _ _ hi h)
structure Res where
 t:Nat
 v:V
 lo:List (Key × O)
 tn:List (Nat × Option Nat)
 s1:S
def om (s:S):Key ⊕ Nat->Option (O ⊕ Option Nat)
 | .inl k=>(s.obj k).map .inl| .inr t=>(look s.tk t).map .inr
def Res.om (r:Res):Key ⊕ Nat->Option (O ⊕ Option Nat)
 | .inl k=>(AZ r.lo k).map .inl| .inr t=>(look r.tn t).map .inr
def S.step (s:S) (o:Oper) (r:Res):S:=
 bif r.t==0 then s.set o.dst r.v else bif r.t==1 then(s.add r.lo r.tn).set o.dst r.v else r.s1.set o.dst r.v
theorem bW (s:S) (d:Option Nat) (v:V):om (s.set d v)=om s:=by cases d <;> rfl
theorem Xa (s:S) (d:Option Nat) (v:V):(s.set d v).A=s.A:=by cases d <;> rfl
theorem tM (s:S) (lo:List (Key × O)) (tn:List (Nat × Option Nat)) (k:Key ⊕ Nat) {r:Res} (h1:r.lo=lo) (h2:r.tn=tn):om (s.add lo tn) k=match r.om k with|some x=>some x|none=>om s k:=by
 subst h1;subst h2;cases k with
 |inl k=>
  simp only[om,Res.om,S.add,jt,Cs,LZ];cases AZ r.lo k <;> rfl
 |inr t=>
  simp only[om,Res.om,S.add,NG];cases look r.tn t <;> rfl
theorem bX {s:S} {o:Oper} {r:Res} (h:r.t=0):om (s.step o r)=om s:=by unfold S.step;rw[h];exact bW _ _ _
theorem WA {s:S} {o:Oper} {r:Res} (h:r.t=1) (k:Key ⊕ Nat):om (s.step o r) k=match r.om k with|some x=>some x|none=>om s k:=by unfold S.step;rw[h];exact(congrFun (bW _ _ _) k).trans (tM s _ _ k rfl rfl)
theorem tN {s:S} {o:Oper} {r:Res} (h:r.t=2):om (s.step o r)=om r.s1:=by unfold S.step;rw[h];exact bW _ _ _
theorem q2l {s:S} {o:Oper} {r:Res} (h3:r.t=0\/r.t=1\/r.t=2) (h2:r.t=2->r.s1.env=s.env) (t:Nat):(s.step o r).get t=if o.dst=some t then r.v else s.get t:=by
 unfold S.step;rcases h3 with h|h|h;{rw[h];exact KF _ _ _ _};{rw[h];exact KF _ _ _ _}
 ·have e:r.s1.get t=s.get t:=by simp only[xg,h2 h]
  rw[h,<-e];exact KF _ _ _ _
theorem u6 {s:S} {o:Oper} {r:Res} (h3:r.t=0\/r.t=1\/r.t=2) (h2:r.t=2->r.s1.A=s.A):(s.step o r).A=s.A:=by unfold S.step;rcases h3 with h|h|h;{rw[h];exact Xa _ _ _};{rw[h];exact Xa _ _ _};{rw[h,<-h2 h];exact Xa _ _ _}
def Gl (ops:Array Oper) (s:S) (o:Oper):Option Bool:=
 match o.guard with
 |none=>some true|some (j,want)=>match Gw ops j with|none=>none|some t=>match s.get t with| .d .bool c=>some (c.toBool==want)| .tup []=>some false|_=>none
def OC (X:Cx) (Q:S->Prop) (o:Oper) (ρ:Operand->V) (v:V):Prop:=
 ∀(Γ:G) (w:World) (a:Act) (s:S),Γ.gl=X.gl->AY Γ w s->Q s->(∀y∈o.op.operands,AK Γ (ρ y) (a.eval y))->BU X.P o a w (BX Γ w s v)
def OkR (X:Cx) (Q:S->Prop) (ops:Array Oper) (base s:S) (o:Oper) (r:Res):Prop:=
 (Gl ops s o=some false/\r.t=0/\r.v= .tup [])\/
 (Gl ops s o=some true/\(
  (r.t=0/\OC X Q o (BL X.gl s) r.v)\/
  (r.t=1/\Xc X base o (BL X.gl s) s r.v r.lo r.tn/\Tm s r.lo r.tn)\/
  (r.t=2/\gY X o (BL X.gl s) s r.v r.s1)))
theorem OkR.mono {X:Cx} {Q Q':S->Prop} {ops:Array Oper} {base s:S} {o:Oper} {r:Res} (h:OkR X Q ops base s o r) (hq:∀s,Q' s->Q s):OkR X Q' ops base s o r:=by rcases h with h|⟨h0,h|h|h⟩;{exact .inl h};{exact .inr ⟨h0,.inl ⟨h.1,fun Γ w a s g c q=>h.2 Γ w a s g c (hq s q)⟩⟩};{exact .inr ⟨h0,.inr (.inl h)⟩};{exact .inr ⟨h0,.inr (.inr h)⟩}
def QC (n:Nat) (c:Nat->S) (s:S):Prop:=∀k o,(∀p,p<=n->(c p).obj k=some o)->s.obj k=some o
def CZ (rs:Nat->Res):Nat->Nat
 |0=>0|i+1=>if(rs i).t=2 then i+1 else CZ rs i
theorem IJ (rs:Nat->Res):∀i,CZ rs i<=i
 |0=>bx _|i+1=>by simp only[CZ];split;exact bx _;exact Nat.le_succ_of_le (IJ rs i)
theorem VM (rs:Nat->Res):∀i k,k<i->(rs k).t=2->k<CZ rs i
 |0,k,h,_=>by omega
 |i+1,k,h,ht=>by simp only[CZ];split;{exact h};{rename_i hi;refine VM rs i k ?_ ht;rcases nq.1 h with h|h;{exact h};{subst h;exact absurd ht hi}}
theorem Zf (rs:Nat->Res):∀i,CZ rs i=0\/∃k,CZ rs i=k+1/\(rs k).t=2
 |0=>.inl rfl|i+1=>by simp only[CZ];split;{exact .inr ⟨i,rfl,‹_›⟩};{exact Zf rs i}
structure Canon (X:Cx) (ops:List Oper) (s0:S) (rs:Nat->Res) (c:Nat->S):Prop where
 c0:c 0=s0
 cs:∀i o,ops[i]? =some o->c (i+1)=(c i).step o (rs i)
 ok:∀i o,ops[i]? =some o->OkR X (QC ops.length c) ops.toArray (c (CZ rs i)) (c i) o (rs i)
 tri:∀i,(rs i).t=0\/(rs i).t=1\/(rs i).t=2
def writes (ops:List Oper) (j t:Nat):Prop:=∃o,ops[j]? =some o/\o.dst=some t
def looks (ops:List Oper) (i t:Nat):Prop:=∃o,ops[i]? =some o/\t∈o.looksAt ops.toArray
structure Orders (ops:List Oper) (rs:Nat->Res):Prop where
 lt:∀i j,dep ops i j->j<i
 tt:∀i j,i<ops.length->j<ops.length->(rs i).t=2->(rs j).t≠0->j≠i->(j<i/\Anc ops j i)\/(i<j/\Anc ops i j)
 Db:∀i j t,j≠i->writes ops j t->looks ops i t->(j<i/\Anc ops j i)\/(i<j/\Anc ops i j)
 one:∀i j t,writes ops i t->writes ops j t->i=j
theorem OkR.env {X:Cx} {Q:S->Prop} {ops:Array Oper} {base s:S} {o:Oper} {r:Res} (h:OkR X Q ops base s o r) (ht:r.t=2):r.s1.env=s.env/\r.s1.A=s.A:=by rcases h with h|⟨_,h|h|h⟩;{omega};{omega};{omega};{exact⟨h.2.2.1,h.2.1⟩}
section
variable {X:Cx} {ops:List Oper} {s0:S} {rs:Nat->Res} {c:Nat->S}
theorem getOp {i:Nat} (h:i<ops.length):∃o,ops[i]? =some o:=⟨_,bo h⟩
theorem Canon.A (K:Canon X ops s0 rs c):∀i,i<=ops.length->(c i).A=s0.A
 |0,_=>by rw[K.c0]
 |i+1,h=>by obtain⟨o,ho⟩:=getOp (ops:=ops) (i:=i) (by omega);rw[K.cs i o ho,u6 (K.tri i) (fun ht=>((K.ok i o ho).env ht).2),K.A i (by omega)]
theorem Canon.oL (K:Canon X ops s0 rs c) {i:Nat} {o:Oper} (ho:ops[i]? =some o) (t:Nat):(c (i+1)).get t=if o.dst=some t then(rs i).v else(c i).get t:=by rw[K.cs i o ho];exact q2l (K.tri i) (fun ht=>((K.ok i o ho).env ht).1) t
theorem Canon.Hk (K:Canon X ops s0 rs c) (Od:Orders ops rs) {j t:Nat} (hw:writes ops j t):∀i,j<i->i<=ops.length->(c i).get t=(rs j).v
 |0,h,_=>by omega
 |i+1,h,hi=>by obtain⟨o,ho⟩:=getOp (ops:=ops) (i:=i) (by omega);rw[K.oL ho];by_cases hji:j=i;{subst hji;obtain⟨o',h1,h2⟩:=hw;rw[ho]at h1;cases h1;rw[if_pos h2]};{have hd:¬o.dst=some t:=fun e=>hji (Od.one j i t hw ⟨o,ho,e⟩);rw[if_neg hd];exact K.Hk Od hw i (by omega) (by omega)}
theorem Canon.VA (K:Canon X ops s0 rs c) {t:Nat}:∀i,i<=ops.length->(∀j,j<i->¬writes ops j t)->(c i).get t=s0.get t
 |0,_,_=>by rw[K.c0]
 |i+1,hi,hw=>by obtain⟨o,ho⟩:=getOp (ops:=ops) (i:=i) (by omega);have hd:¬o.dst=some t:=fun e=>hw i (by omega) ⟨o,ho,e⟩;rw[K.oL ho,if_neg hd];exact K.VA i (by omega) (fun j hj=>hw j (by omega))
theorem Canon.fresh (K:Canon X ops s0 rs c) {i:Nat} (hi:i<ops.length) (ht:(rs i).t=1) {k:Key ⊕ Nat} {x:O ⊕ Option Nat} (h:(rs i).om k=some x):om (c i) k=none:=by
 obtain⟨o,ho⟩:=getOp hi;rcases K.ok i o ho with h1|⟨_,h1|h1|h1⟩;{omega};{omega}
 ·have hf:=h1.2.2;cases k with
  |inl k=>
   simp only[Res.om,ed]at h;obtain⟨y,h,_⟩:=h;simp only[om,hf.l k y h,oh]
  |inr t=>
   simp only[Res.om,ed]at h;obtain⟨y,h,_⟩:=h;have:=hf.t t y h;simp only[S.known]at this;simp only[om];cases hh:look (c i).tk t with
   |none=>rfl|some z=>rw[hh]at this;cases this
 ·omega
theorem Canon.mono (K:Canon X ops s0 rs c) {k:Key ⊕ Nat} {x:O ⊕ Option Nat} {i:Nat}:∀j,i<=j->j<=ops.length->(∀m,i<=m->m<j->(rs m).t≠2)->om (c i) k=some x->om (c j) k=some x
 |0,h,_,_,hx=>by have:i=0:=by omega
                 subst this;exact hx
 |j+1,h,hj,hn,hx=>by by_cases he:i=j+1;{subst he;exact hx};{have ih:=K.mono j (by omega) (by omega) (fun m h1 h2=>hn m h1 (by omega)) hx;obtain⟨o,ho⟩:=getOp (ops:=ops) (i:=j) (by omega);rw[K.cs j o ho];rcases K.tri j with h1|h1|h1;{rw[bX h1];exact ih};{rw[WA h1];cases hr:(rs j).om k with|none=>exact ih|some y=>have:=K.fresh (by omega) h1 hr;rw[ih]at this;cases this};{exact absurd h1 (hn j (by omega) (by omega))}}
theorem Canon.obj (K:Canon X ops s0 rs c) (k:Key ⊕ Nat):∀i,i<=ops.length->
  (∀j x,j<i->CZ rs i<=j->(rs j).t=1->(rs j).om k=some x->om (c i) k=some x)/\
  ((∀j,j<i->CZ rs i<=j->(rs j).t=1->(rs j).om k=none)->om (c i) k=om (c (CZ rs i)) k)
 |0,_=>⟨fun j x h=>by omega,fun _=>rfl⟩|i+1,hi=>by
  obtain⟨h1,h2⟩:=K.obj k i (by omega);obtain⟨o,ho⟩:=getOp (ops:=ops) (i:=i) (by omega);simp only[CZ];rcases K.tri i with ht|ht|ht;{rw[if_neg (by omega),K.cs i o ho,bX ht];refine⟨fun j x h3 h4 h5 h6=>?_,fun h3=>h2 fun j h4 h5 h6=>h3 j (by omega) h5 h6⟩;rcases nq.1 h3 with h7|h7;{exact h1 j x h7 h4 h5 h6};{subst h7;omega}};{rw[if_neg (by omega),K.cs i o ho,WA ht];refine⟨fun j x h3 h4 h5 h6=>?_,fun h3=>?_⟩;{rcases nq.1 h3 with h7|h7;{have:=h1 j x h7 h4 h5 h6;cases hr:(rs i).om k with|none=>exact this|some y=>have h8:=K.fresh (by omega) ht hr;rw[this]at h8;cases h8};{subst h7;rw[h6]}};{rw[h3 i (by omega) (Nat.le_of_lt_succ (Nat.lt_succ_of_le (IJ rs i))) ht];exact h2 fun j h4 h5 h6=>h3 j (by omega) h5 h6}};{rw[if_pos ht];exact⟨fun j x h3 h4=>by omega,fun _=>rfl⟩}
end
end
section
section
variable {X:Cx} {ops:List Oper} {s0:S} {rs:Nat->Res} {c:Nat->S}
def Ih (X:Cx) (ops:List Oper) (s0:S) (rs:Nat->Res) (c:Nat->S) (Γ0:G) (n:Nat) (D:Nat->Prop) (a:Act) (w:World):Prop:=
 ∃Γ sD p,GLe Γ0 Γ/\Γ.gl=X.gl/\AY Γ w sD/\AOk s0.A/\a.tmps.size=n/\a.defers=[]/\
  p<=ops.length/\(p=0\/∃k,p=k+1/\(rs k).t=2/\D k)/\(∀k,D k->(rs k).t=2->k<p)/\
  (∀k j x,D j->p<=j->(rs j).t=1->(rs j).om k=some x->om sD k=some x)/\
  (∀k,(∀j,D j->p<=j->(rs j).t=1->(rs j).om k=none)->om sD k=om (c p) k)/\
  (∀j t,D j->writes ops j t->AK Γ (rs j).v (a.tmps.getD t undef))/\
  (∀t,(∀j,D j->¬writes ops j t)->AK Γ (s0.get t) (a.tmps.getD t undef))
theorem y7 {Γ:G} {a:Act} {s:S} {o:Oper} {b:Bool} {l:Array Oper} (h:Gl l s o=some b) (hs:∀t,t∈o.looksAt l->AK Γ (s.get t) (a.tmps.getD t undef)):
  jj o (yielded l a.tmps)=b:=by
 unfold Gl at h;split at h;{rename_i hg;cases h;simp[jj,hg]}
 ·rename_i j want hg;split at h;{cases h}
  ·rename_i t ht
   have hst:=hs t (by
    simp only[um,hg,eh];right;simp only[Gw]at ht;rw[ht];simp)
   split at h;{rename_i b' hb;cases h;rw[hb]at hst;exact oO hg ht hst};{rename_i hb;cases h;rw[hb]at hst;exact oP hg ht hst};{cases h}
theorem q1T {Γ:G} {w:World} {s s':S} {a:Act} (hgl:Γ.gl=X.gl) (c:AY Γ w s') {y:Operand} (hy:WB y=true) (ht:∀t,y= .tmp t->AK Γ (s.get t) (a.tmps.getD t undef)):
  AK Γ (BL X.gl s y) (a.eval y):=by
 cases y with
 |tmp t=>exact ht t rfl|const v=>exact Uk (y:=.const v) (s:=⟨[],[],fun _=>none,[]⟩) hgl c (fun i=>by simp[xg,look,AK]) hy|global g=>exact Uk (y:=.global g) (s:=⟨[],[],fun _=>none,[]⟩) (a:=a) hgl c (fun i=>by simp[xg,look,AK]) hy|func f=>exact Uk (y:=.func f) (s:=⟨[],[],fun _=>none,[]⟩) (a:=a) hgl c (fun i=>by simp[xg,look,AK]) hy
theorem vH {a:Act} {d:Option Nat} {v:Value} {t:Nat} (h:d≠some t):(a.put d v).tmps.getD t undef=a.tmps.getD t undef:=by
 cases d with
 |none=>rfl|some e=>
  have:e≠t:=fun he=>h (by rw[he]);simp only[sq,ib,Array.getElem?_setIfInBounds_ne this]
theorem q6d {a:Act} {t:Nat} {v:Value} (h:t<a.tmps.size):(a.put (some t) v).tmps.getD t undef=v:=by simp[sq,h]
theorem q5N {s s':S} (h:∀k,om s' k=om s k) (k:Key):s'.obj k=s.obj k:=by have:=h (.inl k);simp only[om]at this;cases h1:s'.obj k <;> cases h2:s.obj k <;> rw[h1,h2]at this;{cases this};{cases this};{cases this;rfl}
theorem tP {s s':S} (h:∀k,om s' k=om s k) (t:Nat):look s'.tk t=look s.tk t:=by have:=h (.inr t);simp only[om]at this;cases h1:look s'.tk t <;> cases h2:look s.tk t <;> rw[h1,h2]at this;{cases this};{cases this};{cases this;rfl}
theorem AY.om {Γ:G} {w:World} {s s':S} (c:AY Γ w s) (h:∀k,Go.E.om s' k=Go.E.om s k):AY Γ w s':=
 c.congr (q5N h) (rF (tP h)) (fun t ht=>by rw[pS (tP h)];exact ht)
theorem Vz {s:S} {k:Key} {o:O}:om s (.inl k)=some (.inl o)↔s.obj k=some o:=by simp[om]
theorem bV {s:S} {k:Key}:om s (.inl k)=none↔s.obj k=none:=by simp[om]
variable {Γ0:G} {n:Nat} {D:Nat->Prop}
theorem q9d (hP:BS X.P=true) (K:Canon X ops s0 rs c) (Od:Orders ops rs) (hok:∀o∈ops,IP n o=true) (hDl:∀j,D j->j<ops.length) (hD:∀i j,D i->dep ops i j->D j) {i:Nat} (hi:i<ops.length) (hiD:¬D i) (y0F:∀j,dep ops i j->D j)
  {a:Act} {w:World} {Q:Exit->Act->World->Prop} (h:Ih X ops s0 rs c Γ0 n D a w):wpOp X.P ops.toArray Q i (Ih X ops s0 rs c Γ0 n (fun j=>D j\/j=i)) a w:=by
 obtain⟨Γ,sD,p,g1,g3,hc,hA,hn,hf,hp0,hp1,hp2,ob1,ob2,ew,e0⟩:=h;obtain⟨o,ho⟩:=getOp hi
 -- what is before i is done; what is behind i is not
 have hD':∀k j,(D k\/k=i)->dep ops k j->(D j\/j=i):=by rintro k j (h|rfl) hd;{exact .inl (hD k j h hd)};{exact .inl (y0F j hd)}
 have before:∀j,j≠i->Anc ops j i->D j:=fun j hj ha=>(Anc.closed hD' ha (.inr rfl)).resolve_right hj;have behind:∀k,D k->¬Anc ops i k:=fun k hk ha=>hiD (Anc.closed hD ha hk);have later:∀k,D k->(rs k).t=2->i<k->(rs i).t=0:=by intro k hk ht hik;by_cases h0:(rs i).t=0;{exact h0};{rcases Od.tt k i (hDl k hk) hi ht h0 (by omega)with⟨_,ha⟩|⟨h1,_⟩;{exact absurd ha (behind k hk)};{omega}}
 have slot:∀t,looks ops i t->AK Γ ((c i).get t) (a.tmps.getD t undef):=by intro t ht;by_cases hw:∃j,j≠i/\writes ops j t;{obtain⟨j,hj,hw⟩:=hw;rcases Od.Db i j t hj hw ht with⟨hlt,ha⟩|⟨hlt,ha⟩;{rw[K.Hk Od hw i hlt (by omega)];exact ew j t (before j hj ha) hw};{have hDj:¬D j:=fun h=>behind j h ha;have uniq:∀j',writes ops j' t->j'=j:=fun j' h=>Od.one j' j t h hw;rw[K.VA (t:=t) i (by omega) (fun j' hj' h=>by have:=uniq j' h;omega)];exact e0 t (fun j' hj' h=>hDj (uniq j' h ▸ hj'))}};{have nw:∀j',writes ops j' t->j'=i:=fun j' h=>qo fun hne=>hw ⟨j',hne,h⟩;rw[K.VA (t:=t) i (by omega) (fun j' hj' h=>by have:=nw j' h;omega)];exact e0 t (fun j' hj' h=>hiD (nw j' h ▸ hj'))}
 have hko:=hok o (List.mem_of_getElem? ho);simp only[IP,bg,pz]at hko;have hd:∀t,o.dst=some t->t<a.tmps.size:=by intro t ht;have h2:=hko.2;rw[ht]at h2;rw[hn];exact of_decide_eq_true h2
 have za:∀y∈o.op.operands,AK Γ (BL X.gl (c i) y) (a.eval y):=fun y hy=>q1T g3 hc (hko.1 y hy) fun t ht=>slot t ⟨o,ho,by
  subst ht;simp only[um,eh,vl];exact .inl ⟨.tmp t,by simpa using hy,rfl⟩⟩
 have wr:∀j t,writes ops j t->j≠i->o.dst≠some t:=fun j t hw hj hdt=>hj (Od.one j i t hw ⟨o,ho,hdt⟩)
 -- what all kinds of operations share
 have fin:∀{u:Value} {w':World} {Γ':G} {sD':S} {p':Nat},GLe Γ Γ'->Γ'.gl=X.gl->AY Γ' w' sD'->p'<=ops.length->(p'=0\/∃k,p'=k+1/\(rs k).t=2/\(D k\/k=i))->
   (∀k,(D k\/k=i)->(rs k).t=2->k<p')->(∀k j x,(D j\/j=i)->p'<=j->(rs j).t=1->(rs j).om k=some x->om sD' k=some x)->
   (∀k,(∀j,(D j\/j=i)->p'<=j->(rs j).t=1->(rs j).om k=none)->om sD' k=om (c p') k)->
   Bg Γ Γ'->AK Γ' (rs i).v u->
   Ih X ops s0 rs c Γ0 n (fun j=>D j\/j=i) (a.put o.dst u) w':=by
  intro u w' Γ' sD' p' gle z9n c' q0 q1 q2 qo1 qo2 Cn hv;refine⟨Γ',sD',p',g1.trans gle,z9n,c',hA,?_,?_,q0,q1,q2,qo1,qo2,?_,?_⟩;{cases o.dst <;> simp[sq,hn]};{cases o.dst <;> simp[sq,hf]};{rintro j t (hj|rfl) hw;{have hji:j≠i:=fun e=>hiD (e ▸ hj);rw[vH (wr j t hw hji)];exact(ew j t hj hw).Bn Cn};{obtain⟨o',h1,h2⟩:=hw;rw[ho]at h1;cases h1;rw[h2,q6d (hd t h2)];exact hv}};{intro t hw;rw[vH (fun e=>hw i (.inr rfl) ⟨o,ho,e⟩)];exact(e0 t (fun j hj=>hw j (.inl hj))).Bn Cn}
 -- a value alone
 have value:∀{u:Value} {w':World} {Γ':G},(rs i).t=0->GLe Γ Γ'->Γ'.gl=X.gl->AY Γ' w' sD->Bg Γ Γ'->AK Γ' (rs i).v u->
   Ih X ops s0 rs c Γ0 n (fun j=>D j\/j=i) (a.put o.dst u) w':=by
  intro u w' Γ' ht gle z9n c' Cn hv;refine fin gle z9n c' hp0 ?_ ?_ ?_ ?_ Cn hv;{rcases hp1 with h|⟨k,h1,h2,h3⟩;{exact .inl h};{exact .inr ⟨k,h1,h2,.inl h3⟩}};{rintro k (hk|rfl) htk;{exact hp2 k hk htk};{omega}};{rintro k j x (hj|rfl) h1 h2 h3;{exact ob1 k j x hj h1 h2 h3};{omega}};{exact fun k h=>ob2 k fun j hj h1 h2=>h j (.inl hj) h1 h2}
 -- the phase
 have hpL:(rs i).t≠0->p=CZ rs i:=by
  intro hti;have hTD:∀k,(rs k).t=2->k<i->D k:=by intro k hk hki;rcases Od.tt k i (by omega) hi hk hti (by omega)with⟨h1,_⟩|⟨_,ha⟩;{omega};{exact before k (by omega) ha}
  have h1:p<=CZ rs i:=by
   rcases hp1 with h|⟨k,h1,h2,h3⟩;{omega}
   ·have hki:k<i:=by rcases lg k i with h|h;{exact h};{rcases Nat.lt_or_eq_of_le h with h|h;{exact absurd (later k h3 h2 h) hti};{subst h;exact absurd h3 hiD}}
    have:=VM rs i k hki h2;omega
  have h2:CZ rs i<=p:=by rcases Zf rs i with h|⟨k,h3,h4⟩;{omega};{have:=IJ rs i;have:=hp2 k (hTD k h4 (by omega)) h4;omega}
  omega
 have z9o:∀j,D j->(rs j).t≠0->∀m,p<=m->m<j->(rs m).t≠2:=by intro j hj ht m hm hmj htm;rcases Od.tt m j (by have:=hDl j hj;omega) (hDl j hj) htm ht (by omega)with⟨h1,_⟩|⟨_,ha⟩;{omega};{have:=hp2 m (Anc.closed hD ha hj) htm;omega}
 have z9T:(rs i).t≠0->∀m,p<=m->m<i->(rs m).t≠2:=by intro hti m hm hmi htm;have:=VM rs i m hmi htm;have:=hpL hti;omega
 -- a key is one of an operation's that is done, or stands as at the phase's start
 have z8p:∀k,(∃j x,D j/\p<=j/\(rs j).t=1/\(rs j).om k=some x)\/(∀j,D j->p<=j->(rs j).t=1->(rs j).om k=none):=by intro k;by_cases h:∃j x,D j/\p<=j/\(rs j).t=1/\(rs j).om k=some x;{exact .inl h};{refine .inr fun j h1 h2 h3=>?_;cases hr:(rs j).om k with|none=>rfl|some x=>exact absurd ⟨j,x,h1,h2,h3,hr⟩ h}
 simp only[wpOp,kb,ho];have z89:∀t,t∈o.looksAt ops.toArray->AK Γ ((c i).get t) (a.tmps.getD t undef):=fun t ht=>slot t ⟨o,ho,ht⟩;rcases K.ok i o ho with⟨hw,ht,hv⟩|⟨hw,y0a⟩;{rw[y7 hw z89];simp only[fq,if_false];exact value ht (.refl Γ) g3 hc (.refl Γ) (by rw[hv];exact xA)}
 ·rw[y7 hw z89];simp only[if_true];left;rcases y0a with⟨ht,hdo⟩|⟨ht,hdo,hfr⟩|⟨ht,hdo⟩
  ·have hQ:QC ops.length c sD:=fun k ob hk=>by rcases z8p (.inl k)with⟨j,y,hj,hpj,htj,hy⟩|hB;{have:=K.fresh (hDl j hj) htj hy;rw[bV,hk j (rf (hDl j hj))]at this;cases this};{rw[<-Vz,ob2 _ hB,Vz];exact hk p hp0}
   refine hdo Γ w a sD g3 hc hQ za _ _ ?_;rintro u w' ⟨Γ',gle,kp,c',hv⟩;exact value ht gle (gle.gl.trans g3) c' kp hv
  ·have hne:(rs i).t≠0:=by omega
   have hpl:=hpL hne;have hpi:p<=i:=by rw[hpl];exact IJ rs i
   obtain⟨co1,co2⟩:(∀k j x,j<i->p<=j->(rs j).t=1->(rs j).om k=some x->om (c i) k=some x)/\(∀k,(∀j,j<i->p<=j->(rs j).t=1->(rs j).om k=none)->om (c i) k=om (c p) k):=by refine⟨fun k=>?_,fun k=>?_⟩;{rw[hpl];exact(K.obj k i (by omega)).1};{rw[hpl];exact(K.obj k i (by omega)).2}
   have z8J:∀k x,(rs i).om k=some x->om sD k=none:=by
    intro k x hx;have hfi:=K.fresh hi ht hx;rcases z8p k with⟨j,y,hj,hpj,htj,hy⟩|hB
    ·exfalso;rcases lg j i with hlt|hge;{have:=co1 k j y hlt hpj htj hy;rw[hfi]at this;cases this}
     ·have hij:i≠j:=fun e=>hiD (e ▸ hj);have h1:om (c (i+1)) k=some x:=by rw[K.cs i o ho,WA ht,hx]
      have h2:=K.mono j (by omega) (rf (hDl j hj)) (fun m hm hmj=>z9o j hj (by omega) m (by omega) hmj) h1;have h3:=K.fresh (hDl j hj) htj hy;rw[h2]at h3;cases h3
    ·rw[ob2 k hB];cases z8K:om (c p) k with
     |none=>rfl|some y=>
      have:=K.mono i hpi (by omega) (z9T hne) z8K;rw[hfi]at this;cases this
   have z9H:Compat sD (c i) (c (CZ rs i)):=by
    rw[<-hpl];refine⟨fun k x hx z9U=>?_,fun k x hx=>?_⟩
    ·rw[<-Vz]at hx ⊢;rw[Ne,<-bV]at z9U;rcases z8p (.inl k)with⟨j,y,hj,hpj,htj,hy⟩|hB;{have hsD:=ob1 _ j y hj hpj htj hy;have hfj:=K.fresh (hDl j hj) htj hy;rcases lg j i with hlt|hge;{have h1:=co1 _ j y hlt hpj htj hy;rw[hx]at h1;cases h1;exact hsD};{have:=K.mono j hge (rf (hDl j hj)) (fun m hm hmj=>z9o j hj (by omega) m (by omega) hmj) hx;rw[hfj]at this;cases this}}
     ·have hsD:=ob2 _ hB;cases z8K:om (c p) (.inl k)with
      |some y=>
       have:=K.mono i hpi (by omega) (z9T hne) z8K;rw[hx]at this;cases this;rw[hsD,z8K]
      |none=>rw[z8K]at hsD;exact absurd hsD z9U
    ·rw[<-Vz]at hx ⊢;rcases z8p (.inl k)with⟨j,y,hj,hpj,htj,hy⟩|hB;{exfalso;have hfj:=K.fresh (hDl j hj) htj hy;have:=K.mono j hpj (rf (hDl j hj)) (fun m' hm hmj=>z9o j hj (by omega) m' hm hmj) hx;rw[hfj]at this;cases this};{rw[ob2 _ hB];exact hx}
   have z9V:Tm sD (rs i).lo (rs i).tn:=by refine⟨fun k x hx=>?_,fun t x hx=>?_⟩;{exact bV.1 (z8J (.inl k) (.inl x) (by simp[Res.om,hx]))};{have:=z8J (.inr t) (.inr x) (by simp[Res.om,hx]);simp only[om,Option.map_eq_none_iff]at this;simp[S.known,this]}
   refine hdo Γ w a sD g3 hc z9H z9V za _ _ ?_;rintro u w' ⟨Γ',gle,kp,c',hv⟩;have hom:∀k,om (sD.add (rs i).lo (rs i).tn) k=match(rs i).om k with|some x=>some x|none=>om sD k:=fun k=>tM sD _ _ k rfl rfl
   refine fin gle (gle.gl.trans g3) c' hp0 ?_ ?_ ?_ ?_ kp hv;{rcases hp1 with h|⟨k,h1,h2,h3⟩;{exact .inl h};{exact .inr ⟨k,h1,h2,.inl h3⟩}};{rintro k (hk|rfl) htk;{exact hp2 k hk htk};{omega}};{rintro k j x (hj|rfl) h1 h2 h3;{rw[hom k];have:=ob1 k j x hj h1 h2 h3;cases hr:(rs i).om k with|none=>exact this|some y=>rw[z8J k y hr]at this;cases this};{rw[hom k,h3]}};{intro k h;rw[hom k,h i (.inr rfl) hpi ht];exact ob2 k fun j hj h1 h2=>h j (.inl hj) h1 h2}
  ·have hne:(rs i).t≠0:=by omega
   have hpl:=hpL hne;have hpi:p<=i:=by rw[hpl];exact IJ rs i
   have z9p:∀j,D j->(rs j).t≠0->j<i:=by intro j hj htj;rcases Od.tt i j hi (hDl j hj) ht htj (fun e=>hiD (e ▸ hj))with⟨h1,_⟩|⟨_,ha⟩;{exact h1};{exact absurd ha (behind j hj)}
   have hom:∀k,om (c i) k=om sD k:=by intro k;rcases z8p k with⟨j,y,hj,hpj,htj,hy⟩|hB;{rw[ob1 k j y hj hpj htj hy];refine(K.obj k i (by omega)).1 j y (z9p j hj (by omega)) (by rw[<-hpl];exact hpj) htj hy};{rw[ob2 k hB,hpl];refine(K.obj k i (by omega)).2 fun j hj hpj htj=>?_;rw[<-hpl]at hpj;rcases Od.tt i j hi (by omega) ht (by omega) (by omega)with⟨_,ha⟩|⟨h1,_⟩;{exact hB j (before j (by omega) ha) hpj htj};{omega}}
   refine hdo.2.2 Γ w a g3 (hc.om hom) za _ _ ?_;rintro u w' ⟨Γ',gle,kp,c',hv⟩;refine fin (p':=i+1) gle (gle.gl.trans g3) c' (by omega) (.inr ⟨i,rfl,ht,.inr rfl⟩) ?_ ?_ ?_ kp hv;{rintro k (hk|rfl) htk;{have:=z9p k hk (by omega);omega};{omega}};{rintro k j x (hj|rfl) h1 h2 h3;{have:=z9p j hj (by omega);omega};{omega}};{intro k _;rw[K.cs i o ho,tN ht]}
end
end
section
theorem F6 {p q:Nat->Bool} {i:Nat} (hi:p i=false) (hq:∀j,q j=(p j||j==i)):∀n,i<n->(gf n).countP q=(gf n).countP p+1:=by
 have low:∀m,m<=i->(gf m).countP q=(gf m).countP p:=by
  intro m hm;apply List.countP_congr;intro j hj;have:j≠i:=by have:=gp.1 hj;omega
  simp[hq j,this]
 intro n hn
 induction n with
 |zero=>omega|succ n ih=>
  rw[List.range_succ,vk,vk];by_cases h:i<n
  ·rw[ih h];have:n≠i:=by omega
   simp only[List.countP_singleton,hq n];have hb:(n==i)=false:=by simpa using this
   rw[hb,xk];omega
  ·have:n=i:=by omega
   subst this;rw[low n (bx _)];simp[hq n,hi]
section
variable {X:Cx} {ops:List Oper} {s0:S} {rs:Nat->Res} {c:Nat->S} {Γ0:G} {n:Nat}
theorem Ih.congr {D D':Nat->Prop} (h:∀j,D j↔D' j) {a:Act} {w:World} (hi:Ih X ops s0 rs c Γ0 n D a w):Ih X ops s0 rs c Γ0 n D' a w:=by have:D=D':=funext fun j=>propext (h j);rw[<-this];exact hi
theorem vM {listed:Array Bool} {i:Nat} (hsz:listed.size=ops.length) (h:i∈nz .any ops.toArray listed):
  i<ops.length/\listed.getD i false=false/\∀j,dep ops i j->listed.getD j false=true:=by
 simp only[nz,iq,mj,gp,bg,je,kb]at h;obtain⟨h1,h2,h3⟩:=h;refine⟨h1,?_,?_⟩
 ·have:i<listed.size:=by omega
  simpa[qg,this]using h2
 ·rintro j ⟨o,ho,e,he,hb,rfl⟩;rw[ho]at h3;simp only[gj,jg,pz]at h3;have:=h3 e he;rw[hb]at this;simpa using this
theorem q6z (Od:Orders ops rs) {listed:Array Bool} (hsz:listed.size=ops.length) (h:nz .any ops.toArray listed=[]):∀i,i<ops.length->listed.getD i false=true:=by
 intro i
 induction i using xe with
 |_ i ih=>
  intro hi;cases hl:listed.getD i false with
  |true=>rfl|false=>
   exfalso;have:i∈nz .any ops.toArray listed:=by
    simp only[nz,iq,mj,gp,bg,je,kb];have hs:i<listed.size:=by omega
    refine⟨hi,by simpa[qg,hs]using hl,?_⟩;rw[bo hi];simp only[gj,jg,pz];intro e he;cases hb:ua .any e with
    |false=>rfl|true=>
     have hd:dep ops i e.on:=⟨_,bo hi,e,he,hb,rfl⟩;have hlt:=Od.lt i e.on hd;simp only[tu,jz];exact ih e.on hlt (by omega)
   rw[h]at this;cases this
theorem c6 (hP:BS X.P=true) (K:Canon X ops s0 rs c) (Od:Orders ops rs) (hok:∀o∈ops,IP n o=true) {Q:Exit->Act->World->Prop}
  (hQ:∀a w,Ih X ops s0 rs c Γ0 n (fun j=>j<ops.length) a w->Q .normal a w):
  ∀(fuel:Nat) (listed:Array Bool) (a:Act) (w:World),listed.size=ops.length->fuel+(gf ops.length).countP (fun j=>listed.getD j false)=ops.length->
   (∀i j,i<ops.length->listed.getD i false=true->dep ops i j->listed.getD j false=true)->
   Ih X ops s0 rs c Γ0 n (fun j=>j<ops.length/\listed.getD j false=true) a w->wpAny X.P .any ops.toArray Q fuel listed a w:=by
 intro fuel
 induction fuel with
 |zero=>
  intro listed a w hsz hc hcl hI;have yq:∀j,j<ops.length->listed.getD j false=true:=by
   have:(gf ops.length).countP (fun j=>listed.getD j false)=(gf ops.length).length:=by rw[List.length_range];omega
   rw[List.countP_eq_length]at this;exact fun j hj=>this j (gp.2 hj)
  refine⟨?_,hQ a w (hI.congr fun j=>⟨fun h=>h.1,fun h=>⟨h,yq j h⟩⟩)⟩;apply List.eq_nil_iff_forall_not_mem.2;intro i hi;obtain⟨h1,h2,_⟩:=vM hsz hi;rw[yq i h1]at h2;cases h2
 |succ fuel ih=>
  intro listed a w hsz hc hcl hI;refine⟨fun hr=>hQ a w (hI.congr fun j=>⟨fun h=>h.1,fun h=>⟨h,q6z Od hsz hr j h⟩⟩),fun i hi=>?_⟩;obtain⟨h1,h2,h3⟩:=vM hsz hi
  have hD:∀i j,(i<ops.length/\listed.getD i false=true)->dep ops i j->(j<ops.length/\listed.getD j false=true):=
   fun i j h hd=>⟨by have:=Od.lt i j hd;omega,hcl i j h.1 h.2 hd⟩
  have y0b:=q9d (Q:=Q) hP K Od hok (fun j h=>h.1) hD h1 (fun h=>by rw[h2]at h;cases h.2) (fun j hd=>⟨by have:=Od.lt i j hd;omega,h3 j hd⟩) hI;refine wpOp_mono ?_ y0b;intro a' w' hI';have zi:∀j,(listed.setIfInBounds i true).getD j false=(listed.getD j false||j==i):=by
   intro j;simp only[ib,Array.getElem?_setIfInBounds];by_cases hji:i=j
   ·subst hji;have:i<listed.size:=by omega
    simp[this]
   ·have:(j==i)=false:=by simpa using fun e=>hji e.symm
    simp[hji,this]
  refine ih _ a' w' (by simp[hsz]) ?_ ?_ (hI'.congr fun j=>?_);{have:=F6 (p:=fun j=>listed.getD j false) (q:=fun j=>(listed.setIfInBounds i true).getD j false) (i:=i) h2 zi ops.length h1;omega}
  ·intro k j hk hlk hd;rw[zi]at hlk ⊢;rcases po.1 hlk with h|h;{rw[hcl k j hk h hd];rfl}
   ·have:k=i:=by simpa using h
    subst this;rw[h3 j hd];rfl
  ·rw[zi];constructor;{rintro(h|rfl);{exact⟨h.1,by rw[h.2];rfl⟩};{exact⟨h1,by simp⟩}};{rintro⟨ha,hb⟩;rcases po.1 hb with h|h;{exact .inl ⟨ha,h⟩};{exact .inr (by simpa using h)}}
theorem q2L (K:Canon X ops s0 rs c) {a:Act} {w:World} (h:At X n Γ0 s0 a w):Ih X ops s0 rs c Γ0 n (fun j=>j<ops.length/\(ku ops.length false).getD j false=true) a w:=by
 obtain⟨Γ,g1,g3,hc,hs,hn,hf,hA⟩:=h;have no:∀j,¬(j<ops.length/\(ku ops.length false).getD j false=true):=by rintro j ⟨h1,h2⟩;simp[qg,h1]at h2
 exact⟨Γ,s0,0,g1,g3,hc,hA,hn,hf,dr _,.inl rfl,fun k h=>absurd h (no k),fun k j x h=>absurd h (no j),fun k _=>by rw[K.c0],fun j t h=>absurd h (no j),fun t _=>hs t⟩
theorem q2K (K:Canon X ops s0 rs c) (Od:Orders ops rs) {a:Act} {w:World} (h:Ih X ops s0 rs c Γ0 n (fun j=>j<ops.length) a w):At X n Γ0 (c ops.length) a w:=by
 obtain⟨Γ,sD,p,g1,g3,hc,hA,hn,hf,hp0,hp1,hp2,ob1,ob2,ew,e0⟩:=h;have hpl:p=CZ rs ops.length:=by
  have h1:p<=CZ rs ops.length:=by rcases hp1 with h|⟨k,h1,h2,h3⟩;{omega};{have:=VM rs ops.length k h3 h2;omega}
  have h2:CZ rs ops.length<=p:=by rcases Zf rs ops.length with h|⟨k,h3,h4⟩;{omega};{have:=IJ rs ops.length;have:=hp2 k (by omega) h4;omega}
  omega
 have hom:∀k,om (c ops.length) k=om sD k:=by
  intro k;by_cases h:∃j x,j<ops.length/\p<=j/\(rs j).t=1/\(rs j).om k=some x;{obtain⟨j,x,h1,h2,h3,h4⟩:=h;rw[ob1 k j x h1 h2 h3 h4];exact(K.obj k _ (bx _)).1 j x h1 (by rw[<-hpl];exact h2) h3 h4}
  ·have hn:∀j,j<ops.length->p<=j->(rs j).t=1->(rs j).om k=none:=by
    intro j h1 h2 h3;cases hr:(rs j).om k with
    |none=>rfl|some x=>exact absurd ⟨j,x,h1,h2,h3,hr⟩ h
   rw[ob2 k hn,hpl];exact(K.obj k _ (bx _)).2 fun j h1 h2 h3=>hn j h1 (by rw[hpl];exact h2) h3
 refine⟨Γ,g1,g3,hc.om hom,fun t=>?_,hn,hf,by rw[K.A _ (bx _)];exact hA⟩;by_cases hw:∃j,j<ops.length/\writes ops j t;{obtain⟨j,hj,hw⟩:=hw;rw[K.Hk Od hw _ hj (bx _)];exact ew j t hj hw};{rw[K.VA (t:=t) _ (bx _) (fun j hj h=>hw ⟨j,hj,h⟩)];exact e0 t (fun j hj h=>hw ⟨j,hj,h⟩)}
theorem kO (hP:BS X.P=true) (hm:X.P.follows .mixedOrders=true) {id:Nat} {Ψ:Exit->S->Prop} (K:Canon X ops s0 rs c) (Od:Orders ops rs) (hok:∀o∈ops,IP n o=true) (h:Ψ .normal (c ops.length)):
  DC X n (.region id ops.toArray true) s0 Ψ:=by
 intro Γ0 a w hat;obtain⟨Γ,g1,g3,hc,hs,hn,hf⟩:=hat;have z8C:At X n Γ0 s0 a {w with drawn:=w.drawn+1}:=by exact⟨Γ,g1,g3,hc.ext (Ext.drew w),hs,hn,hf⟩
 refine wp_region_any hm ?_;refine c6 hP K Od hok (fun a w hI=>⟨c ops.length,h,q2K K Od hI⟩) ops.length (ku ops.length false) a _ (by simp) ?_ ?_ (q2L K z8C)
 ·have:(gf ops.length).countP (fun j=>(ku ops.length false).getD j false)=0:=by apply List.countP_eq_zero.2;intro j hj;simp[qg,gp.1 hj]
  omega
 ·intro i j hi hl;simp[qg,hi]at hl
end
end
def Ob (o:Oper):List Nat:=(o.after.toList.filter (ua .any)).map (·.on)
def q4i (acc:List Nat) (ds:List Nat):Nat:=ds.foldl (fun m k=>m|||2^k|||acc.getD k 0) 0
def OH:List Oper->List Nat->List Nat
 | [],acc=>acc|o::rest,acc=>OH rest (acc++[q4i acc (Ob o)])
def c5 (ops:List Oper) (j i:Nat):Bool:=((OH ops []).getD i 0).testBit j
theorem zA (acc:List Nat) (j:Nat):∀(ds:List Nat) (m:Nat),(ds.foldl (fun m k=>m|||2^k|||acc.getD k 0) m).testBit j=true->m.testBit j=true\/∃k∈ds,j=k\/(acc.getD k 0).testBit j=true
 | [],m,h=>.inl h|k::ds,m,h=>by rcases zA acc j ds _ h with h1|⟨k',hk,h1⟩;{simp only[Nat.testBit_or,od,Nat.testBit_two_pow,decide_eq_true_eq]at h1;rcases h1 with(h1|h1)|h1;{exact .inl h1};{exact .inr ⟨k,by simp,.inl h1.symm⟩};{exact .inr ⟨k,by simp,.inr h1⟩}};{exact .inr ⟨k',by simp[hk],h1⟩}
theorem q4p {ops:List Oper} {i k:Nat} {o:Oper} (ho:ops[i]? =some o) (h:k∈Ob o):dep ops i k:=by simp only[Ob,lu,mj]at h;obtain⟨e,⟨h1,h2⟩,h3⟩:=h;exact⟨o,ho,e,by simpa using h1,h2,h3⟩
theorem q0F {ops:List Oper} {i k:Nat} {o:Oper} (ho:ops[i]? =some o) (h:dep ops i k):k∈Ob o:=by obtain⟨o',h1,e,h2,h3,h4⟩:=h;rw[ho]at h1;cases h1;simp only[Ob,lu,mj];exact⟨e,⟨by simpa using h2,h3⟩,h4⟩
theorem iK (ops:List Oper):∀(rest done:List Oper) (acc:List Nat),ops=done++rest->acc.length=done.length->(∀i j,(acc.getD i 0).testBit j=true->Anc ops j i)->
  ∀i j,((OH rest acc).getD i 0).testBit j=true->Anc ops j i
 | [],_,acc,_,_,h=>h|o::rest,done,acc,he,hl,h=>by
  refine iK ops rest (done++[o]) _ (by simp[he]) (by simp[hl]) ?_;intro i j hij;have ho:ops[acc.length]? =some o:=by rw[he,hl];simp
  simp only[bq]at hij;by_cases hi:i<acc.length;{rw[ft hi]at hij;exact h i j (by simpa[bq]using hij)};{by_cases hi2:i=acc.length;{subst hi2;simp only[List.getElem?_concat_length,jg]at hij;rcases zA acc j _ _ hij with h1|⟨k,hk,h1⟩;{simp at h1};{have hd:=q4p ho hk;rcases h1 with rfl|h1;{exact .one hd};{exact .step hd (h k j h1)}}};{rw[gb (by simp;omega)]at hij;simp at hij}}
theorem iJ {ops:List Oper} {j i:Nat} (h:c5 ops j i=true):Anc ops j i:=
 iK ops ops [] [] rfl rfl (fun i j h=>by simp at h) i j h
def tmpsOf:List Operand->List Nat
 | []=>[]| .tmp t::l=>t::tmpsOf l|_::l=>tmpsOf l
def lk (ops:Array Oper) (o:Oper):List Nat:=
 tmpsOf o.op.operands.toList++(match o.guard with|some (g,_)=>(match Gw ops g with|some t=>[t] |none=>[])|none=>[])
theorem sB {t:Nat}:∀{l:List Operand},Operand.tmp t∈l->t∈tmpsOf l
 | [],h=>by simp at h
 |y::l,h=>by rcases List.mem_cons.1 h with h1|h1;{subst h1;simp[tmpsOf]};{have:=sB h1;cases y <;> simp[tmpsOf,this]}
theorem q4q {ops:Array Oper} {o:Oper} {t:Nat} (h:t∈o.looksAt ops):t∈lk ops o:=by
 simp only[um,eh,vl]at h;simp only[lk,eh];rcases h with⟨y,hy,ht⟩|h;{left;cases y <;> simp at ht;subst ht;exact sB hy}
 ·right;cases hg:o.guard with
  |none=>simp[hg]at h|some x=>
   obtain⟨g,b⟩:=x;simp only[hg]at h ⊢;simp only[Gw];cases hs:(ops[g]?).bind (·.dst)with
   |none=>simp[hs]at h|some t'=>simpa[hs]using h
def Pj (ops:List Oper) (ts:List Nat):Bool:=
 let m:=OH ops []
 let anc:=fun j i=>(m.getD i 0).testBit j
 let ix:=gf ops.length
 let both:=fun i j=>(decide (j<i)&&anc j i)||(decide (i<j)&&anc i j)
 (ix.all fun i=>match ops[i]? with|some o=>(Ob o).all fun k=>decide (k<i)|none=>true)&&
 (ix.all fun i=>ts.getD i 0 != 2||ix.all fun j=>ts.getD j 0==0||j==i||both i j)&&
 (ix.all fun j=>match(ops[j]?).bind (·.dst)with
  |none=>true
  |some t=>ix.all fun i=>j==i||((match(ops[i]?).bind (·.dst)with|some t'=>t' != t|none=>true)&&
    (match ops[i]? with|some o=> !(lk ops.toArray o).contains t||both i j|none=>true)))
def s00:S:=⟨[],[],fun _=>none,[]⟩
theorem TK (k:Key):s00.obj k=none:=by cases k <;> rfl
def kop (X:Cx) (md:List (Nat × Nat)) (k:Option Nat) (base s:S) (o:Oper) (K0:V->Prop) (K1:V->List (Key × O)->List (Nat × Option Nat)->Prop) (K2:V->S->Prop):Prop:=
 match k with
 |some 0=>iop X md s00 (BH o) o (BL X.gl s) s00 (fun v lo tn=>lo=[]/\tn=[]/\K0 v)\/fop X o (BL X.gl s) K0|some 1=>iop X md base (BH o) o (BL X.gl s) s K1|some 2=>top X md (BH o) o (BL X.gl s) s K2|_=>False
def vd (X:Cx) (md:List (Nat × Nat)) (ops:Array Oper) (Φ:S->Prop):List Oper->List Nat->S->S->Prop
 | [],_,_,s=>Φ s|o::rest,ts,base,s=>
  match o.guard with
  |none=>kop X md ts.head? base s o (fun v=>vd X md ops Φ rest ts.tail base (s.set o.dst v))
    (fun v lo tn=>GD s lo/\GG s tn/\vd X md ops Φ rest ts.tail base ((s.add lo tn).set o.dst v))
    (fun v s'=>vd X md ops Φ rest ts.tail (s'.set o.dst v) (s'.set o.dst v))
  |some (j,want)=>gx (gv ops s j) want (kop X md ts.head? base s o (fun v=>vd X md ops Φ rest ts.tail base (s.set o.dst v))
         (fun v lo tn=>GD s lo/\GG s tn/\vd X md ops Φ rest ts.tail base ((s.add lo tn).set o.dst v))
         (fun v s'=>vd X md ops Φ rest ts.tail (s'.set o.dst v) (s'.set o.dst v)))
     (vd X md ops Φ rest ts.tail base (s.set o.dst (.tup [])))
section
def dX:Res:=⟨0,.any,[],[],s00⟩
def Bd (rl:List Res) (i:Nat):Res:=rl.getD i dX
def cst (s0:S) (ops:List Oper) (rl:List Res):Nat->S
 |0=>s0|i+1=>match ops[i]? with|some o=>(cst s0 ops rl i).step o (Bd rl i)|none=>cst s0 ops rl i
theorem Wn {rl q:List Res} {i:Nat} (h:i<rl.length):Bd (rl++q) i=Bd rl i:=by simp only[Bd,bq,ft h]
theorem QQ (rl:List Res) (r:Res):Bd (rl++[r]) rl.length=r:=by simp[Bd,bq]
theorem Mc {s0:S} {ops:List Oper} {rl q:List Res}:∀i,i<=rl.length->cst s0 ops (rl++q) i=cst s0 ops rl i
 |0,_=>rfl|i+1,h=>by simp only[cst];rw[Mc i (by omega),Wn (by omega)]
theorem Ro {rl q:List Res}:∀i,i<=rl.length->CZ (Bd (rl++q)) i=CZ (Bd rl) i
 |0,_=>rfl|i+1,h=>by simp only[CZ];rw[Ro i (by omega),Wn (by omega)]
section
variable {X:Cx} {Q:S->Prop} {ops:List Oper} {s0:S} {Φ:S->Prop} {ts0:List Nat} {md:List (Nat × Nat)}
structure Pre (X:Cx) (Q:S->Prop) (ops:List Oper) (s0:S) (ts0:List Nat) (pre:List Res):Prop where
 ok:∀i o,i<pre.length->ops[i]? =some o->OkR X Q ops.toArray (cst s0 ops pre (CZ (Bd pre) i)) (cst s0 ops pre i) o (Bd pre i)
 kind:∀i,i<pre.length->(Bd pre i).t=0\/(Bd pre i).t=ts0.getD i 0
 tri:∀i,(Bd pre i).t=0\/(Bd pre i).t=1\/(Bd pre i).t=2
theorem Pre.snoc {pre:List Res} (p:Pre X Q ops s0 ts0 pre) {o:Oper} (ho:ops[pre.length]? =some o) {r:Res}
  (hok:OkR X Q ops.toArray (cst s0 ops pre (CZ (Bd pre) pre.length)) (cst s0 ops pre pre.length) o r) (hk:r.t=0\/r.t=ts0.getD pre.length 0) (z9q:r.t=0\/r.t=1\/r.t=2):Pre X Q ops s0 ts0 (pre++[r]):=by
 have rl:∀i,i<pre.length->Bd (pre++[r]) i=Bd pre i:=fun i h=>Wn h;have cl:∀i,i<=pre.length->cst s0 ops (pre++[r]) i=cst s0 ops pre i:=fun i h=>Mc i h;have tl:∀i,i<=pre.length->CZ (Bd (pre++[r])) i=CZ (Bd pre) i:=fun i h=>Ro i h;have zw:Bd (pre++[r]) pre.length=r:=QQ pre r;have cases_:∀i,i<(pre++[r]).length->i<pre.length\/i=pre.length:=by intro i h;simp at h;omega
 refine⟨?_,?_,?_⟩;{intro i o' hi ho';rcases cases_ i hi with h|rfl;{rw[rl i h,cl i (by omega),tl i (by omega),cl _ (by have:=IJ (Bd pre) i;omega)];exact p.ok i o' h ho'};{rw[ho]at ho';cases ho';rw[zw,cl _ (bx _),tl _ (bx _),cl _ (IJ _ _)];exact hok}};{intro i hi;rcases cases_ i hi with h|rfl;{rw[rl i h];exact p.kind i h};{rw[zw];exact hk}};{intro i;by_cases h:i<pre.length;{rw[rl i h];exact p.tri i};{by_cases h2:i=pre.length;{subst h2;rw[zw];exact z9q};{left;simp only[Bd,bq];rw[gb (by simp;omega)];rfl}}}
theorem zY (hP:BS X.P=true):∀(rest:List Oper) (ts:List Nat) (pre:List Res) (done:List Oper),
  ops=done++rest->pre.length=done.length->ts=ts0.drop pre.length->Pre X Q ops s0 ts0 pre->
  vd X md ops.toArray Φ rest ts (cst s0 ops pre (CZ (Bd pre) pre.length)) (cst s0 ops pre pre.length)->
  ∃rl,rl.length=ops.length/\Pre X Q ops s0 ts0 rl/\Φ (cst s0 ops rl ops.length)
 | [],ts,pre,done,he,hl,_,p,h=>by
  have:pre.length=ops.length:=by rw[he,hl];simp
  exact⟨pre,this,p,by rw[<-this];simpa[vd]using h⟩
 |o::rest,ts,pre,done,he,hl,hts,p,h=>by
  have ho:ops[pre.length]? =some o:=by rw[he,hl];simp
  have next:∀(r:Res),Pre X Q ops s0 ts0 (pre++[r])->
    vd X md ops.toArray Φ rest ts.tail (if r.t=2 then(cst s0 ops pre pre.length).step o r else cst s0 ops pre (CZ (Bd pre) pre.length)) ((cst s0 ops pre pre.length).step o r)->
    ∃rl,rl.length=ops.length/\Pre X Q ops s0 ts0 rl/\Φ (cst s0 ops rl ops.length):=by
   intro r p' hv;refine zY hP rest ts.tail (pre++[r]) (done++[o]) (by simp[he]) (by simp[hl]) ?_ p' ?_;{rw[hts];simp}
   ·have e1:cst s0 ops (pre++[r]) (pre++[r]).length=(cst s0 ops pre pre.length).step o r:=by rw[br];simp only[cg,cr,Nat.zero_add,cst,ho];rw[Mc _ (bx _),QQ]
    have e2:cst s0 ops (pre++[r]) (CZ (Bd (pre++[r])) (pre++[r]).length)=if r.t=2 then(cst s0 ops pre pre.length).step o r else cst s0 ops pre (CZ (Bd pre) pre.length):=by
     have e3:(pre++[r]).length=pre.length+1:=by simp
     rw[e3];simp only[CZ,QQ];split;{rw[<-e3];exact e1};{rw[Ro _ (bx _),Mc _ (IJ _ _)]}
    rw[e1,e2];exact hv
  have kind:∀k,ts.head? =some k->k=ts0.getD pre.length 0:=by intro k hk;rw[hts,wk]at hk;simp[bq,hk]
  simp only[vd]at h;generalize hs:cst s0 ops pre pre.length=s at*
  have skip:Gl ops.toArray s o=some false->vd X md ops.toArray Φ rest ts.tail (cst s0 ops pre (CZ (Bd pre) pre.length)) (s.set o.dst (.tup []))->
    ∃rl,rl.length=ops.length/\Pre X Q ops s0 ts0 rl/\Φ (cst s0 ops rl ops.length):=by
   intro hw hv;exact next ⟨0,.tup [],[],[],s00⟩ (p.snoc ho (.inl ⟨by rw[hs];exact hw,rfl,rfl⟩) (.inl rfl) (.inl rfl)) hv
  have go:Gl ops.toArray s o=some true->kop X md ts.head? (cst s0 ops pre (CZ (Bd pre) pre.length)) s o
      (fun v=>vd X md ops.toArray Φ rest ts.tail (cst s0 ops pre (CZ (Bd pre) pre.length)) (s.set o.dst v))
      (fun v lo tn=>GD s lo/\GG s tn/\vd X md ops.toArray Φ rest ts.tail (cst s0 ops pre (CZ (Bd pre) pre.length)) ((s.add lo tn).set o.dst v))
      (fun v s'=>vd X md ops.toArray Φ rest ts.tail (s'.set o.dst v) (s'.set o.dst v))->∃rl,rl.length=ops.length/\Pre X Q ops s0 ts0 rl/\Φ (cst s0 ops rl ops.length):=by
   intro hw hr;unfold kop at hr;split at hr
   ·rcases hr with hr|hr
    rotate_left
    ·obtain⟨v,hv,hI⟩:=ZB hP hr;have hd:OC X Q o (BL X.gl s) v:=fun Γ w a s' hgl c _ za=>hI Γ w a s' c za;exact next ⟨0,v,[],[],s00⟩ (p.snoc ho (.inr ⟨by rw[hs];exact hw,.inl ⟨rfl,by rw[hs];exact hd⟩⟩) (.inl rfl) (.inl rfl)) hv
    obtain⟨v,lo,tn,⟨rfl,rfl,hv⟩,hI⟩:=Mt hP hr
    have hd:OC X Q o (BL X.gl s) v:=fun Γ w a s' hgl c _ za=>
     hI Γ w a s' hgl c ⟨fun k o h=>(by rw[TK]at h;cases h),fun k o h=>(by rw[TK]at h;cases h)⟩ ⟨fun k o h=>(by simp[AZ]at h),fun t x h=>(by simp[look]at h)⟩ za
    exact next ⟨0,v,[],[],s00⟩ (p.snoc ho (.inr ⟨by rw[hs];exact hw,.inl ⟨rfl,by rw[hs];exact hd⟩⟩) (.inl rfl) (.inl rfl)) hv
   ·rename_i hk;obtain⟨v,lo,tn,⟨hf1,hf2,hv⟩,hI⟩:=Mt hP hr;exact next ⟨1,v,lo,tn,s00⟩ (p.snoc ho (.inr ⟨by rw[hs];exact hw,.inr (.inl ⟨rfl,by rw[hs];exact hI,by rw[hs];exact Ux hf1 hf2⟩)⟩) (.inr (kind 1 hk)) (.inr (.inl rfl))) hv
   ·rename_i hk;obtain⟨v,s1,hv,hT⟩:=XJ hP hr;exact next ⟨2,v,[],[],s1⟩ (p.snoc ho (.inr ⟨by rw[hs];exact hw,.inr (.inr ⟨rfl,by rw[hs];exact hT⟩)⟩) (.inr (kind 2 hk)) (.inr (.inr rfl))) hv
   ·exact hr.elim
  split at h;{rename_i hg;exact go (by simp[Gl,hg]) h}
  ·rename_i j want hg;cases ht:Gw ops.toArray j with
   |none=>simp[gv,ht,gx]at h|some t=>
    simp only[gv,ht]at h;unfold gx at h;split at h;{rename_i cb hb;by_cases hbw:cb.toBool=want;{exact go (by simp[Gl,hg,ht,hb,hbw]) (h.1 hbw)};{exact skip (by simp[Gl,hg,ht,hb,hbw]) (h.2 hbw)}};{rename_i hb;exact skip (by simp[Gl,hg,ht,hb]) h};{exact h.elim}
end
section
variable {X:Cx} {n:Nat} {s:S} {Ψ:Exit->S->Prop}
theorem jH {ops:List Oper} {i j:Nat} (h:((decide (j<i)&&((OH ops []).getD i 0).testBit j)||(decide (i<j)&&((OH ops []).getD j 0).testBit i))=true):(j<i/\Anc ops j i)\/(i<j/\Anc ops i j):=by simp only[od,bg,decide_eq_true_eq]at h;rcases h with⟨h1,h2⟩|⟨h1,h2⟩;{exact .inl ⟨h1,iJ h2⟩};{exact .inr ⟨h1,iJ h2⟩}
theorem tZ {Q:S->Prop} {ops:List Oper} {ts:List Nat} {s0:S} {rl:List Res} (hl:rl.length=ops.length) (p:Pre X Q ops s0 ts rl) (h:Pj ops ts=true):
  Orders ops (Bd rl):=by
 simp only[Pj,bg,dv,gp]at h;obtain⟨⟨h1,h2⟩,h3⟩:=h;refine⟨?_,?_,?_,?_⟩;{intro i j hd;obtain⟨o,ho,_⟩:=id hd;have hi:i<ops.length:=(cd.1 ho).1;have:=h1 i hi;rw[ho]at this;simp only[dv,decide_eq_true_eq]at this;exact this j (q0F ho hd)}
 ·intro i j hi hj ht htj hji;have hk:=p.kind i (by omega);have hti:ts.getD i 0=2:=by rcases hk with h|h <;> omega
  have y0G:ts.getD j 0≠0:=by rcases p.kind j (by omega)with h|h;{exact absurd h htj};{rw[<-h];exact htj}
  have:=h2 i hi;rw[hti]at this;simp only[bne_self_eq_false,jz,dv,gp]at this;have:=this j hj;have e1:(ts.getD j 0==0)=false:=by simpa using y0G
  have e2:(j==i)=false:=by simpa using hji
  rw[e1,e2]at this;simp only[jz]at this;exact jH this
 ·rintro i j t hji ⟨o,ho,hd⟩ ⟨o',ho',hl'⟩;have hj:j<ops.length:=(cd.1 ho).1;have hi:i<ops.length:=(cd.1 ho').1;have:=h3 j hj;rw[ho]at this;simp only[gm,hd,dv,gp]at this;have:=this i hi;have e2:(j==i)=false:=by simpa using hji
  rw[e2,ho']at this;have e3:(lk ops.toArray o').contains t=true:=by simpa using q4q hl'
  simp only[jz,bg,e3,tu]at this;exact jH this.2
 ·rintro i j t ⟨o,ho,hd⟩ ⟨o',ho',hd'⟩;refine qo fun hne=>?_;have hi:i<ops.length:=(cd.1 ho).1;have hj:j<ops.length:=(cd.1 ho').1;have:=h3 j hj;rw[ho']at this;simp only[gm,hd',dv,gp]at this;have:=this i hi;have e2:(j==i)=false:=by simpa using fun e=>hne e.symm
  rw[e2,ho]at this;simp[hd]at this
theorem q0x (hP:BS X.P=true) (hm:X.P.follows .mixedOrders=true) (md:List (Nat × Nat)) {id:Nat} {l:List Oper} (ts:List Nat) (hok:l.all (IP n)=true) (z8L:Pj l ts=true)
  (h:vd X md l.toArray (fun s'=>Ψ .normal s') l ts s s):DC X n (.region id l.toArray true) s Ψ:=by
 have p0:Pre X (fun _=>True) l s ts []:=⟨fun i o h=>by simp at h,fun i h=>by simp at h,fun i=>.inl (by simp[Bd,dX])⟩;obtain⟨rl,hl,p,hΦ⟩:=zY hP l ts [] [] rfl rfl (by simp) p0 h;have K:Canon X l s (Bd rl) (cst s l rl):=⟨rfl,fun i o ho=>by simp only[cst,ho],fun i o ho=>(p.ok i o (by rw[hl];exact(cd.1 ho).1) ho).mono fun _ _=>trivial,p.tri⟩;exact kO hP hm K (tZ hl p z8L) (fun o ho=>dv.1 hok o ho) hΦ
end
end
section
def tK:Nat->Nat
 |3=>2|4=>0|n=>n
def sF (F:List Key) (s:S):S:=⟨[],F.filterMap fun k=>(s.obj k).map fun o=>(k,o),fun _=>none,[]⟩
theorem q39 {F:List Key} {s:S} {k:Key} {o:O}:AZ (F.filterMap fun k=>(s.obj k).map fun o=>(k,o)) k=some o->k∈F/\s.obj k=some o:=by
 induction F with
 |nil=>intro h;simp[AZ]at h|cons f F ih=>
  intro h;simp only[List.filterMap_cons]at h;cases hf:s.obj f with
  |none=>
   rw[hf]at h;exact⟨fp _ (ih h).1,(ih h).2⟩
  |some o'=>
   rw[hf]at h;simp only[gj,AZ]at h;by_cases e:f=k;{subst e;simp at h;subst h;exact⟨List.mem_cons_self ..,hf⟩}
   ·have:(if f=k then some o' else AZ (F.filterMap fun k=>(s.obj k).map fun o=>(k,o)) k)=some o:=by simpa using h
    rw[if_neg e]at this;exact⟨fp _ (ih this).1,(ih this).2⟩
def QF (F:List Key) (s s':S):Prop:=∀k∈F,∀o,s.obj k=some o->s'.obj k=some o
theorem Wr {F:List Key} {s:S} {k:Key} {o:O} (h:(sF F s).obj k=some o):k∈F/\s.obj k=some o:=by
 unfold jt sF Cs at h;dsimp only at h;cases hl:AZ (F.filterMap fun k=>(s.obj k).map fun o=>(k,o)) k with
 |some o'=>
  rw[hl]at h;cases h;exact q39 hl
 |none=>
  rw[hl]at h;cases k <;> cases h
def Jd (X:Cx) (F:List Key) (md:List (Nat × Nat)) (k:Option Nat) (base s:S) (o:Oper) (K0:V->Prop) (K1:V->List (Key × O)->List (Nat × Option Nat)->Prop) (K2:V->S->Prop):Prop:=
 match k with
 |some 4=>iop X md (sF F s) (BH o) o (BL X.gl s) (sF F s) (fun v lo tn=>lo=[]/\tn=[]/\K0 v)|some 3=>top X md (BH o) o (BL X.gl s) s fun v s'=>(∀k∈F,s'.obj k=s.obj k)/\K2 v s'|some 2=>False|k=>kop X md k base s o K0 K1 K2
def vdF (X:Cx) (F:List Key) (md:List (Nat × Nat)) (ops:Array Oper) (Φ:S->Prop):List Oper->List Nat->S->S->Prop
 | [],_,_,s=>Φ s|o::rest,ts,base,s=>
  match o.guard with
  |none=>Jd X F md ts.head? base s o (fun v=>vdF X F md ops Φ rest ts.tail base (s.set o.dst v))
    (fun v lo tn=>GD s lo/\GG s tn/\vdF X F md ops Φ rest ts.tail base ((s.add lo tn).set o.dst v))
    (fun v s'=>vdF X F md ops Φ rest ts.tail (s'.set o.dst v) (s'.set o.dst v))
  |some (j,want)=>gx (gv ops s j) want (Jd X F md ts.head? base s o (fun v=>vdF X F md ops Φ rest ts.tail base (s.set o.dst v))
         (fun v lo tn=>GD s lo/\GG s tn/\vdF X F md ops Φ rest ts.tail base ((s.add lo tn).set o.dst v))
         (fun v s'=>vdF X F md ops Φ rest ts.tail (s'.set o.dst v) (s'.set o.dst v)))
     (vdF X F md ops Φ rest ts.tail base (s.set o.dst (.tup [])))
section
variable {X:Cx} {F:List Key} {ops:List Oper} {s0:S} {Φ:S->Prop} {ts0:List Nat} {md:List (Nat × Nat)}
structure HG (X:Cx) (F:List Key) (ops:List Oper) (s0:S) (ts0:List Nat) (pre:List Res):Prop where
 ok:∀i o,i<pre.length->ops[i]? =some o->OkR X (QF F (cst s0 ops pre i)) ops.toArray (cst s0 ops pre (CZ (Bd pre) i)) (cst s0 ops pre i) o (Bd pre i)
 kind:∀i,i<pre.length->(Bd pre i).t=0\/(Bd pre i).t=tK (ts0.getD i 0)
 tri:∀i,(Bd pre i).t=0\/(Bd pre i).t=1\/(Bd pre i).t=2
 Cn:∀i,i<pre.length->(Bd pre i).t=2->∀k∈F,(Bd pre i).s1.obj k=(cst s0 ops pre i).obj k
theorem HG.snoc {pre:List Res} (p:HG X F ops s0 ts0 pre) {o:Oper} (ho:ops[pre.length]? =some o) {r:Res}
  (hok:OkR X (QF F (cst s0 ops pre pre.length)) ops.toArray (cst s0 ops pre (CZ (Bd pre) pre.length)) (cst s0 ops pre pre.length) o r) (hk:r.t=0\/r.t=tK (ts0.getD pre.length 0)) (z9q:r.t=0\/r.t=1\/r.t=2)
  (y0c:r.t=2->∀k∈F,r.s1.obj k=(cst s0 ops pre pre.length).obj k):HG X F ops s0 ts0 (pre++[r]):=by
 have rl:∀i,i<pre.length->Bd (pre++[r]) i=Bd pre i:=fun i h=>Wn h;have cl:∀i,i<=pre.length->cst s0 ops (pre++[r]) i=cst s0 ops pre i:=fun i h=>Mc i h;have tl:∀i,i<=pre.length->CZ (Bd (pre++[r])) i=CZ (Bd pre) i:=fun i h=>Ro i h;have zw:Bd (pre++[r]) pre.length=r:=QQ pre r;have cases_:∀i,i<(pre++[r]).length->i<pre.length\/i=pre.length:=by intro i h;simp at h;omega
 refine⟨?_,?_,?_,?_⟩;{intro i o' hi ho';rcases cases_ i hi with h|rfl;{rw[rl i h,cl i (by omega),tl i (by omega),cl _ (by have:=IJ (Bd pre) i;omega)];exact p.ok i o' h ho'};{rw[ho]at ho';cases ho';rw[zw,cl _ (bx _),tl _ (bx _),cl _ (IJ _ _)];exact hok}};{intro i hi;rcases cases_ i hi with h|rfl;{rw[rl i h];exact p.kind i h};{rw[zw];exact hk}};{intro i;by_cases h:i<pre.length;{rw[rl i h];exact p.tri i};{by_cases h2:i=pre.length;{subst h2;rw[zw];exact z9q};{left;simp only[Bd,bq];rw[gb (by simp;omega)];rfl}}};{intro i hi ht;rcases cases_ i hi with h|rfl;{rw[rl i h,cl i (by omega)];rw[rl i h]at ht;exact p.Cn i h ht};{rw[zw,cl _ (bx _)];rw[zw]at ht;exact y0c ht}}
theorem zZ (hP:BS X.P=true):∀(rest:List Oper) (ts:List Nat) (pre:List Res) (done:List Oper),
  ops=done++rest->pre.length=done.length->ts=ts0.drop pre.length->HG X F ops s0 ts0 pre->
  vdF X F md ops.toArray Φ rest ts (cst s0 ops pre (CZ (Bd pre) pre.length)) (cst s0 ops pre pre.length)->
  ∃rl,rl.length=ops.length/\HG X F ops s0 ts0 rl/\Φ (cst s0 ops rl ops.length)
 | [],ts,pre,done,he,hl,_,p,h=>by
  have:pre.length=ops.length:=by rw[he,hl];simp
  exact⟨pre,this,p,by rw[<-this];simpa[vdF]using h⟩
 |o::rest,ts,pre,done,he,hl,hts,p,h=>by
  have ho:ops[pre.length]? =some o:=by rw[he,hl];simp
  have next:∀(r:Res),HG X F ops s0 ts0 (pre++[r])->
    vdF X F md ops.toArray Φ rest ts.tail (if r.t=2 then(cst s0 ops pre pre.length).step o r else cst s0 ops pre (CZ (Bd pre) pre.length)) ((cst s0 ops pre pre.length).step o r)->
    ∃rl,rl.length=ops.length/\HG X F ops s0 ts0 rl/\Φ (cst s0 ops rl ops.length):=by
   intro r p' hv;refine zZ hP rest ts.tail (pre++[r]) (done++[o]) (by simp[he]) (by simp[hl]) ?_ p' ?_;{rw[hts];simp}
   ·have e1:cst s0 ops (pre++[r]) (pre++[r]).length=(cst s0 ops pre pre.length).step o r:=by rw[br];simp only[cg,cr,Nat.zero_add,cst,ho];rw[Mc _ (bx _),QQ]
    have e2:cst s0 ops (pre++[r]) (CZ (Bd (pre++[r])) (pre++[r]).length)=if r.t=2 then(cst s0 ops pre pre.length).step o r else cst s0 ops pre (CZ (Bd pre) pre.length):=by
     have e3:(pre++[r]).length=pre.length+1:=by simp
     rw[e3];simp only[CZ,QQ];split;{rw[<-e3];exact e1};{rw[Ro _ (bx _),Mc _ (IJ _ _)]}
    rw[e1,e2];exact hv
  have kind:∀k,ts.head? =some k->k=ts0.getD pre.length 0:=by intro k hk;rw[hts,wk]at hk;simp[bq,hk]
  simp only[vdF]at h;generalize hs:cst s0 ops pre pre.length=s at*
  have skip:Gl ops.toArray s o=some false->vdF X F md ops.toArray Φ rest ts.tail (cst s0 ops pre (CZ (Bd pre) pre.length)) (s.set o.dst (.tup []))->
    ∃rl,rl.length=ops.length/\HG X F ops s0 ts0 rl/\Φ (cst s0 ops rl ops.length):=by
   intro hw hv;exact next ⟨0,.tup [],[],[],s00⟩ (p.snoc ho (.inl ⟨by rw[hs];exact hw,rfl,rfl⟩) (.inl rfl) (.inl rfl) (fun e=>by cases e)) hv
  have go:Gl ops.toArray s o=some true->Jd X F md ts.head? (cst s0 ops pre (CZ (Bd pre) pre.length)) s o
      (fun v=>vdF X F md ops.toArray Φ rest ts.tail (cst s0 ops pre (CZ (Bd pre) pre.length)) (s.set o.dst v))
      (fun v lo tn=>GD s lo/\GG s tn/\vdF X F md ops.toArray Φ rest ts.tail (cst s0 ops pre (CZ (Bd pre) pre.length)) ((s.add lo tn).set o.dst v))
      (fun v s'=>vdF X F md ops.toArray Φ rest ts.tail (s'.set o.dst v) (s'.set o.dst v))->∃rl,rl.length=ops.length/\HG X F ops s0 ts0 rl/\Φ (cst s0 ops rl ops.length):=by
   intro hw hr;unfold Jd at hr;split at hr
   ·obtain⟨v,lo,tn,⟨rfl,rfl,hv⟩,hI⟩:=Mt hP hr
    have hd:OC X (QF F s) o (BL X.gl s) v:=fun Γ w a s' hgl c hq za=>
     hI Γ w a s' hgl c ⟨fun k o h _=>hq k (Wr h).1 o (Wr h).2,fun k o h=>hq k (Wr h).1 o (Wr h).2⟩ ⟨fun k o h=>(by simp[AZ]at h),fun t x h=>(by simp[look]at h)⟩ za
    exact next ⟨0,v,[],[],s00⟩ (p.snoc ho (.inr ⟨by rw[hs];exact hw,.inl ⟨rfl,by rw[hs];exact hd⟩⟩) (.inl rfl) (.inl rfl) (fun e=>by cases e)) hv
   ·rename_i hk;obtain⟨v,s1,⟨hkp,hv⟩,hT⟩:=XJ hP hr;exact next ⟨2,v,[],[],s1⟩ (p.snoc ho (.inr ⟨by rw[hs];exact hw,.inr (.inr ⟨rfl,by rw[hs];exact hT⟩)⟩) (.inr (by rw[<-kind 3 hk];rfl)) (.inr (.inr rfl)) (fun _ k hk=>by rw[hs];exact hkp k hk)) hv
   ·exact hr.elim
   ·rename_i hn4 hn3 hn2;unfold kop at hr;split at hr
    ·rcases hr with hr|hr
     rotate_left
     ·obtain⟨v,hv,hI⟩:=ZB hP hr;have hd:OC X (QF F s) o (BL X.gl s) v:=fun Γ w a s' hgl c _ za=>hI Γ w a s' c za;exact next ⟨0,v,[],[],s00⟩ (p.snoc ho (.inr ⟨by rw[hs];exact hw,.inl ⟨rfl,by rw[hs];exact hd⟩⟩) (.inl rfl) (.inl rfl) (fun e=>by cases e)) hv
     obtain⟨v,lo,tn,⟨rfl,rfl,hv⟩,hI⟩:=Mt hP hr
     have hd:OC X (QF F s) o (BL X.gl s) v:=fun Γ w a s' hgl c _ za=>
      hI Γ w a s' hgl c ⟨fun k o h=>(by rw[TK]at h;cases h),fun k o h=>(by rw[TK]at h;cases h)⟩ ⟨fun k o h=>(by simp[AZ]at h),fun t x h=>(by simp[look]at h)⟩ za
     exact next ⟨0,v,[],[],s00⟩ (p.snoc ho (.inr ⟨by rw[hs];exact hw,.inl ⟨rfl,by rw[hs];exact hd⟩⟩) (.inl rfl) (.inl rfl) (fun e=>by cases e)) hv
    ·rename_i hk;obtain⟨v,lo,tn,⟨hf1,hf2,hv⟩,hI⟩:=Mt hP hr;exact next ⟨1,v,lo,tn,s00⟩ (p.snoc ho (.inr ⟨by rw[hs];exact hw,.inr (.inl ⟨rfl,by rw[hs];exact hI,by rw[hs];exact Ux hf1 hf2⟩)⟩) (.inr (by rw[<-kind 1 hk];rfl)) (.inr (.inl rfl)) (fun e=>by cases e)) hv
    ·rename_i hk;exact absurd hk hn2
    ·exact hr.elim
  split at h;{rename_i hg;exact go (by simp[Gl,hg]) h}
  ·rename_i j want hg;cases ht:Gw ops.toArray j with
   |none=>simp[gv,ht,gx]at h|some t=>
    simp only[gv,ht]at h;unfold gx at h;split at h;{rename_i cb hb;by_cases hbw:cb.toBool=want;{exact go (by simp[Gl,hg,ht,hb,hbw]) (h.1 hbw)};{exact skip (by simp[Gl,hg,ht,hb,hbw]) (h.2 hbw)}};{rename_i hb;exact skip (by simp[Gl,hg,ht,hb]) h};{exact h.elim}
theorem HG.same {rl:List Res} (hl:rl.length=ops.length) (p:HG X F ops s0 ts0 rl) {k:Key} (hk:k∈F) (hs:s0.obj k≠none):∀i,i<=ops.length->(cst s0 ops rl i).obj k=s0.obj k
 |0,_=>rfl|i+1,hi=>by
  have ih:=HG.same hl p hk hs i (by omega);obtain⟨o,ho⟩:=getOp (ops:=ops) (i:=i) (by omega);have hc:cst s0 ops rl (i+1)=(cst s0 ops rl i).step o (Bd rl i):=by simp only[cst,ho]
  have ob:∀{s s':S},om s' (.inl k)=om s (.inl k)->s'.obj k=s.obj k:=fun{s s'} h=>by simp only[om]at h;cases h1:s'.obj k <;> cases h2:s.obj k <;> rw[h1,h2]at h;{cases h};{cases h};{cases h;rfl}
  rw[hc];rcases p.tri i with ht|ht|ht;{rw[ob (congrFun (bX ht) _)];exact ih}
  ·refine Eq.trans (ob ?_) ih;rw[WA ht];cases hr:(Bd rl i).om (.inl k)with
   |none=>rfl|some x=>
    exfalso;rcases p.ok i o (by omega) ho with h1|⟨_,h1|h1|h1⟩;{omega};{omega};{simp only[Res.om,ed]at hr;obtain⟨y,hr,_⟩:=hr;have:=h1.2.2.l k y hr;rw[ih]at this;exact hs this};{omega}
  ·rw[ob (congrFun (tN ht) _),p.Cn i (by omega) ht k hk];exact ih
end
theorem q9w (ts:List Nat) (i:Nat):(ts.map tK).getD i 0=tK (ts.getD i 0):=by simp only[bq,List.getElem?_map];cases ts[i]? <;> rfl
section
variable {X:Cx} {n:Nat} {s:S} {Ψ:Exit->S->Prop}
theorem q0y (hP:BS X.P=true) (hm:X.P.follows .mixedOrders=true) (F:List Key) (md:List (Nat × Nat)) {id:Nat} {l:List Oper} (ts:List Nat) (hok:l.all (IP n)=true) (z8L:Pj l (ts.map tK)=true)
  (hF:∀k∈F,s.obj k≠none) (h:vdF X F md l.toArray (fun s'=>Ψ .normal s') l ts s s):DC X n (.region id l.toArray true) s Ψ:=by
 have p0:HG X F l s ts []:=⟨fun i o h=>by simp at h,fun i h=>by simp at h,fun i=>.inl (by simp[Bd,dX]),fun i h=>by simp at h⟩;obtain⟨rl,hl,p,hΦ⟩:∃rl,rl.length=l.length/\HG X F l s ts rl/\Ψ .normal (cst s l rl l.length):=zZ hP l ts [] [] rfl rfl (by simp) p0 h
 have K:Canon X l s (Bd rl) (cst s l rl):=⟨rfl,fun i o ho=>by simp only[cst,ho],fun i o ho=>by
  have hi:i<l.length:=(cd.1 ho).1;refine(p.ok i o (by rw[hl];exact hi) ho).mono fun s' hq k hk ob hob=>hq k ob fun q hqn=>?_;rw[p.same hl hk (hF k hk) q hqn];rw[p.same hl hk (hF k hk) i (by omega)]at hob;exact hob,p.tri⟩
 have pq:Pre X (fun _=>False) l s (ts.map tK) rl:=⟨fun i o hi ho=>(p.ok i o hi ho).mono fun _ h=>h.elim,fun i hi=>by rw[q9w];exact p.kind i hi,p.tri⟩;exact kO hP hm K (tZ hl pq z8L) (fun o ho=>dv.1 hok o ho) hΦ
end
end
section
def HD (P:Program) (T:TypeId) (τ:Ty) (op:BinOp) (x y:V) (K:V->Prop):Prop:=
 match τ with
 | .int k=>x.isInt k/\(if BinOp.LU op then y.Fv/\Ni op k x.toInt y.toInt K else y.isInt k/\KJ op k x.toInt y.toInt K)| .bool=>x.isBool/\y.isBool/\(match op with| .eql=>K (.d .bool (.bool (x.toBool==y.toBool)))| .neq=>K (.d .bool (.bool (!(x.toBool==y.toBool))))|_=>False)| .str=>x.isStr/\y.isStr/\MB op x.toStr y.toStr K| .ptr=>(match op,x.Hv,y.Hv with| .eql,some a,some true=>K (.d .bool (.bool a))| .neq,some a,some true=>K (.d .bool (.bool (!a)))| .eql,some true,some b=>K (.d .bool (.bool b))| .neq,some true,some b=>K (.d .bool (.bool (!b)))|_,_,_=>False)| .arr n e=>Cr P T=true/\x.Dr (.arr n e)/\y.Dr (.arr n e)/\JN op (sc x.toC y.toC) K| .struct sz os fs=>Cr P T=true/\x.Dr (.struct sz os fs)/\y.Dr (.struct sz os fs)/\JN op (sc x.toC y.toC) K| .slice _ _=>(match op,x.SK,y with| .eql,some r,.ye=>K (Iy r)| .neq,some r,.ye=>K (Iy (r.map (!·)))|_,_,_=>False)|_=>False
section
variable {P:Program} {T:TypeId} {x y:V} {K:V->Prop} {op:BinOp}
theorem q6s:Pp P op T x y K=HD P T (ty P T) op x y K:=rfl
theorem q6i {k:IntKind}:HD P T (.int k) op x y K=(x.isInt k/\(if BinOp.LU op then y.Fv/\Ni op k x.toInt y.toInt K else y.isInt k/\KJ op k x.toInt y.toInt K)):=rfl
theorem q6f:HD P T .bool .eql x y K=(x.isBool/\y.isBool/\K (.d .bool (.bool (x.toBool==y.toBool)))):=rfl
theorem q6g:HD P T .bool .neq x y K=(x.isBool/\y.isBool/\K (.d .bool (.bool (!(x.toBool==y.toBool))))):=rfl
theorem q6r:HD P T .str op x y K=(x.isStr/\y.isStr/\MB op x.toStr y.toStr K):=rfl
theorem q6m {k:Key} {q:List Nat} {τ:Ty}:HD P T .ptr .eql (.ptr k q τ) (.d .ptr .nil) K=K (.d .bool (.bool false)):=rfl
theorem q6n {k:Key} {q:List Nat} {τ:Ty}:HD P T .ptr .neq (.ptr k q τ) (.d .ptr .nil) K=K (.d .bool (.bool true)):=rfl
theorem q6j:HD P T .ptr .eql (.d .ptr .nil) (.d .ptr .nil) K=K (.d .bool (.bool true)):=rfl
theorem q6k:HD P T .ptr .neq (.d .ptr .nil) (.d .ptr .nil) K=K (.d .bool (.bool false)):=rfl
theorem q6p {eb:Nat} {e:Ty} {cs:List C} {t eb':Nat} {e':Ty}:HD P T (.slice eb e) .eql (.sl eb' e' cs t) .ye K=K (Iy (bif cs.isEmpty then none else some false)):=rfl
theorem q6o {eb:Nat} {e:Ty} {c:C} {eb':Nat} {e':Ty}:HD P T (.slice eb e) .eql (.d (.slice eb' e') c) .ye K=K (Iy (bif c.elems.isEmpty then none else some false)):=rfl
theorem q6q {eb:Nat} {e:Ty} {k:Key} {q:List Nat} {lo n:Nat} {cp:Option Nat} {eb':Nat} {e':Ty}:HD P T (.slice eb e) .eql (.sr k q lo n cp eb' e') .ye K=K (Iy (bif n==0 then none else some false)):=rfl
theorem q6h {eb:Nat} {e:Ty} {eb':Nat} {e':Ty}:HD P T (.slice eb e) .eql (.emp eb' e') .ye K=K (.top .bool):=rfl
theorem q6l {eb:Nat} {e:Ty}:HD P T (.slice eb e) .eql .ye .ye K=K (.d .bool (.bool true)):=rfl
theorem q6e {n:Nat} {e:Ty}:HD P T (.arr n e) op x y K=(Cr P T=true/\x.Dr (.arr n e)/\y.Dr (.arr n e)/\JN op (sc x.toC y.toC) K):=rfl
end
theorem AG (n:Int):(C.int n).toInt=n:=rfl
theorem AX (b:Bool):(C.bool b).toBool=b:=rfl
theorem X2 (l:List UInt8):(C.str l).toStr=l:=rfl
theorem AO (cs:List C):(C.slice cs).elems=cs:=rfl
theorem Ab (cs:List C):(C.agg cs).elems=cs:=rfl
theorem X1 (cs:List C) (i:Nat):(C.agg cs).get i=cs.getD i .nil:=rfl
theorem q2j (i j:Nat) (x:V) (e:List (Nat × V)) (l:List (Key × O)) (A:Key->Option O) (tk:List (Nat × Option Nat)):(S.mk ((i,x)::e) l A tk).get j=if i=j then x else(S.mk e l A tk).get j:=by simp only[xg,look];split <;> rfl
theorem get_nil (j:Nat) (l:List (Key × O)) (A:Key->Option O) (tk:List (Nat × Option Nat)):(S.mk [] l A tk).get j= .any:=rfl
theorem q8V (e:List (Nat × V)) (l:List (Key × O)) (A:Key->Option O) (tk:List (Nat × Option Nat)) (d:Nat) (x:V):(S.mk e l A tk).set (some d) x=S.mk (NT e d x) l A tk:=rfl
theorem q8T (s:S) (x:V):s.set none x=s:=rfl
theorem q6c (e:List (Nat × V)) (l:List (Key × O)) (A:Key->Option O) (tk:List (Nat × Option Nat)) (k:Key) (o:O):(S.mk e l A tk).put k o=S.mk e (Se l k o) A tk:=rfl
theorem q98 (e:List (Nat × V)) (l:List (Key × O)) (A:Key->Option O) (tk:List (Nat × Option Nat)) (t:Nat) (x:Option Nat):(S.mk e l A tk).tok t x=S.mk e l A (NT tk t x):=rfl
theorem j8 (e:List (Nat × V)) (l:List (Key × O)) (A:Key->Option O) (tk:List (Nat × Option Nat)) (lo:List (Key × O)) (tn:List (Nat × Option Nat)):(S.mk e l A tk).add lo tn=S.mk e (lo++l) A (tn++tk):=rfl
theorem q5G (e:List (Nat × V)) (A:Key->Option O) (tk:List (Nat × Option Nat)) (k:Key):(S.mk e [] A tk).obj (.g k)=A k:=rfl
theorem q5H (e:List (Nat × V)) (A:Key->Option O) (tk:List (Nat × Option Nat)) (n:Nat):(S.mk e [] A tk).obj (.l n)=none:=rfl
theorem q5F (e:List (Nat × V)) (l:List (Key × O)) (A:Key->Option O) (tk:List (Nat × Option Nat)) (j k:Key) (o:O):(S.mk e ((j,o)::l) A tk).obj k=if j=k then some o else(S.mk e l A tk).obj k:=by simp only[jt,Cs,AZ];by_cases h:j=k <;> simp[h]
theorem q32 (e:List (Nat × V)) (l:List (Key × O)) (A:Key->Option O) (tk:List (Nat × Option Nat)) (t:Nat):(S.mk e l A tk).live t=Ed tk t:=rfl
theorem q31 (t:Nat):Ed [] t=none:=rfl
theorem q30 (u:Nat) (x:Option Nat) (tk:List (Nat × Option Nat)) (t:Nat):Ed ((u,x)::tk) t=if u=t then x else Ed tk t:=by simp only[Ed,look];by_cases h:u=t;{simp only[if_pos h];cases x <;> rfl};{simp only[if_neg h]}
theorem q27 (e:List (Nat × V)) (l:List (Key × O)) (A:Key->Option O) (t:Nat):(S.mk e l A []).known t=false:=rfl
theorem z0l (τ:Ty) (c:C) (i:Nat):(V.d τ c).get i= .d (τ.get i) (c.get i):=rfl
theorem z0k (τ:Ty) (vs:List V) (i:Nat):(V.agg τ vs).get i=vs.getD i .any:=rfl
theorem z0h (x:V):x.at []=x:=by cases x <;> rfl
theorem z0g (x:V) (i:Nat) (q:List Nat):x.at (i::q)=(x.get i).at q:=by rfl
theorem q94 (τ:Ty) (c:C):(V.d τ c).toInt=c.toInt:=rfl
theorem q92 (τ:Ty) (c:C):(V.d τ c).toBool=c.toBool:=rfl
theorem q96 (τ:Ty) (c:C):(V.d τ c).toStr=c.toStr:=rfl
theorem q93 (τ:Ty) (c:C):(V.d τ c).toC=c:=rfl
theorem Q7 (n:Nat) (e:Ty) (i:Nat):(ca n e).get i=e:=rfl
theorem z0e (e:List (Nat × V)) (l:List (Key × O)) (A:Key->Option O) (tk:List (Nat × Option Nat)) (k:Key):(S.mk e l A tk).up k=((S.mk e l A tk).obj k).map (O.ren .g):=rfl
theorem q25 (k:IntKind):(Ty.int k).known=true:=rfl
theorem q2Q (k:IntKind):(Ty.int k).isAgg=false:=rfl
theorem q22:(Ty.bool).known=true:=rfl
theorem q2N:(Ty.bool).isAgg=false:=rfl
theorem q3a:(Ty.str).known=true:=rfl
theorem q2U:(Ty.str).isAgg=false:=rfl
theorem q29 (n:Nat) (e:Ty):(Ty.slice n e).known=true:=rfl
theorem q2T (n:Nat) (e:Ty):(Ty.slice n e).isAgg=false:=rfl
theorem q21 (n:Nat) (e:Ty):(ca n e).known=true:=rfl
theorem q2M (n:Nat) (e:Ty):(ca n e).isAgg=true:=rfl
theorem q28:(Ty.ptr).known=true:=rfl
theorem q2S:(Ty.ptr).isAgg=false:=rfl
theorem q26:(Ty.map).known=true:=rfl
theorem q2R:(Ty.map).isAgg=false:=rfl
theorem q23:(Ty.func).known=true:=rfl
theorem q2O:(Ty.func).isAgg=false:=rfl
theorem q24:(Ty.iface).known=true:=rfl
theorem q2P:(Ty.iface).isAgg=false:=rfl
theorem X8 (n:Nat) (e:Ty) (i:Nat):(ca n e).child i=if i<n then some (i*e.size,e)else none:=rfl
theorem q2Z (n:Nat) (e:Ty):(ca n e).DI=bp n e:=rfl
theorem q8Z (n:Nat) (e:Ty) (i:Nat):(Ty.slice n e).get i=e:=rfl
theorem q4X (d:Nat):Ck [] d=0:=rfl
theorem q4W (j m:Nat) (l:List (Nat × Nat)) (d:Nat):Ck ((j,m)::l) d=if j=d then m else Ck l d:=by simp only[Ck,look];split <;> rfl
section
variable {X:Cx} {md:List (Nat × Nat)} {ops:Array Oper} {Φ:S->Prop} {o:Oper} {rest:List Oper} {s:S}
theorem Cc.mono {f:FuncId} {xs:List V} {A A':Key->Option O} {v:V} {L:List (Key × O)} (h:Cc X f xs A v L) (hA:∀k o,A k=some o->A' k=some o):Cc X f xs A' v L:=
 fun A'' Γ w args hAA=>h A'' Γ w args fun k o hk=>hAA k o (hA k o hk)
end
section
variable {X:Cx} {md:List (Nat × Nat)} {ops:Array Oper} {Φ:S->Prop} {o:Oper} {rest:List Oper} {ts:List Nat} {base s:S}
end
end
section
section
variable {X:Cx} {md:List (Nat × Nat)} {ops:Array Oper} {Φ:S->Prop} {n:List Unit} {u:Unit} {o:Oper} {rest:List Oper} {ts:List Nat} {base s s':S} {dst:Option Nat} {lo:List (Key × O)} {tn:List (Nat × Option Nat)} {d:Option Nat} {op:Op} {T:TypeId} {ps:String} {af:Array Edge} {j:Nat} {want:Bool}
theorem Bu {x:V} {p q:Prop} (h:x= .d .bool (.bool true)):gx x true p q=p:=by subst h;exact Bm p q
theorem Bt {x:V} {p q:Prop} (h:x= .d .bool (.bool true)):gx x false p q=q:=by subst h;exact Bl p q
theorem Bs {x:V} {p q:Prop} (h:x= .d .bool (.bool false)):gx x true p q=q:=by subst h;exact Bk p q
theorem Br {x:V} {p q:Prop} (h:x= .d .bool (.bool false)):gx x false p q=p:=by subst h;exact Bj p q
theorem Bv {x:V} {want:Bool} {p q:Prop} (h:x= .tup []):gx x want p q=q:=by subst h;rfl
def vcK (X:Cx) (md:List (Nat × Nat)) (ops:Array Oper) (Φ:S->Prop) (rest:List Oper) (dst:Option Nat) (v:V) (s:S):Prop:=vc X md ops Φ rest (s.set dst v)
@[go_sem] theorem z7Y:vc X md ops Φ [] s=Φ s:=id rfl
@[go_sem] theorem z7X:vc X md ops Φ (⟨d,op,T,ps,af,none⟩::rest) s=sop X md (BH ⟨d,op,T,ps,af,none⟩) ⟨d,op,T,ps,af,none⟩ s (vcK X md ops Φ rest d):=by simp only[vc];exact id rfl
@[go_sem] theorem z7R (τ:Ty) (c:C):vcK X md ops Φ rest dst (.d τ c) s=vc X md ops Φ rest (s.set dst (.d τ c)):=id rfl
@[go_sem] theorem z7U (eb:Nat) (e:Ty) (cs:List C) (t:Nat):vcK X md ops Φ rest dst (.sl eb e cs t) s=vc X md ops Φ rest (s.set dst (.sl eb e cs t)):=id rfl
@[go_sem] theorem z7S (eb:Nat) (e:Ty):vcK X md ops Φ rest dst (.emp eb e) s=vc X md ops Φ rest (s.set dst (.emp eb e)):=id rfl
@[go_sem] theorem z7T:vcK X md ops Φ rest dst .ye s=vc X md ops Φ rest (s.set dst .ye):=id rfl
@[go_sem] theorem z7V (k:Key) (q:List Nat) (l0 m:Nat) (cp:Option Nat) (eb:Nat) (e:Ty):vcK X md ops Φ rest dst (.sr k q l0 m cp eb e) s=vc X md ops Φ rest (s.set dst (.sr k q l0 m cp eb e)):=id rfl
@[go_sem] theorem z7W (τ:Ty):vcK X md ops Φ rest dst (.top τ) s=vc X md ops Φ rest (s.set dst (.top τ)):=id rfl
end
end
section
mutual
def C.wf:Ty->C->Prop
 | .int k,c=>c= .int c.toInt/\k.min<=c.toInt/\c.toInt<=k.max| .bool,c=>c= .bool c.toBool| .str,c=>c= .str c.toStr/\c.toStr.length<=140737488355328| .slice eb e,c=>c= .slice c.elems/\c.elems.length*eb<=140737488355328/\c.elems.length<=9223372036854775807/\∀x∈c.elems,C.wf e x| .arr n e,c=>c= .agg c.elems/\c.elems.length=n/\∀x∈c.elems,C.wf e x| .struct _ _ fs,c=>c= .agg c.elems/\C.wfs fs c.elems| .opq _,_=>False| .iface,c=>c= .nil\/c= .bool true|_,c=>c= .nil
def C.wfs:List Ty->List C->Prop
 | [],cs=>cs=[]|f::fs,cs=>∃c cs',cs=c::cs'/\C.wf f c/\C.wfs fs cs'
end
theorem C.x9:∀{fs:List Ty} {cs:List C},C.wfs fs cs->cs.length=fs.length
 | [],_,h=>by simp only[C.wfs]at h;simp[h]
 |f::fs,cs,h=>by simp only[C.wfs]at h;obtain⟨c,cs',rfl,_,h⟩:=h;simp[C.x9 h]
theorem C.y9:∀{fs:List Ty} {cs:List C} {i:Nat} {f:Ty},C.wfs fs cs->fs[i]? =some f->C.wf f (cs.getD i .nil)
 | [],_,_,_,_,h=>by simp at h
 |g::fs,cs,i,f,h,hi=>by
  simp only[C.wfs]at h;obtain⟨c,cs',rfl,h1,h2⟩:=h;cases i with
  |zero=>simp at hi;subst hi;simpa using h1|succ i=>simpa using C.y9 h2 (show fs[i]? =some f by simpa using hi)
theorem C.Ti {sz:Nat} {os:List Nat} {fs:List Ty} {c:C} {i:Nat} {f:Ty} (h:C.wf (.struct sz os fs) c) (hi:fs[i]? =some f):C.wf f (c.get i):=by simp only[C.wf]at h;rw[h.1];exact C.y9 h.2 hi
theorem C.z0s {eb:Nat} {e:Ty} {c:C} {i:Nat} (h:C.wf (.slice eb e) c) (hi:i<c.elems.length):C.wf e (c.elems.getD i .nil):=by simp only[C.wf]at h;rw[bq,bo hi];exact h.2.2.2 _ (List.getElem_mem hi)
mutual
theorem AU.wf {H:Hp}:∀{τ:Ty} {vs:List Value} {c:C},AU H τ vs c->C.wf τ c
 | .int k,vs,c,h=>by simp only[AU]at h;obtain⟨n,rfl,_,h1,h2⟩:=h;exact⟨rfl,h1,h2⟩
 | .bool,vs,c,h=>by simp only[AU]at h;obtain⟨n,rfl,_⟩:=h;rfl
 | .str,vs,c,h=>by simp only[AU]at h;obtain⟨n,rfl,_,h1⟩:=h;exact⟨rfl,h1⟩
 | .slice eb e,vs,c,h=>by simp only[AU]at h;obtain⟨a,n,cap,cs,rfl,rfl,h1,h2,h3,h4,h5⟩:=h;simp only[C.wf,ax];refine⟨trivial,by rw[h1];exact h4,by unfold maxLen at h3;omega,fun x hx=>?_⟩;obtain⟨i,hi⟩:=uw hx;rcases h5 with h5|⟨b,off,l,_,_,_,hr⟩;{subst h5;have:=(cd.1 hi).1;omega};{exact AU.wf (hr i x hi)}
 | .arr n e,vs,c,h=>by simp only[AU]at h;obtain⟨cs,rfl,h1,h2,h4,h3⟩:=h;simp only[C.wf,ax];refine⟨trivial,h1,fun x hx=>?_⟩;obtain⟨i,hi⟩:=uw hx;exact AU.wf (h3 i x hi)
 | .struct sz os fs,vs,c,h=>by simp only[AU]at h;obtain⟨cs,rfl,_,_,h2⟩:=h;simp only[C.wf,ax];exact⟨trivial,CN.wf h2⟩
 | .ptr,vs,c,h| .map,vs,c,h| .func,vs,c,h=>by simp only[AU]at h;simp only[C.wf];exact h.1
 | .iface,vs,c,h=>by simp only[AU]at h;simp only[C.wf];rcases h with h|h;{exact .inl h.1};{exact .inr h.1}
 | .opq _,_,_,h=>by simp only[AU]at h
theorem CN.wf {H:Hp}:∀{fs:List Ty} {os:List Nat} {vs:List Value} {cs:List C},CN H fs os vs cs->C.wfs fs cs
 | [],_,_,_,h=>by simp only[CN]at h;simp only[C.wfs];exact h
 |f::fs,o::os,vs,cs,h=>by simp only[CN]at h;obtain⟨c,cs',rfl,_,h2,h3⟩:=h;simp only[C.wfs];exact⟨c,cs',rfl,AU.wf h2,CN.wf h3⟩
 |_::_,[],_,_,h=>by simp[CN]at h
end
mutual
def V.wf:V->Prop
 | .d τ c=>C.wf τ c| .sl eb e cs _=>C.wf (.slice eb e) (.slice cs)| .ts eb e cs=>C.wf (.slice eb e) (.slice cs)| .sr _ _ _ n _ eb _=>n*eb<=140737488355328/\n<=9223372036854775807| .yf τ c=>C.wf τ c| .agg _ vs=>V.wfs vs|_=>True
def V.wfs:List V->Prop
 | []=>True|x::xs=>x.wf/\V.wfs xs
end
mutual
theorem AA.wf {Γ:G} {hm:Option Key}:∀{x:V} {p:List Nat} {vs:List Value},AA Γ hm p x vs->x.wf
 | .d τ c,_,_,h=>by simp only[AA]at h;exact h.wf
 | .sl eb e cs t,_,_,h=>by simp only[AA]at h;obtain⟨a,n,cap,_,h,_⟩:=h;exact h.wf
 | .ts eb e cs,_,_,h=>by simp only[AA]at h;obtain⟨a,n,cap,k,_,_,h,_⟩:=h;exact h.wf
 | .sr _ _ _ n _ eb _,_,_,h=>by simp only[AA]at h;rcases h with⟨_,rfl,_⟩|⟨b,τ0,o,m,cap,_,_,_,_,h1,h2,h3,_⟩;{exact⟨by rw[gq];exact dr _,dr _⟩};exact⟨h3,by unfold maxLen at h2;omega⟩
 | .yf τ c,_,_,h=>by simp only[AA]at h;obtain⟨b,off,l,_,_,_,h⟩:=h;exact h.wf
 | .agg _ vs,_,_,h=>by simp only[AA]at h;exact Ag.wf h.2.2.2.2
 | .emp _ _,_,_,_| .ye,_,_,_| .ptr _ _ _,_,_,_| .mp _,_,_,_| .fn _ _,_,_,_| .tup _,_,_,_| .top _,_,_,_| .any,_,_,_=>by simp only[V.wf]
theorem Ag.wf {Γ:G} {hm:Option Key}:∀{xs:List V} {p:List Nat} {i:Nat} {τ:Ty} {vs:List Value},Ag Γ hm p i τ xs vs->V.wfs xs
 | [],_,_,_,_,_=>by simp only[V.wfs]
 |x::xs,_,_,_,_,h=>by simp only[Ag]at h;obtain⟨⟨o,f,_,_,_,h1⟩,h2⟩:=h;exact⟨AA.wf h1,Ag.wf h2⟩
end
def V.wfT:V->Prop
 | .tup xs=>V.wfs xs|x=>x.wf
theorem Bb.wf {Γ:G}:∀{xs:List V} {vs:List Value},Bb Γ xs vs->V.wfs xs
 | [],_,_=>by simp only[V.wfs]
 |x::xs,_,h=>by simp only[Bb]at h;obtain⟨v,vs',_,h1,_,h2⟩:=h;exact⟨AA.wf h1,Bb.wf h2⟩
theorem AK.wf {Γ:G} {x:V} {v:Value} (h:AK Γ x v):x.wfT:=by
 cases x
 case any=>simp only[V.wfT,V.wf]
 case tup xs=>obtain⟨vs,_,h⟩:=h;exact h.wf
 all_goals exact AA.wf h.1
def O.wf:O->Prop
 | .box x=>x.wf| .map _ _ es=>∀c∈es,c.2.wf| .it _ _| .dead _=>True
structure WF (s:S):Prop where
 slot:∀t,(s.get t).wfT
 obj:∀k x,s.obj k=some (.box x)->x.wf
section
variable {X:Cx} {n:Nat} {s:S} {Ψ:Exit->S->Prop} {c:Code}
theorem At.wf {Γ0:G} {a:Act} {w:World} (h:At X n Γ0 s a w):WF s:=by obtain⟨Γ,_,_,c,hs,_⟩:=h;refine⟨fun t=>(hs t).wf,fun k x hk=>?_⟩;rcases c.obj k _ hk with⟨_,e,rfl⟩|⟨b,cells,T,_,_,_,_,_,h,_⟩;{simp[V.wf,C.wf,ax]};exact h.wf
theorem WF.at {t:Nat} {x:V} (h:WF s) (ht:s.get t=x):x.wfT:=ht ▸ h.slot t
end
theorem Nr {k:IntKind} {n:Int} (h1:k.min<=n) (h2:n<=k.max):k.wrap n=n:=by cases k <;> simp[IntKind.wrap,IntKind.min,IntKind.max,IntKind.bits,IntKind.signed]at h1 h2 ⊢ <;> omega
end
section
attribute [go_sem] eq_self gm Option.bind_none gj oh tu Bool.not_false decide_true decide_false forall_const true_implies false_implies
attribute [go_sem] implies_true not_true not_false_iff sop iop kop fop sl3 Jt LS Qt lk List.head?_cons List.tail_cons List.head?_nil
attribute [go_sem] strOf Ty.Rl Op.operands Call.operands GD GG top q4X q4W pv Pq Ps Sg NU
attribute [go_sem] Sf Pr Pt DA V.Fk cut q6s q6i q6f q6g q6r q6m
attribute [go_sem] q6n q6j q6k q6p q6o q6q q6h q6l Iy q6e fq if_true if_false KJ MB Ni JN BinOp.LU
attribute [go_sem] BH BL YN Pf Db xz Gk V.EH V.Da V.tkR mb q2j
attribute [go_sem] get_nil q8V q8T q6c q98 j8 q5G q5H q5F q32 q31 q30
attribute [go_sem] q27 z0e O.ren V.ren V.Dt NT LR Lv Se LQ TH
attribute [go_sem] E.look AZ Nat.zero_ne_one Nat.one_ne_zero DU EO DD DQ HB FA Ju gOk
attribute [go_sem] tOk S.ret Gd HV Gr dn rk dnL dnT Ev Ib FC
attribute [go_sem] V.sites V.TN V.Cf V.IG V.okH V.SU V.Cg V.GS Gw jg rm or_false
attribute [go_sem] false_or and_true true_and and_self or_true true_or or_self List.nil_append List.cons_append List.append_nil V.isInt V.Fv
attribute [go_sem] V.isBool V.isStr V.Dr q94 q92 q96 q93 AG AX X2 AO Ab
attribute [go_sem] X1 z0h z0g z0l z0k Q7 V.setAt V.set C.set Hg Cj Js
attribute [go_sem] MV qk rp V.BW V.DB V.Hv view views Cl Eo List.map_cons List.map_nil
attribute [go_sem] List.getD_cons_zero List.getD_cons_succ List.set_cons_zero List.set_cons_succ List.all_cons List.all_nil ib ne_eq not_false_eq_true not_true_eq_false Ty.size q25
attribute [go_sem] q2Q q22 q2N q3a q2U q29 q2T q21 q2M q28 q2S q26
attribute [go_sem] q2R q23 q2O q24 q2P X8 q2Z q8Z qf qe kb List.getElem?_cons_zero
attribute [go_sem] fu iq cg cr Nat.lt_add_one Nat.zero_lt_succ ju Bool.true_and Bool.or_true Bool.true_or xk jz
attribute [go_sem] cond_true cond_false Key.l.injEq Key.g.injEq bg List.contains_nil List.contains_cons Bool.and_self decide_eq_true_eq Nat.not_lt_zero bp List.replicate_zero
@[go_sem] theorem z78 (k:IntKind):AI (.int k)= .int 0:=rfl
@[go_sem] theorem z75:AI .bool= .bool false:=rfl
@[go_sem] theorem z8c:AI .str= .str []:=rfl
@[go_sem] theorem z8b (eb:Nat) (e:Ty):AI (.slice eb e)= .slice []:=rfl
@[go_sem] theorem z8a:AI .ptr= .nil:=rfl
@[go_sem] theorem z79:AI .map= .nil:=rfl
@[go_sem] theorem z76:AI .func= .nil:=rfl
@[go_sem] theorem z77:AI .iface= .nil:=rfl
theorem v7 (n:Nat) (e:Ty):AI (.arr n e)= .agg (bp n (AI e)):=rfl
attribute [go_sem] BI V.d.injEq V.emp.injEq
attribute [go_sem] false_and and_false TK Bm Bj Bl Bk gv
attribute [go_sem] GZ Fy Ij QO QM Fh Nd Kc IV HW GN JF V.BZ V.GW O.BZ V.ok vg V.Ds EJ O.okB O.ok Cd CQ List.isEmpty_nil List.isEmpty_cons qf qe
section
variable {X:Cx} {n:Nat} {c:Code} {Ψ:Exit->S->Prop} {md:List (Nat × Nat)} {ops:Array Oper} {Φ:S->Prop} {m:List Unit} {l:List Oper} {ts:List Nat} {dst:Nat} {o:Oper} {K:V->S->Prop} {s s' b b':S}
theorem q08:((0:Nat)=100)=False:=by simp
theorem q09:((3:Nat)=100)=False:=by simp
attribute [go_sem] lop q08 q09 false_or false_and
end
end
section
section
variable {X:Cx} {n:Nat} {s:S} {Ψ:Exit->S->Prop}
theorem Zs {Γ0:G} {ι:Type} (II:ι->S) (μ:ι->Nat) {a:Act} {w:World} (h:∃i,At X n Γ0 (II i) a w):∃m,∃i,At X n Γ0 (II i) a w/\μ i=m/\∀j,At X n Γ0 (II j) a w->m<=μ j:=by
 obtain⟨i,hi⟩:=h;have:∀m i,μ i=m->At X n Γ0 (II i) a w->∃m,∃i,At X n Γ0 (II i) a w/\μ i=m/\∀j,At X n Γ0 (II j) a w->m<=μ j:=by
  intro m
  induction m using xe with
  |_ m ih=>
   intro i hm hi;by_cases h:∃j,At X n Γ0 (II j) a w/\μ j<m;{obtain⟨j,hj,hlt⟩:=h;exact ih _ hlt j rfl hj};{exact⟨m,i,hi,hm,fun j hj=>Nat.le_of_not_lt fun hlt=>h ⟨j,hj,hlt⟩⟩}
 exact this _ i rfl hi
theorem q0B {c rest:Code} (l:Nat) (hf:findLabel c l=some rest) {ι:Type} (II:ι->S) (μ:ι->Nat)
  (first:DC X n c s fun e s'=>match e with| .goto l'=>l'=l/\∃i,EI X n s' (II i)|e=>Ψ e s')
  (pass:∀i,DC X n rest (II i) fun e s'=>match e with| .goto l'=>l'=l/\∃j,EI X n s' (II j)/\μ j<μ i|e=>Ψ e s'):DC X n (.scope c) s Ψ:=by
 intro Γ0 a w hat
 open Classical in
 refine wp_scope_jumps l (fun a w=>∃i,At X n Γ0 (II i) a w) (fun a w=>if h:∃i,At X n Γ0 (II i) a w then Classical.choose (Zs II μ h)else 0) hf ?_ ?_
 ·refine wp_mono (first Γ0 a w hat) ?_;rintro e a' w' ⟨s',h1,h2⟩;cases e with
  |goto l'=>
   obtain⟨e1,i,hi⟩:=h1;exact⟨e1,i,hi Γ0 a' w' h2⟩
  |normal|exit _|ret|panic _|outgrown=>exact⟨s',h1,h2⟩
 ·intro a w hI;obtain⟨i,hi,hm,hmin⟩:=si (Zs II μ hI);refine wp_mono (pass i Γ0 a w hi) ?_;rintro e a' w' ⟨s',h1,h2⟩;cases e with
  |goto l'=>
   obtain⟨e1,j,hj,hlt⟩:=h1;have z8C:=hj Γ0 a' w' h2;have hI':∃i,At X n Γ0 (II i) a' w':=⟨j,z8C⟩;refine⟨e1,hI',?_⟩;obtain⟨i',hi',hm',y0d⟩:=si (Zs II μ hI');have:=y0d j z8C;rw[dif_pos hI',dif_pos hI];omega
  |normal|exit _|ret|panic _|outgrown=>exact⟨s',h1,h2⟩
theorem kS {c:Code} (h:DC X n c s fun e s'=>match e with| .goto _=>False|e=>Ψ e s'):DC X n (.scope c) s Ψ:=by
 intro Γ0 a w hat;refine wp_scope_straight (wp_mono (h Γ0 a w hat) ?_);rintro e a' w' ⟨s',h1,h2⟩;cases e with
 |goto l'=>exact h1.elim|normal|exit _|ret|panic _|outgrown=>exact⟨s',h1,h2⟩
theorem RG {t:Nat} {c c':Code} (hb:s.get t= .top .bool) (h1:DC X n c s Ψ) (h2:DC X n c' s Ψ):DC X n (.cond (.tmp t) c c') s Ψ:=by
 intro Γ0 a w hat;have key:∃b,a.eval (.tmp t)= .bool b:=by obtain⟨Γ,_,_,_,hs,_⟩:=hat;have:=hs t;rw[hb]at this;obtain⟨h1,h2⟩:=(Ca rfl).1 this;rw[DX (by simpa[qk,Ty.isAgg]using h2)]at h1;simp only[AA]at h1;obtain⟨b,hv⟩:=h1.2.2 trivial;exact⟨b,by simp only[List.cons.injEq,and_true]at hv;exact hv⟩
 obtain⟨b,hv⟩:=key;refine wp_cond (t:=b) hv ?_;cases b with
 |true=>exact h1 Γ0 a w hat|false=>exact h2 Γ0 a w hat
theorem z0r {t u eb:Nat} {e:Ty} (hu:s.known u=false) (ht:s.get t= .ye\/s.get t= .emp eb e):EI X n s (S.set {s with tk:=(u,some 0)::s.tk} (some t) (.sl eb e [] u)):=by
 rintro Γ0 a w ⟨Γ,g1,g3,c,hs,hn,hf,hA⟩;obtain⟨c1,p1,g2⟩:=c.EE hu (x:=none) (L:=0) (fun _ _ _ h=>by cases h);refine⟨Γ.EE u none 0,g1.trans g2,g2.gl.trans g3,Qu c1 _ _,fun i=>?_,hn,hf,hA⟩;rw[KF];split
 ·rename_i e1;cases e1;have h0:=hs t;obtain⟨a0,ha⟩:∃a0,a.tmps.getD t undef= .slice a0 0 0:=by rcases ht with h|h;{rw[h]at h0;exact⟨none,GM h0⟩};{rw[h]at h0;obtain⟨h1,_⟩:=(Ch rfl rfl).1 h0;simp only[AA]at h1;obtain⟨a0,h1⟩:=h1;exact⟨a0,by simpa using h1⟩}
  rw[ha];refine(Ch rfl rfl).2 ⟨?_,rfl⟩;simp only[AA];exact⟨a0,0,0,rfl,Eg rfl (bx _) (dr _) (by rw[gq];exact dr _) (.inl rfl),none,0,by simp[G.EE,CT],bx _,fun _=>rfl⟩
 ·exact(hs i).Bn p1
end
attribute [go_sem] IB tkW DW
end
section
theorem C.q1R (a b:C):sc a b=sc b a:=by rw[Bool.eq_iff_iff,C.Gu,C.Gu];exact eq_comm
theorem rN {α:Type}:∀(es:List (C × α)) (c:C) (v:α) (c':C),Fz (FF es c v) c'=if sc c' c=true then some v else Fz es c'
 | [],c,v,c'=>by simp only[FF,Fz]
 |(k,u)::es,c,v,c'=>by
  simp only[FF];by_cases h:sc c k=true;{rw[if_pos h];have:=C.Gu.1 h;subst this;simp only[Fz];split <;> rfl}
  ·rw[if_neg h];simp only[Fz];by_cases h':sc c' k=true
   ·rw[if_pos h',if_pos h'];have:=C.Gu.1 h';subst this;have:sc c' c=false:=by
     cases hh:sc c' c with
     |false=>rfl|true=>rw[C.q1R]at hh;exact absurd hh h
    rw[this];simp
   ·rw[if_neg h',if_neg h',rN es c v c']
def zX (nx:C->C) (c v:C):C->C:=fun c'=>if sc c' c=true then v else nx c'
structure Qe (P:Program) (et:TypeId) (τ:Ty) (es:List (C × V)) (nx:C->C):Prop where
 look:∀c,Hr P et es c= .d τ (nx c)
 all:∀f g,V.Ds f g es=true
 dat:EJ τ es=true
theorem tH {f g:Nat->Bool}:∀{es:List (C × V)} {c:C} {v:V},V.Ds f g es=true->v.ok f g=true->V.Ds f g (FF es c v)=true
 | [],c,v,_,hv=>by simp only[FF,V.Ds,hv,ju]
 |(k,u)::es,c,v,h,hv=>by simp only[V.Ds,bg]at h;simp only[FF];split;{simp only[V.Ds,hv,h.2,ju]};{simp only[V.Ds,h.1,tH h.2 hv,ju]}
theorem iG {τ:Ty}:∀{es:List (C × V)} {c v:C},EJ τ es=true->EJ τ (FF es c (.d τ v))=true
 | [],c,v,_=>by simp only[FF,EJ,(Ty.beq_iff τ τ).2 rfl,ju]
 |(k,u)::es,c,v,h=>by simp only[EJ,bg]at h;simp only[FF];split;{simp only[EJ,(Ty.beq_iff τ τ).2 rfl,h.2,ju]};{simp only[EJ,h.1,iG h.2,ju]}
theorem Qe.put {P:Program} {et:TypeId} {τ:Ty} {es:List (C × V)} {nx:C->C} (h:Qe P et τ es nx) (c v:C):Qe P et τ (FF es c (.d τ v)) (zX nx c v):=by refine⟨fun c'=>?_,fun f g=>tH (h.all f g) rfl,iG h.dat⟩;have:=h.look c';unfold Hr at this ⊢;rw[rN];unfold zX;by_cases e:sc c' c=true;{rw[if_pos e,if_pos e];rfl};{rw[if_neg e,if_neg e];exact this}
theorem Qe.nil {P:Program} {et:TypeId} {τ:Ty} (h:BI (ty P et)= .d τ (AI τ)):Qe P et τ [] (fun _=>AI τ):=⟨fun c=>by
 unfold Hr;simp only[Fz,rm];exact h,fun _ _=>rfl,rfl⟩
section
variable {X:Cx} {n:Nat} {s:S} {Ψ:Exit->S->Prop}
end
attribute [go_sem] Ty.flat V.Cg V.GS
end
section
mutual
def V.Ep:V->V
 | .emp eb e=>.ts eb e []| .agg τ vs=>.agg τ (V.JV vs)|x=>x
def V.JV:List V->List V
 | []=>[]|x::xs=>x.Ep::V.JV xs
end
theorem V.Uf (x:V):x.Ep.ty=x.ty:=by cases x <;> simp[V.Ep,qk]
theorem V.q1M (x:V):x.Ep.plain=x.plain:=by cases x <;> simp[V.Ep,rp]
theorem V.mC:∀xs:List V,(V.JV xs).length=xs.length
 | []=>rfl|x::xs=>by simp[V.JV,V.mC xs]
mutual
theorem V.mB:∀x:V,x.Ep.BW=x.BW
 | .agg τ vs=>by simp only[V.Ep,V.BW];exact V.mD vs
 | .emp _ _| .sl _ _ _ _| .ptr _ _ _| .sr _ _ _ _ _ _ _| .mp _| .d _ _| .ts _ _ _| .ye| .yf _ _| .top _| .any| .fn _ _| .tup _=>by simp[V.Ep,V.BW]
theorem V.mD:∀xs:List V,V.DB (V.JV xs)=V.DB xs
 | []=>rfl|x::xs=>by simp only[V.JV,V.DB,V.mB x,V.mD xs]
end
section
variable {Γ:G} {k:Key}
mutual
theorem AA.Ep:∀(x:V) {p:List Nat} {vs:List Value},AA Γ (some k) p x vs->AA Γ (some k) p x.Ep vs
 | .emp eb e,p,vs,h=>by simp only[AA,V.Ep]at h ⊢;obtain⟨a,rfl⟩:=h;exact⟨a,0,0,k,rfl,rfl,Eg rfl (bx _) (dr _) (by rw[gq];exact dr _) (.inl rfl),.inl rfl⟩
 | .agg τ xs,p,vs,h=>by simp only[AA,V.Ep]at h ⊢;exact⟨h.1,h.2.1,by rw[V.mC];exact h.2.2.1,h.2.2.2.1,Ag.Ep xs h.2.2.2.2⟩
 | .sl _ _ _ _,_,_,h| .ptr _ _ _,_,_,h| .sr _ _ _ _ _ _ _,_,_,h| .mp _,_,_,h| .d _ _,_,_,h| .ts _ _ _,_,_,h| .ye,_,_,h| .yf _ _,_,_,h| .top _,_,_,h| .any,_,_,h| .fn _ _,_,_,h| .tup _,_,_,h=>h
theorem Ag.Ep:∀(xs:List V) {p:List Nat} {i:Nat} {τ:Ty} {vs:List Value},Ag Γ (some k) p i τ xs vs->Ag Γ (some k) p i τ (V.JV xs) vs
 | [],_,_,_,_,_=>by simp only[V.JV,Ag]
 |x::xs,_,_,_,_,h=>by simp only[Ag,V.JV,V.Uf]at h ⊢;obtain⟨⟨o,f,h1,h2,h3,h4⟩,h5⟩:=h;exact⟨⟨o,f,h1,h2,h3,AA.Ep x h4⟩,Ag.Ep xs h5⟩
end
end
theorem z0o {X:Cx} {n:Nat} {s:S} {k:Key} {x:V} (h:s.obj k=some (.box x)):EI X n s (s.put k (.box x.Ep)):=by rintro Γ0 a w ⟨Γ,g1,g3,c,hs,hn,hf,hA⟩;refine⟨Γ,g1,g3,⟨c.hH,c.hZ,c.hκ,fun j o hj=>?_,fun j hj=>?_,c.KI (fun j hj=>?_),c.tok,c.yu,c.hgl,c.hoo,c.hσ⟩,hs,hn,hf,hA⟩;{rw[EG]at hj;split at hj;{rename_i e;subst e;cases hj;rcases c.obj _ _ h with⟨hn,e,rfl⟩|⟨b,cells,T,h1,h2,h3,h4,h5,h6,h7,h8⟩;{exact .inl ⟨hn,e,rfl⟩};exact .inr ⟨b,cells,T,by rw[V.Uf];exact h1,h2,h3,h4,by rw[V.Uf];exact h5,by rw[V.Uf];exact AA.Ep x h6,by rw[V.q1M];exact h7,by rw[V.mB];exact h8⟩};{exact c.obj j o hj}};{rw[EG];split;{simp};{exact c.dom j hj}};{unfold S.CY at hj ⊢;rw[EG];split;{rename_i e;subst e;rw[h]at hj;cases hj};{exact hj}}
attribute [go_sem] V.Ep V.JV
end
end Go.E
