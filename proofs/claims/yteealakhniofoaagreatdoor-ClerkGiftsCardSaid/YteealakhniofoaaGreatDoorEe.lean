/-
 A framework for runs of Go code over abstract data: what it needs, and that it is sound, part 5.
 Conditions: none.
-/
import Derived.Test.YteealakhniofoaaGreatDoorEd
import Derived.ScopeJumps
set_option linter.all false
noncomputable section
set_option maxRecDepth 100000
set_option maxHeartbeats 4000000
open Array renaming all_eq_true'->pz,getD->qg,getD_eq_getD_getElem?->ij,replicate->lb
open Bool renaming and_eq_true->bg,and_true->jx,false_eq_true->fi,false_or->kc,not_eq_true'->jg,not_true->tj,or_eq_true->od,or_eq_true_iff->po,or_false->xm
open Classical renaming byContradiction->qo,choose_spec->se
open Go.Act renaming put->sj
open Go.E.C renaming elems->az,eqb->ry
open Go.E.S renaming get->xi,obj->jv,start->mh
open Go.E.Ty renaming arr->bu
open Go.E.V renaming oks->vf,plain->rn,slot->ya,ty->qk
open Go.Oper renaming looksAt->uh
open Go.Region renaming binds->tu,ready->nz,wanted->jk
open Go.Result renaming andThen_ok->ct
open Go.Sem renaming run_bind->da
open List renaming all_eq_true->dw,countP_append->vj,getD_eq_getElem?_getD->bq,getElem?_append_left->fp,getElem?_cons_succ->fu,getElem?_eq_getElem->bp,getElem?_eq_none->gd,getElem?_eq_some_iff->ca,getElem?_of_mem->uq,getElem?_toArray->kg,head?_drop->wo,length_append->bt,length_cons->cn,length_nil->cu,mem_append->ed,mem_cons_of_mem->fm,mem_filter->mr,mem_filterMap->vk,mem_map->mb,mem_range->gr,range->gh,replicate->bw,size_toArray->ir
open Nat renaming le_of_lt->qz,le_refl->bx,lt_or_ge->lr,lt_succ_iff_lt_or_eq->nq,strongRecOn->xg,zero_le->dr,zero_mul->gu
open Option renaming bind_some->gp,getD_none->rj,getD_some->jh,isSome_none->uu,isSome_some->uv,map_eq_some_iff->ei,map_none->oq,map_some->gm
namespace Go.E
open Go
section
mutual
def V.BW (x:V):V->Prop
 | .d τ c=>(match x with| .yf=>(∃eb e,τ= .slice eb e)/\c= .slice []|x=>Cm x=some c/\x.ty=τ)| .emp eb e=>x= .emp eb e\/x= .yf| .agg τ ws=>(match x with| .agg τ' vs=>τ'=τ/\V.GV vs ws|x=>x= .agg τ ws)| .any=>True|y=>x=y
def V.GV:List V->List V->Prop
 | [],[]=>True|x::xs,y::ys=>V.BW x y/\y.ty=x.ty/\V.GV xs ys|_,_=>False
end
def O.BW:O->O->Prop
 | .box x,.box y=>V.BW x y/\y.ty=x.ty/\y.plain=true/\y.BT=true| .map kτ vτ es,.map kτ' vτ' es'=>kτ=kτ'/\vτ=vτ'/\es=es'| .it l p,.it l' p'=>l=l'/\p=p'|o,.dead τ=>τ=o.ty|_,_=>False
def DQ (tk:List (Nat × Option Nat)) (t:Nat):Bool:=(look tk t).isSome
def Cd (L:List (Key × O)) (n:Nat):Bool:=(AY L (.l n)).isSome
section
variable {Γ:G}
theorem V.nK:∀{xs ys:List V},V.GV xs ys->xs.length=ys.length
 | [],[],_=>rfl|x::xs,y::ys,h=>by simp only[V.GV]at h;simp[V.nK h.2.2]
 | [],_::_,h=>by simp[V.GV]at h
 |_::_,[],h=>by simp[V.GV]at h
mutual
theorem AA.BW {hm:Option Key}:∀(y x:V) {p:List Nat} {vs:List Value},V.BW x y->AA Γ hm p x vs->AA Γ hm p y vs/\(y≠.any->y.ty.isAgg=x.ty.isAgg/\(x≠.yf->y.ty=x.ty))
 | .d τ c,x,p,vs,h,hr=>by
  cases x
  case yf=>
   simp only[V.BW]at h;obtain⟨⟨eb,e,rfl⟩,rfl⟩:=h;simp only[AA]at hr ⊢;subst hr;exact⟨Eb rfl (bx _) (dr _) (by rw[gu];exact dr _) (.inl rfl),fun _=>⟨rfl,fun h=>absurd rfl h⟩⟩
  all_goals
   simp only[V.BW]at h;obtain⟨h1,h2⟩:=h;have:=Kz _ hr h1;rw[h2]at this;exact⟨by simpa only[AA]using this,fun _=>⟨by simp only[qk]at h2 ⊢;rw[h2],fun _=>by simp only[qk]at h2 ⊢;rw[h2]⟩⟩
 | .emp eb e,x,p,vs,h,hr=>by simp only[V.BW]at h;rcases h with rfl|rfl;{exact⟨hr,fun _=>⟨rfl,fun _=>rfl⟩⟩};{simp only[AA]at hr ⊢;subst hr;exact⟨⟨none,rfl⟩,fun _=>⟨rfl,fun h=>absurd rfl h⟩⟩}
 | .agg τ ws,x,p,vs,h,hr=>by
  cases x
  case agg τ' us=>
   simp only[V.BW]at h;obtain⟨rfl,h⟩:=h;simp only[AA]at hr ⊢;obtain⟨r1,r2,r3,r4,r5⟩:=hr;exact⟨⟨r1,r2,by rw[<-V.nK h];exact r3,r4,Aa.BW ws us h r5⟩,fun _=>⟨rfl,fun _=>rfl⟩⟩
  all_goals (simp only[V.BW]at h;cases h)
 | .any,x,p,vs,_,_=>⟨by simp only[AA],fun h=>absurd rfl h⟩| .sl eb e cs t,x,p,vs,h,hr=>by simp only[V.BW]at h;subst h;exact⟨hr,fun _=>⟨rfl,fun _=>rfl⟩⟩
 | .ts eb e cs,x,p,vs,h,hr=>by simp only[V.BW]at h;subst h;exact⟨hr,fun _=>⟨rfl,fun _=>rfl⟩⟩
 | .yf,x,p,vs,h,hr=>by simp only[V.BW]at h;subst h;exact⟨hr,fun _=>⟨rfl,fun _=>rfl⟩⟩
 | .ptr k q τ,x,p,vs,h,hr=>by simp only[V.BW]at h;subst h;exact⟨hr,fun _=>⟨rfl,fun _=>rfl⟩⟩
 | .yg τ c,x,p,vs,h,hr=>by simp only[V.BW]at h;subst h;exact⟨hr,fun _=>⟨rfl,fun _=>rfl⟩⟩
 | .sr k q lo n cp eb e,x,p,vs,h,hr=>by simp only[V.BW]at h;subst h;exact⟨hr,fun _=>⟨rfl,fun _=>rfl⟩⟩
 | .mp k,x,p,vs,h,hr=>by simp only[V.BW]at h;subst h;exact⟨hr,fun _=>⟨rfl,fun _=>rfl⟩⟩
 | .fn f yh,x,p,vs,h,hr=>by simp only[V.BW]at h;subst h;exact⟨hr,fun _=>⟨rfl,fun _=>rfl⟩⟩
 | .tup us,x,p,vs,h,hr=>by simp only[V.BW]at h;subst h;exact⟨hr,fun _=>⟨rfl,fun _=>rfl⟩⟩
 | .top τ,x,p,vs,h,hr=>by simp only[V.BW]at h;subst h;exact⟨hr,fun _=>⟨rfl,fun _=>rfl⟩⟩
theorem Aa.BW {hm:Option Key}:∀(ys xs:List V) {p:List Nat} {i:Nat} {τ:Ty} {vs:List Value},V.GV xs ys->Aa Γ hm p i τ xs vs->Aa Γ hm p i τ ys vs
 | [],[],_,_,_,_,_,h=>h|y::ys,x::xs,p,i,τ,vs,h,hr=>by simp only[V.GV]at h;simp only[Aa]at hr ⊢;obtain⟨⟨o,f,h1,h2,h3,h4⟩,h5⟩:=hr;obtain⟨k1,k2⟩:=AA.BW y x h.1 h4;exact⟨⟨o,f,h1,h.2.1.trans h2,h3,k1⟩,Aa.BW ys xs h.2.2 h5⟩
 | [],_::_,_,_,_,_,h,_=>by simp[V.GV]at h
 |_::_,[],_,_,_,_,h,_=>by simp[V.GV]at h
end
mutual
theorem V.SE {f g f' g':Nat->Bool} (hf:∀n,f n=true->f' n=true) (hg:∀n,g n=true->g' n=true):∀x:V,x.ok f g=true->x.ok f' g'=true
 | .ptr (.l k) _ _,h| .mp (.l k),h| .sr (.l k) _ _ _ _ _ _,h=>by simp only[V.ok]at h ⊢;exact hf _ h
 | .sl _ _ _ t,h=>by simp only[V.ok]at h ⊢;exact hg _ h
 | .agg _ vs,h| .fn _ vs,h| .tup vs,h=>by simp only[V.ok]at h ⊢;exact V.rQ hf hg vs h
 | .ptr (.g _) _ _,_| .mp (.g _),_| .sr (.g _) _ _ _ _ _ _,_| .d _ _,_| .ts _ _ _,_| .emp _ _,_| .yf,_| .yg _ _,_| .top _,_| .any,_=>by simp[V.ok]
theorem V.rQ {f g f' g':Nat->Bool} (hf:∀n,f n=true->f' n=true) (hg:∀n,g n=true->g' n=true):∀xs:List V,vf f g xs=true->vf f' g' xs=true
 | [],_=>rfl|x::xs,h=>by simp only[vf,bg]at h ⊢;exact⟨V.SE hf hg x h.1,V.rQ hf hg xs h.2⟩
end
theorem V.rN {f g f' g':Nat->Bool} (hf:∀n,f n=true->f' n=true) (hg:∀n,g n=true->g' n=true):∀xs:List (C × V),V.Dm f g xs=true->V.Dm f' g' xs=true
 | [],_=>rfl|x::xs,h=>by simp only[V.Dm,bg]at h ⊢;exact⟨V.SE hf hg x.2 h.1,V.rN hf hg xs h.2⟩
theorem O.SE {f g f' g':Nat->Bool} (hf:∀n,f n=true->f' n=true) (hg:∀n,g n=true->g' n=true) (o:O) (h:o.ok f g=true):o.ok f' g'=true:=by
 cases o with
 |box x=>exact V.SE hf hg x h|map=>exact V.rN hf hg _ h|it=>rfl|dead=>rfl
structure Sub (Γ Γ':G) (f g:Nat->Bool):Prop where
 oo:Γ'.oo=Γ.oo
 σ:Γ'.σ=Γ.σ
 H:Γ'.H=Γ.H
 Z:Γ'.Z=Γ.Z
 gl:Γ'.gl=Γ.gl
 ιg:∀k,Γ'.ι (.g k)=Γ.ι (.g k)
 ιl:∀n,f n=true->Γ'.ι (.l n)=Γ.ι (.l n)
 τ:∀t,g t=true->Γ'.τ t=Γ.τ t
 κ:∀b k p sz,Γ.κ b=some (.home k p,sz)->Γ'.κ b=Γ.κ b
variable {Γ':G} {f g:Nat->Bool}
mutual
theorem AA.sub (hs:Sub Γ Γ' f g) {hm:Option Key}:∀(x:V) {p:List Nat} {vs:List Value},x.ok f g=true->AA Γ hm p x vs->AA Γ' hm p x vs
 | .d _ _,_,_,_,h=>by simp only[AA]at h ⊢;rw[hs.H];exact h
 | .sl eb e cs t,_,_,ho,h=>by simp only[AA]at h ⊢;obtain⟨a,n,cap,h1,h2,x,L,h3,h4⟩:=h;exact⟨a,n,cap,h1,by rw[hs.H];exact h2,x,L,by rw[hs.τ t (by simpa[V.ok]using ho)];exact h3,h4⟩
 | .ts eb e cs,_,_,_,h=>by simp only[AA]at h ⊢;obtain⟨a,n,cap,k,h0,h1,h2,h3⟩:=h;refine⟨a,n,cap,k,h0,h1,by rw[hs.H];exact h2,?_⟩;rcases h3 with h3|⟨b,l,sz,a1,a2,a3,a4,a5⟩;{exact .inl h3};{exact .inr ⟨b,l,sz,a1,by rw[hs.H];exact a2,a3,by rw[hs.κ b k _ sz a4];exact a4,a5⟩}
 | .emp _ _,_,_,_,h=>by simpa only[AA]using h
 | .yf,_,_,_,h=>by simpa only[AA]using h
 | .ptr (.l k) q τ,_,_,ho,h=>by simp only[AA]at h ⊢;rw[hs.ιl k (by simpa[V.ok]using ho)];exact h
 | .ptr (.g k) q τ,_,_,_,h=>by simp only[AA]at h ⊢;rw[hs.ιg];exact h
 | .yg τ c,_,_,_,h=>by simp only[AA]at h ⊢;rw[hs.H];exact h
 | .sr (.l k) _ _ _ _ _ _,_,_,ho,h=>by simp only[AA]at h ⊢;rw[hs.ιl k (by simpa[V.ok]using ho),hs.σ];exact h
 | .sr (.g k) _ _ _ _ _ _,_,_,_,h=>by simp only[AA]at h ⊢;rw[hs.ιg,hs.σ];exact h
 | .mp (.l k),_,_,ho,h=>by simp only[AA]at h ⊢;rw[hs.ιl k (by simpa[V.ok]using ho)];exact h
 | .mp (.g k),_,_,_,h=>by simp only[AA]at h ⊢;rw[hs.ιg];exact h
 | .agg τ xs,_,_,ho,h=>by simp only[AA]at h ⊢;exact⟨h.1,h.2.1,h.2.2.1,h.2.2.2.1,Aa.sub hs xs (by simpa[V.ok]using ho) h.2.2.2.2⟩
 | .fn _ yh,_,_,ho,h=>by simp only[AA]at h ⊢;obtain⟨cv,h1,h2⟩:=h;exact⟨cv,h1,BX.sub hs yh (by simpa[V.ok]using ho) h2⟩
 | .tup _,_,_,_,h=>by simp only[AA]at h
 | .top _,_,_,_,h=>by simpa only[AA]using h
 | .any,_,_,_,_=>by simp only[AA]
theorem Aa.sub (hs:Sub Γ Γ' f g) {hm:Option Key}:∀(xs:List V) {p:List Nat} {i:Nat} {τ:Ty} {vs:List Value},vf f g xs=true->Aa Γ hm p i τ xs vs->Aa Γ' hm p i τ xs vs
 | [],_,_,_,_,_,_=>by simp only[Aa]
 |x::xs,_,_,_,_,ho,h=>by simp only[Aa]at h ⊢;simp only[vf,bg]at ho;obtain⟨⟨o,ff,h1,h2,h3,h4⟩,h5⟩:=h;exact⟨⟨o,ff,h1,h2,h3,AA.sub hs x ho.1 h4⟩,Aa.sub hs xs ho.2 h5⟩
theorem BX.sub (hs:Sub Γ Γ' f g):∀(xs:List V) {vs:List Value},vf f g xs=true->BX Γ xs vs->BX Γ' xs vs
 | [],_,_,h=>by simpa only[BX]using h
 |x::xs,_,ho,h=>by simp only[BX]at h ⊢;simp only[vf,bg]at ho;obtain⟨v,vs',h1,h2,h3,h4⟩:=h;exact⟨v,vs',h1,AA.sub hs x ho.1 h2,h3,BX.sub hs xs ho.2 h4⟩
end
theorem AI.sub (hs:Sub Γ Γ' f g) {x:V} {v:Value} (ho:x.ok f g=true) (h:AI Γ x v):AI Γ' x v:=by
 cases x
 case any=>trivial
 case tup us=>obtain⟨vs,h1,h2⟩:=h;exact⟨vs,h1,BX.sub hs _ (by simpa[V.ok]using ho) h2⟩
 all_goals exact⟨AA.sub hs _ ho h.1,h.2⟩
theorem rM {f g:Nat->Bool}:∀{es:List (C × V)} {i:Nat} {c:C × V},V.Dm f g es=true->es[i]? =some c->c.2.ok f g=true
 | [],_,_,_,h=>by simp at h
 |x::xs,0,c,h,hc=>by simp[V.Dm]at h;simp at hc;subst hc;exact h.1
 |x::xs,i+1,c,h,hc=>by simp[V.Dm]at h;exact rM h.2 (by simpa using hc)
theorem tE:∀{l:List Ty} {i:Nat} {t:Ty},Ty.SI l=true->l[i]? =some t->t.Er=true
 | [],_,_,_,h=>by cases h
 |x::l,0,t,h,hi=>by simp only[Ty.SI,bg]at h;simp at hi;subst hi;exact h.1
 |x::l,i+1,t,h,hi=>by simp only[Ty.SI,bg]at h;exact tE h.2 (by simpa using hi)
theorem q44 {τ f:Ty} {i o:Nat} (h:τ.Er=true) (hc:τ.child i=some (o,f)):f.Er=true:=by
 cases τ with
 |struct sz os fs=>
  simp only[Ty.child]at hc;split at hc;{rename_i o' f' h1 h2;cases hc;exact tE (by simpa only[Ty.Er]using h) h2};{cases hc}
 |arr n e=>
  simp only[Ty.child]at hc;split at hc;{cases hc;simpa only[Ty.Er]using h};{cases hc}
 |_=>cases hc
mutual
theorem AA.plain (hH:Γ'.H=Γ.H) {hm:Option Key}:∀(x:V) {p:List Nat} {vs:List Value},x.ty.Er=true->AA Γ hm p x vs->AA Γ' hm p x vs
 | .d _ _,_,_,_,h=>by simp only[AA]at h ⊢;rw[hH];exact h
 | .top _,_,_,_,h=>by simpa only[AA]using h
 | .agg τ xs,p,vs,ht,h=>by simp only[AA]at h ⊢;exact⟨h.1,h.2.1,h.2.2.1,h.2.2.2.1,Aa.plain hH xs ht h.2.2.2.2⟩
 | .sl ..,_,_,ht,_=>by simp[qk,Ty.Er]at ht
 | .ts ..,_,_,ht,_=>by simp[qk,Ty.Er]at ht
 | .emp ..,_,_,ht,_=>by simp[qk,Ty.Er]at ht
 | .yf,_,_,ht,_=>by simp[qk,Ty.Er]at ht
 | .ptr ..,_,_,ht,_=>by simp[qk,Ty.Er]at ht
 | .yg ..,_,_,ht,_=>by simp[qk,Ty.Er]at ht
 | .sr ..,_,_,ht,_=>by simp[qk,Ty.Er]at ht
 | .mp ..,_,_,ht,_=>by simp[qk,Ty.Er]at ht
 | .fn ..,_,_,ht,_=>by simp[qk,Ty.Er]at ht
 | .tup ..,_,_,ht,_=>by simp[qk,Ty.Er]at ht
 | .any,_,_,ht,_=>by simp[qk,Ty.Er]at ht
theorem Aa.plain (hH:Γ'.H=Γ.H) {hm:Option Key} {p:List Nat}:∀(xs:List V) {i:Nat} {τ:Ty} {vs:List Value},τ.Er=true->Aa Γ hm p i τ xs vs->Aa Γ' hm p i τ xs vs
 | [],_,_,_,_,_=>by simp[Aa]
 |x::xs,i,τ,vs,ht,h=>by simp only[Aa]at h ⊢;obtain⟨⟨o,f,h1,h2,h3,h4⟩,h5⟩:=h;exact⟨⟨o,f,h1,h2,h3,AA.plain hH x (by rw[h2];exact q44 ht h1) h4⟩,Aa.plain hH xs ht h5⟩
end
def O.okP (f g:Nat->Bool):O->Bool
 | .map _ vτ es=>vτ.Er||V.Dm f g es|o=>o.ok f g
theorem O.q4F {f g:Nat->Bool} {o:O} (h:o.ok f g=true):o.okP f g=true:=by
 cases o with
 |map=>exact po.2 (.inr h)|_=>exact h
theorem Own.sub (hs:Sub Γ Γ' f g) {w:World} {k:Key} {o:O} (hk:Γ'.ι k=Γ.ι k) (ho:o.okP f g=true) (h:Own Γ w k o):Own Γ' w k o:=by
 cases o with
 |box x=>
  obtain⟨b,cells,T,h1,h2,h3,h4,h5,h6,h7⟩:=h;exact⟨b,cells,T,by rw[hk];exact h1,by rw[hs.H];exact h2,by rw[hs.Z];exact h3,h4,h5,AA.sub hs x ho h6,h7⟩
 |map kτ vτ es=>
  obtain⟨b,ms,clock,h1,h2,h3,h4,h5,h6,h7⟩:=h;refine⟨b,ms,clock,by rw[hk];exact h1,by rw[hs.H];exact h2,by rw[hs.Z];exact h3,h4,h5,fun i m c hm hc=>?_,h7⟩;obtain⟨a1,a2,a3,a4⟩:=h6 i m c hm hc;simp only[O.okP,od]at ho;rcases ho with ho|ho;{exact⟨by rw[hs.H];exact a1,a2,AA.plain hs.H _ (by rw[a4.2.1];exact ho) a3,a4⟩};{exact⟨by rw[hs.H];exact a1,a2,AA.sub hs _ (rM ho hc) a3,a4⟩}
 |it l pos=>
  obtain⟨b,adr,v,h1,h2,h3,h4,h5,h6,h7⟩:=h;refine⟨b,adr,v,by rw[hk];exact h1,by rw[hs.H];exact h2,by rw[hs.Z];exact h3,h4,h5,h6,?_⟩;rcases h7 with h7|⟨g,cap,g1,g2,g3,g4⟩;{exact .inl h7};{exact .inr ⟨g,cap,g1,by rw[hs.H];exact g2,by rw[hs.κ g _ _ _ g3];exact g3,g4⟩}
 |dead τ=>
  obtain⟨b,h1,h4⟩:=h;exact⟨b,by rw[hk];exact h1,h4⟩
theorem Own.BW {w:World} {k:Key} {o o':O} (hi:O.BW o o') (h:Own Γ w k o):Own Γ w k o':=by
 cases o' with
 |dead τ=>
  have e:τ=o.ty:=by cases o <;> exact hi
  obtain⟨b,τ',h1,_,h4,h5⟩:=h.block;exact⟨b,by rw[e,<-h5];exact h1,h4⟩
 |box y=>cases o with
  |box x=>
   obtain⟨b,cells,T,h1,h2,h3,h4,h5,h6,h7,h8⟩:=h;obtain⟨i1,ht,i2,i3⟩:=hi;obtain⟨r1,_⟩:=AA.BW y x i1 h6;exact⟨b,cells,T,by rw[ht];exact h1,h2,h3,h4,by rw[ht];exact h5,by rw[ht];exact r1,i2,i3⟩
  |_=>exact hi.elim
 |map kτ vτ es=>cases o with
  |map=>obtain⟨rfl,rfl,rfl⟩:=hi;exact h
  |_=>exact hi.elim
 |it l p=>cases o with
  |it=>obtain⟨rfl,rfl⟩:=hi;exact h
  |_=>exact hi.elim
theorem O.q1U {o o':O} (hi:O.BW o o') (h:o.Jo):o'.Jo:=by
 cases o' with
 |dead=>trivial|box y=>cases o with
  |box x=>
   obtain⟨e,rfl⟩:=h;obtain⟨i1,_,i2,_⟩:=hi;cases y <;> simp only[V.BW,rn,reduceCtorEq,or_self,fi]at i1 i2;obtain⟨h1,rfl⟩:=i1;simp only[Cm,Option.some.injEq]at h1;subst h1;exact⟨e,rfl⟩
  |_=>exact hi.elim
 |map kτ vτ es=>cases o with|map=>exact h.elim|_=>exact hi.elim
 |it l p=>cases o with|it=>exact h.elim|_=>exact hi.elim
theorem O.nJ {o o':O} (hi:O.BW o o') (h:o.FG=true):o'.FG=true:=by cases o <;> simp[O.FG]at h;cases o' <;> first|rfl|exact hi.elim
end
end
section
def GY (s:S):List (Key × O)->Prop
 | []=>True|(k,o)::l=>(match s.obj k with|some o0=>O.BW o0 o|none=>False)/\GY s l
def EF (τ:Ty):List (C × V)->Bool
 | []=>true|(_,v)::l=>(match v with| .d τ' _=>Ty.beq τ' τ|_=>false)&&EF τ l
theorem fX {f g:Nat->Bool} {τ:Ty}:∀{es:List (C × V)},EF τ es=true->V.Dm f g es=true
 | [],_=>rfl|(_,v)::l,h=>by simp only[EF,bg]at h;simp only[V.Dm,bg];refine⟨?_,fX h.2⟩;cases v <;> simp at h;rfl
def O.okB (f g:Nat->Bool):O->Bool
 | .map _ vτ es=>vτ.Er||EF vτ es|o=>o.ok f g
theorem O.q4E {f g:Nat->Bool} {o:O} (h:o.okB f g=true):o.okP f g=true:=by
 cases o with
 |map kτ vτ es=>
  simp only[O.okB,O.okP,od]at h ⊢;exact h.imp id fX
 |_=>exact h
def Fu (f g:Nat->Bool):List (Key × O)->Bool
 | []=>true|(_,o)::l=>o.okB f g&&Fu f g l
def Ij (L:List (Key × O)) (A:Key->Option O):List (Key × O)->Prop
 | []=>True|(.g k,o)::l=>((AY L (.g k)).isSome=true\/A k=some o)/\Ij L A l|(.l _,_)::l=>Ij L A l
def IC (f g:Nat->Bool) (s:S):List (Nat × V)->Prop
 | []=>True|(i,x)::l=>V.BW (s.get i) x/\x.ok f g=true/\(x= .any\/x.ty.isAgg=(s.get i).ty.isAgg)/\IC f g s l
def tkW (s:S):List (Nat × Option Nat)->Prop
 | []=>True|(t,x)::l=>(match x with|some L=>s.live t=some L|none=>s.known t=true)/\tkW s l
theorem VA {s:S}:∀{l:List (Key × O)} {k:Key} {o:O},GY s l->AY l k=some o->∃o0,s.obj k=some o0/\O.BW o0 o
 | [],_,_,_,h=>by simp[AY]at h
 |(j,p)::l,k,o,hw,h=>by simp only[AY]at h;split at h;{rename_i e;cases h;subst e;have:=hw.1;split at this;{rename_i o0 ho;exact⟨o0,ho,this⟩};{exact this.elim}};{exact VA hw.2 h}
theorem pO {f g:Nat->Bool}:∀{l:List (Key × O)} {k:Key} {o:O},Fu f g l=true->AY l k=some o->o.okP f g=true
 | [],_,_,_,h=>by simp[AY]at h
 |(j,p)::l,k,o,hw,h=>by simp only[AY]at h;simp only[Fu,bg]at hw;split at h;{cases h;exact O.q4E hw.1};{exact pO hw.2 h}
theorem XO {L:List (Key × O)} {A:Key->Option O}:∀{l:List (Key × O)} {k:Key} {o:O},Ij L A l->AY l (.g k)=some o->(AY L (.g k)).isSome=true\/A k=some o
 | [],_,_,_,h=>by simp[AY]at h
 |(.l j,p)::l,k,o,hw,h=>by simp[AY]at h;exact XO (l:=l) hw h
 |(.g j,p)::l,k,o,hw,h=>by simp only[AY]at h;split at h;{rename_i e;cases e;cases h;exact hw.1};{exact XO hw.2 h}
theorem YN {f g:Nat->Bool} {s:S}:∀{l:List (Nat × V)} {i:Nat} {x:V},IC f g s l->look l i=some x->V.BW (s.get i) x/\x.ok f g=true/\(x= .any\/x.ty.isAgg=(s.get i).ty.isAgg)
 | [],_,_,_,h=>by simp[look]at h
 |(j,y)::l,i,x,hw,h=>by simp only[look]at h;split at h;{rename_i e;cases h;subst e;exact⟨hw.1,hw.2.1,hw.2.2.1⟩};{exact YN hw.2.2.2 h}
theorem eI {s:S}:∀{l:List (Nat × Option Nat)} {t:Nat} {x:Option Nat},tkW s l->look l t=some x->match x with|some L=>s.live t=some L|none=>s.known t=true
 | [],_,_,_,h=>by simp[look]at h
 |(j,y)::l,t,x,hw,h=>by simp only[look]at h;split at h;{rename_i e;cases h;subst e;exact hw.1};{exact eI hw.2 h}
section
variable {Γ:G} {w:World} {s:S}
theorem Va {s':S} (hA:s'.A=s.A) (hg:Ij s'.loc s.A s.loc) {k:Key} (h:AY s'.loc (.g k)=none):s'.obj (.g k)=s.obj (.g k):=by
 unfold jv Cs;rw[h];simp only;cases ho:AY s.loc (.g k)with
 |none=>rw[hA]|some o=>
  rcases XO hg ho with h1|h1;{rw[h]at h1;cases h1};{rw[hA];exact h1}
theorem AX.sub (c:AX Γ w s) {Γ':G} {f g:Nat->Bool} {s':S} (hs:Sub Γ Γ' f g) (hf:f=Cd s'.loc) (hι:∀n,f n=false->Γ'.ι (.l n)=none) (hA:s'.A=s.A) (ze:AOk s.A)
  (z6P:GY s s'.loc) (z60:Fu f g s'.loc=true) (hg:Ij s'.loc s.A s.loc)
  (hκ:∀b o sz,Γ'.κ b=some (o,sz)->∃o',Γ.κ b=some (o',sz)/\∀T,MM o' T->MM o T)
  (tok:∀t L,s'.live t=some L->∃x,Γ'.τ t=some (x,L)/\∀b pos sz,x=some (b,pos,sz)->(∃l,Γ.H b=some l/\l.length=pos)/\Γ'.κ b=some (.tok t,sz))
  (yv:∀t,Γ'.τ t≠none->s'.known t=true):AX Γ' w s':=by
 subst hf;have hfl:∀n,Cd s'.loc n=true↔AY s'.loc (.l n)≠none:=by intro n;unfold Cd;cases AY s'.loc (.l n) <;> simp
 have z8E:∀k o,s'.obj k=some o->Γ'.ι k=Γ.ι k:=by
  intro k o h;cases k with
  |g k=>exact hs.ιg k|l n=>
   refine hs.ιl n ?_;rw[hfl];unfold jv Cs at h;intro e;rw[e]at h;cases h
 refine⟨fun b l h=>c.hH b l (by rw[<-hs.H];exact h),fun b o h=>c.hZ b o (by rw[<-hs.Z];exact h),fun b o sz h=>?_,fun k o h=>?_,fun k h=>?_,fun k k' b τ τ' h1 h2=>?_,fun t L h=>?_,yv,fun gg τ cc h=>?_,by rw[hs.oo];exact c.hoo,fun b sz h=>c.hσ b sz (by rw[<-hs.σ];exact h)⟩;{obtain⟨o',h',hT⟩:=hκ b o sz h;obtain⟨a1,a2,arr,T,a3,a4,a5⟩:=c.hκ b o' sz h';exact⟨by rw[hs.Z];exact a1,by rw[hs.H];exact a2,arr,T,a3,a4,hT T a5⟩}
 ·have hk:=z8E k o h;cases hl:AY s'.loc k with
  |some o1=>
   have:o1=o:=by unfold jv Cs at h;rw[hl]at h;cases h;rfl
   subst this;obtain⟨o0,ho,hi⟩:=VA z6P hl;exact(c.obj k o0 ho).imp (fun h=>⟨hk.trans h.1,O.q1U hi h.2⟩) fun yq=>(yq.BW hi).sub hs hk (pO z60 hl)
  |none=>
   cases k with
   |l n=>unfold jv Cs at h;rw[hl]at h;cases h
   |g k=>
    have h':s.obj (.g k)=some o:=by rw[<-Va hA hg hl];exact h
    have hAk:s.A k=some o:=by
     have h2:s'.A k=some o:=by unfold jv Cs at h;rw[hl]at h;exact h
     rw[<-hA];exact h2
    exact(c.obj _ o h').imp (fun h=>⟨hk.trans h.1,h.2⟩) fun yq=>yq.sub hs hk (O.q4F (O.SE (by simp[CP]) (by simp[CP]) o (ze k o hAk)))
 ·cases k with
  |l n=>
   cases hh:Cd s'.loc n with
   |false=>exact absurd (hι n hh) h|true=>
    have:=(hfl n).1 hh;unfold jv Cs;cases hl:AY s'.loc (.l n)with
    |none=>exact absurd hl this|some o=>simp
  |g k=>
   rw[hs.ιg]at h;have:=c.dom _ h;cases hl:AY s'.loc (.g k)with
   |some o=>unfold jv Cs;rw[hl];simp|none=>rw[Va hA hg hl];exact this
 ·have back:∀k x,Γ'.ι k=some x->Γ.ι k=some x:=by
   intro k x h;cases k with
   |g k=>rw[<-hs.ιg];exact h|l n=>
    cases hh:Cd s'.loc n with
    |false=>rw[hι n hh]at h;cases h
    |true=>rw[<-hs.ιl n hh];exact h
  have yw:∀k x,Γ'.ι k=some x->s.CY k=true->s'.CY k=true:=by
   intro k x hx h;cases hl:AY s'.loc k with
   |some o1=>
    obtain⟨o0,ho,hi⟩:=VA z6P hl;rw[FO ho]at h;have e:s'.obj k=some o1:=by unfold jv Cs;rw[hl]
    rw[FO e];exact O.nJ hi h
   |none=>
    cases k with
    |g k=>unfold S.CY at h ⊢;rw[Va hA hg hl];exact h|l n=>
     cases hh:Cd s'.loc n with
     |false=>rw[hι n hh]at hx;cases hx
     |true=>exact absurd hl ((hfl n).1 hh)
  exact(c.inj k k' b τ τ' (back _ _ h1) (back _ _ h2)).imp id (And.imp (Or.imp (yw _ _ h1) (yw _ _ h2)) id)
 ·obtain⟨x,a1,a2⟩:=tok t L h;refine⟨x,a1,fun b pos sz hx=>?_⟩;obtain⟨a3,a4⟩:=a2 b pos sz hx;exact⟨by rw[hs.H];exact a3,a4⟩
 ·rw[hs.H];exact c.hgl gg τ cc (by rw[<-hs.gl];exact h)
end
def G.part (Γ:G) (f g:Nat->Bool):G:=
 {Γ with ι:=fun k=>match k with| .l n=>if f n then Γ.ι (.l n)else none| .g k=>Γ.ι (.g k),τ:=fun t=>if g t then Γ.τ t else none}
theorem yV {X:Cx} {n:Nat} {s s':S} (hA:s'.A=s.A) (z6P:GY s s'.loc) (z60:Fu (Cd s'.loc) (DQ s'.tk) s'.loc=true) (hg:Ij s'.loc s.A s.loc)
  (htk:tkW s s'.tk) (zm:IC (Cd s'.loc) (DQ s'.tk) s s'.env):EE X n s s':=by
 rintro Γ0 a w ⟨Γ,g1,g3,c,hs,hn,hf,ze⟩
 have sub:Sub Γ (Γ.part (Cd s'.loc) (DQ s'.tk)) (Cd s'.loc) (DQ s'.tk):=
  ⟨rfl,rfl,rfl,rfl,rfl,fun _=>rfl,fun n h=>by simp[G.part,h],fun t h=>by simp[G.part,h],fun _ _ _ _ _=>rfl⟩
 refine⟨Γ.part (Cd s'.loc) (DQ s'.tk),⟨g1.H,g1.Z,g1.ZH,g1.g,g1.gl,g1.oo,g1.σ,g1.gn⟩,g3,c.sub sub rfl (fun n h=>by simp[G.part,h]) hA ze z6P z60 hg (fun b o sz h=>⟨o,h,fun _ h=>h⟩) (fun t L h=>?_) (fun t h=>?_),fun i=>?_,hn,hf,by rw[hA];exact ze⟩
 ·unfold S.live EZ at h;cases hl:look s'.tk t with
  |none=>simp[hl]at h|some x=>
   cases x with
   |none=>simp[hl]at h|some M=>
    simp[hl]at h;subst h;have z6M:s.live t=some M:=eI htk hl;obtain⟨x,a1,a2⟩:=c.tok t M z6M;exact⟨x,by simp[G.part,DQ,hl,a1],fun b pos sz hx=>a2 b pos sz hx⟩
 ·cases hh:DQ s'.tk t with|true=>exact hh|false=>simp[G.part,hh]at h
 ·cases hl:look s'.env i with
  |none=>simp[xi,hl,AI]|some x=>
   obtain⟨e1,e2,e3⟩:=YN zm hl;have z6X:s'.get i=x:=by simp[xi,hl]
   rw[z6X];by_cases hx:x= .any;{subst hx;trivial}
   ·have hr:=hs i;have e3:=e3.resolve_left hx;refine AI.sub sub e2 ?_;cases hsi:s.get i with
    |any=>
     rw[hsi]at e1;cases x <;> simp[V.BW,Cm]at e1 hx
    |tup us=>
     rw[hsi]at e1 hr;cases x <;> simp[V.BW,Cm]at e1 hx;subst e1;exact hr
    |_=>
     rw[hsi]at e1 hr e3;have hpl:AA Γ none [] _ (a.tmps.getD i undef).cells.toList/\_:=hr;obtain⟨r1,r2⟩:=AA.BW x _ e1 hpl.1;have hxp:=V.SJ r1 hx;exact(Ca hxp).2 ⟨r1,by rw[e3];exact hpl.2⟩
end
section
def Na (X:Cx) (s:S) (r:ResultVar):V:=
 match r with
 | .tmp t=>s.get t| .cell a t=>(match s.get a with| .ptr k q τ=>(match s.obj k with|some (.box y)=>view (y.at q)|_=>.any)|_=>.any)
def Fa (X:Cx) (s:S):List ResultVar->List V
 | []=>[]|r::rs=>Na X s r::Fa X s rs
def QG (X:Cx) (s:S) (r:ResultVar):Prop:=
 match r with
 | .tmp _=>True| .cell a t=>(match s.get a with| .ptr k q τ=>(match s.obj k with|some (.box y)=>τ=ty X.P t/\τ.known=true/\y.at q≠.any|_=>False)|_=>False)
def QI (X:Cx) (s:S):List ResultVar->Prop
 | []=>True|r::rs=>QG X s r/\QI X s rs
def HV (s:S) (f:Nat->Bool) (x:V) (v:V):Prop:=
 match v with
 | .ts eb e cs=>(match x with| .sl eb' e' cs' t=>eb'=eb/\e'=e/\cs'=cs/\s.live t=some cs.length| .emp eb' e'=>eb'=eb/\e'=e/\cs=[]| .yf=>cs=[]|_=>False)|v=>V.BW x v/\v.ok f CP=true/\v.plain=true/\v.ty.isAgg=x.ty.isAgg
def IW (s:S) (f:Nat->Bool):List V->List V->Prop
 | [],[]=>True|x::xs,v::vs=>HV s f x v/\IW s f xs vs|_,_=>False
def Kd:List V->V->Option (List V)
 | [_],v=>some [v]|_,.tup vs=>some vs|_,_=>none
def GM:Nat->List V->List V->List (Nat × Option Nat)
 |m,x::xs,v::vs=>(match v,x with| .ts _ _ _,.sl _ _ _ t=>[(m,some t)]| .ts _ _ _,_=>[(m,none)]|_,_=>[])++GM (m+1) xs vs|_,_,_=>[]
def JD:List (Nat × Option Nat)->List Nat
 | []=>[]|(_,some t)::l=>t::JD l|(_,none)::l=>JD l
def Eu (X:Cx) (fn:Func) (A:Key->Option O) (v:V) (L:List (Key × O)) (s:S):Prop:=
 s.A=A/\GY s L/\Fu (Cd L) CP L=true/\Ij L A s.loc/\QI X s fn.results.toList/\
  (match Kd (Fa X s fn.results.toList) v with|some vs=>IW s (Cd L) (Fa X s fn.results.toList) vs/\Gz (JD (GM 2000 (Fa X s fn.results.toList) vs))=true|none=>False)
def Pk:List (Nat × Option Nat)->Nat->Option Nat
 | [],_=>none|(m,some t)::l,u=>if t=u then some m else Pk l u|(_,none)::l,u=>Pk l u
theorem bA:∀{l:List (Nat × Option Nat)} {m t:Nat},Gz (JD l)=true->look l m=some (some t)->Pk l t=some m
 | [],_,_,_,h=>by simp[look]at h
 |(j,y)::l,m,t,hn,h=>by
  simp only[look]at h;split at h;{rename_i e;cases h;subst e;simp[Pk]}
  ·cases y with
   |none=>exact bA (l:=l) hn h|some u=>
    simp only[JD,Gz,bg,jg]at hn;have ih:=bA hn.2 h;have hne:u≠t:=by
     intro e;subst e;have hm:∀{l:List (Nat × Option Nat)} {m:Nat},look l m=some (some u)->u∈JD l:=by
      intro l
      induction l with
      |nil=>intro m h;simp[look]at h|cons z l ih=>
       obtain⟨j',y'⟩:=z;intro m h;simp only[look]at h;split at h;{cases h;simp[JD]};{cases y' with|none=>exact ih h|some t'=>simp[JD,ih h]}
     have:=hm h;simp[this]at hn
    simp[Pk,hne,ih]
def G.fin (Γ:G) (f:Nat->Bool) (zy:List (Nat × Option Nat)):G:=
 {Γ with
  ι:=fun k=>match k with| .l n=>if f n then Γ.ι (.l n)else none| .g k=>Γ.ι (.g k)
  τ:=fun m=>match look zy m with|some (some t)=>Γ.τ t|some none=>some (none,0)|none=>none
  κ:=fun b=>match Γ.κ b with
   |some (.tok t,sz)=>match Pk zy t with|some m=>some (.tok m,sz)|none=>none
   |x=>x}
theorem WQ:∀{n:Nat} {xs vs:List V} {m:Nat},look (GM n xs vs) m=if n<=m then(match xs[m-n]?,vs[m-n]? with|some (.sl _ _ _ t),some (.ts _ _ _)=>some (some t)|some _,some (.ts _ _ _)=>some none|_,_=>none)else none
 |n,[],vs,m=>by simp[GM,look]
 |n,x::xs,[],m=>by simp only[GM,look];split <;> simp
 |n,x::xs,v::vs,m=>by
  simp only[GM,NG];have ih:=WQ (n:=n+1) (xs:=xs) (vs:=vs) (m:=m);by_cases h1:n=m
  ·subst h1;have hr:look (GM (n+1) xs vs) n=none:=by rw[ih,if_neg (by omega)]
   cases v <;> cases x <;> simp[look,hr]
  ·have h0:look (match v,x with| .ts _ _ _,.sl _ _ _ t=>[(n,some t)]| .ts _ _ _,_=>[(n,none)]|_,_=>[]) m=none:=by cases v <;> cases x <;> simp[look,h1]
   rw[h0,ih];by_cases h2:n<=m;{rw[if_pos h2,if_pos (by omega),show m-n=(m-(n+1))+1 by omega];simp only[fu]};{rw[if_neg h2,if_neg (by omega)]}
section
variable {X:Cx} {n:Nat} {s:S}
def Sv (a:Act):ResultVar->Sem Value
 | .tmp t=>pure (a.tmps.getD t undef)| .cell b t=>do loadVar t (<-asAddr (a.tmps.getD b undef))
theorem q6O (fn:Func) (a:Act):results fn a.tmps=(do
  let vs <-fn.results.mapM (Sv a)
  pure (if h:vs.size=1 then vs[0]else .tuple vs)):=by
 unfold results;congr 2
theorem q7i (hP:BN X.P=true) {Γ:G} {w:World} {a:Act} (c:AX Γ w s) (hs:Gl Γ s a.tmps) {r:ResultVar} (hch:QG X s r):
  ∃v,(Sv a r).run X.P w= .ok v w/\AI Γ (Na X s r) v:=by
 cases r with
 |tmp t=>exact⟨_,rfl,hs t⟩|cell b t=>
  have hb:=hs b;simp only[QG]at hch;split at hch;{rename_i k q τ hk;rw[hk]at hb;split at hch;{rename_i y hy;obtain⟨u,h1,h2⟩:=ZX hP c hb hy hch.2.2 hch.1 hch.2.1;obtain⟨b',τ0,o,_,_,hv⟩:=HD hb;refine⟨u,?_,?_⟩;{rw[hv]at h1;simp only[Sv,hv];simpa[Instr.loadAt,Instr.sureAddr,asAddr]using h1};{simp only[Na,hk,hy];exact h2}};{exact hch.elim}};{exact hch.elim}
theorem wC (hP:BN X.P=true) {Γ:G} {w:World} {a:Act} (c:AX Γ w s) (hs:Gl Γ s a.tmps):∀(rs:List ResultVar),QI X s rs->
  ∃vs:List Value,(rs.mapM (Sv a)).run X.P w= .ok vs w/\vs.length=rs.length/\
   ∀(i:Nat) x v,(Fa X s rs)[i]? =some x->vs[i]? =some v->AI Γ x v
 | [],_=>⟨[],by simp,rfl,by simp[Fa]⟩|r::rs,hpl=>by simp only[QI]at hpl;obtain⟨v,h1,h2⟩:=q7i hP c hs hpl.1;obtain⟨vs,h3,h4,h5⟩:=wC hP c hs rs hpl.2;refine⟨v::vs,?_,by simp[h4],?_⟩;{rw[List.mapM_cons];simp only[da];rw[h1];simp only[ct,da];rw[h3];simp};{intro i x u hx hu;cases i with|zero=>simp[Fa]at hx hu;subst hx;subst hu;exact h2|succ i=>exact h5 i x u (by simpa[Fa]using hx) (by simpa using hu)}
theorem vI:∀(rs:List ResultVar),(Fa X s rs).length=rs.length
 | []=>rfl|r::rs=>by simp[Fa,vI rs]
theorem QH {f:Nat->Bool}:∀{xs vs:List V} {i:Nat} {v:V},IW s f xs vs->vs[i]? =some v->∃x,xs[i]? =some x/\HV s f x v
 | [],[],_,_,_,h=>by simp at h
 |x::xs,v::vs,0,v',hr,h=>by simp at h;subst h;exact⟨x,rfl,hr.1⟩
 |x::xs,v::vs,i+1,v',hr,h=>by obtain⟨y,h1,h2⟩:=QH hr.2 (show vs[i]? =some v' by simpa using h);exact⟨y,by simpa using h1,h2⟩
 | [],_::_,_,_,hr,_=>by simp[IW]at hr
 |_::_,[],_,_,hr,_=>by simp[IW]at hr
theorem vG {f:Nat->Bool}:∀{xs vs:List V},IW s f xs vs->xs.length=vs.length
 | [],[],_=>rfl|x::xs,v::vs,h=>by simp[vG h.2]
 | [],_::_,hr=>by simp[IW]at hr
 |_::_,[],hr=>by simp[IW]at hr
theorem q6M {Γ:G} {w:World} (c:AX Γ w s) {f:Nat->Bool} {zy:List (Nat × Option Nat)} {m:Nat} {x v:V} {u:Value} (z7s:Sub Γ (Γ.fin f zy) f CP) (hr:AI Γ x u) (hi:HV s f x v)
  (hp:∀eb e cs,v= .ts eb e cs->match x with| .sl _ _ _ t=>look zy m=some (some t)|_=>look zy m=some none):AI (Γ.fin f zy) (v.slot m) u:=by
 have other:v.Li=true->V.BW x v/\v.ok f CP=true/\v.plain=true/\v.ty.isAgg=x.ty.isAgg->AI (Γ.fin f zy) (v.slot m) u:=by
  intro hn ⟨h1,h2,h3,h4⟩;have hvs:v.slot m=v:=by cases v <;> simp[ya];simp[V.Li]at hn
  rw[hvs];refine AI.sub z7s h2 ?_;cases x with
  |any=>
   cases v <;> simp[V.BW,Cm,rn]at h1 h3
  |tup us=>
   cases v <;> simp[V.BW,Cm,rn]at h1 h3
  |_=>
   obtain⟨q1,q2⟩:=hr;obtain⟨r1,_⟩:=AA.BW v _ h1 q1;exact(Ca h3).2 ⟨r1,by rw[h4];exact q2⟩
 cases v
 case ts eb e cs=>
  have hp:=hp eb e cs rfl;simp only[HV]at hi;cases x <;> simp only at hi hp
  case sl eb' e' cs' t=>
   obtain⟨rfl,rfl,rfl,hl⟩:=hi;obtain⟨h1,_⟩:=(Ci rfl rfl).1 hr;simp only[AA]at h1;obtain⟨a,n,cap,hv,hrc,y,L,h2,h3,h4⟩:=h1;simp at hv;subst hv;simp only[ya];refine(Ci rfl rfl).2 ⟨?_,rfl⟩;simp only[AA];exact⟨a,n,cap,rfl,hrc,y,L,by simp[G.fin,hp,h2],h3,h4⟩
  case emp eb' e'=>
   obtain⟨rfl,rfl,rfl⟩:=hi;obtain⟨h1,_⟩:=(Ci rfl rfl).1 hr;simp only[AA]at h1;obtain⟨a,hv⟩:=h1;simp at hv;subst hv;simp only[ya];refine(Ci rfl rfl).2 ⟨?_,rfl⟩;simp only[AA];exact⟨a,0,0,rfl,Eb rfl (bx _) (dr _) (by rw[gu];exact dr _) (.inl rfl),none,0,by simp[G.fin,hp],bx _,fun _=>rfl⟩
  case yf=>
   subst hi;have hp2:look zy m=some none:=by assumption
   rw[GL hr];simp only[ya];refine(Ci rfl rfl).2 ⟨?_,rfl⟩;simp only[AA];exact⟨none,0,0,rfl,Eb rfl (bx _) (dr _) (by rw[gu];exact dr _) (.inl rfl),none,0,by simp[G.fin,hp2],bx _,fun _=>rfl⟩
 all_goals exact other rfl (by simpa only[HV]using hi)
theorem k6 {Γ:G}:∀(xs:List V) (vs:List Value),xs.length=vs.length->(∀(i:Nat) x,xs[i]? =some x->x.plain=true)->(∀(i:Nat) x v,xs[i]? =some x->vs[i]? =some v->AI Γ x v)->BX Γ xs vs:=
 fun xs vs hl hp hr=>Sm hl fun i x v hx hv=>⟨hp i x hx,hr i x v hx hv⟩
theorem pY:∀(xs:List V) (i j:Nat),look (Pc i xs) j=if i<=j then xs[j-i]? else none
 | [],i,j=>by simp[Pc,look]
 |x::xs,i,j=>by simp only[Pc,look,pY xs (i+1) j];by_cases h1:i=j;{subst h1;simp};{rw[if_neg h1];by_cases h2:i<=j;{rw[if_pos h2,if_pos (by omega),show j-i=(j-(i+1))+1 by omega,fu]};{rw[if_neg h2,if_neg (by omega)]}}
theorem Jw (hP:BN X.P=true) {f:FuncId} {fn:Func} {c:Code} {xs:List V} {A:Key->Option O} {v:V} {L:List (Key × O)}
  (hf:X.P.funcs[f]? =some fn) (hb:fn.body=some c) (hn:fn.ntmps=n) (hlen:xs.length<=n)
  (h:∀A',(∀k o,A k=some o->A' k=some o)->DC X n c (mh xs A') fun e s'=>(e= .normal\/e= .ret)/\Eu X fn A' v L s'):Cc X f xs A v L:=by
 intro A' Γ w args hAA hgl ⟨c0,hA0⟩ yu yt;subst hn;refine calls_of_wp hf hb ?_;refine wp_mono (h A' hAA Γ {tmps:=args++lb (fn.ntmps-args.size) undef,defers:=[]} w ⟨Γ,.refl Γ,hgl,c0,?_,by simp;omega,rfl,hA0⟩) ?_
 ·intro i;have z6X:(mh xs A').get i=((DW 1000 xs)[i]?).getD .any:=by simp only[xi,mh,pY,dr,if_true,Nat.sub_zero]
  rw[z6X];cases hx:(DW 1000 xs)[i]? with
  |none=>simp[AI]|some x=>
   have hi:i<args.size:=by rw[<-yu,<-dR 1000 xs];exact(ca.1 hx).1
   have hv:args[i]? =some args[i]:=Array.getElem?_eq_getElem hi;have:=yt i x _ hx hv;rw[ij,Array.getElem?_append_left hi,hv];simpa using this
 ·rintro e a w' ⟨s',⟨he,hA,hL,z88,yr,hch,z67⟩,Γ',g1,g3,c',hs,hn,hfr,ze⟩;obtain⟨us,hvs,hvl,hvr⟩:=wC hP c' hs _ hch;split at z67
  ·rename_i vs zi;obtain⟨hri,hnd⟩:=z67;generalize hxs:Fa X s' fn.results.toList=rs at*;have hrl:rs.length=fn.results.toList.length:=by rw[<-hxs];exact vI _
   have z7s:Sub Γ' (Γ'.fin (Cd L) (GM 2000 rs vs)) (Cd L) CP:=
    ⟨rfl,rfl,rfl,rfl,rfl,fun _=>rfl,fun n h=>by simp[G.fin,h],fun t h=>by simp[CP]at h,fun b k p sz h=>by simp[G.fin,h]⟩
   have hvlen:=vG hri;have hul:us.length=rs.length:=by rw[hvl,hrl]
   -- what the places of the result's tokens are
   have htk:∀m,look (v.tkR 2000) m=if 2000<=m then(match vs[m-2000]? with|some (.ts _ _ cs)=>some (some cs.length)|_=>none)else none:=by
    intro m;cases rs with
    |nil=>cases v <;> simp[Kd]at zi;subst zi;simp only[V.tkR,TN] <;> rfl
    |cons x1 rs1=>cases rs1 with
     |nil=>
      simp only[Kd]at zi;cases zi;obtain⟨x',_,hi'⟩:=QH hri (i:=0) (v:=v) rfl;have hnt:v.tkR 2000=v.ED 2000:=by cases v <;> simp[V.tkR];simp[HV,rn]at hi'
      rw[hnt,xQ];by_cases hm:2000=m;{subst hm;simp;cases v <;> rfl};{rw[if_neg hm];by_cases hm2:2000<=m;{rw[if_pos hm2,show m-2000=(m-2001)+1 by omega];simp};{rw[if_neg hm2]}}
     |cons x2 rs2=>cases v <;> simp[Kd]at zi;subst zi;simp only[V.tkR,TN] <;> rfl
   have z8m:AX (Γ'.fin (Cd L) (GM 2000 rs vs)) w' (S.fin v L A'):=by
    refine c'.sub (s':=S.fin v L A') z7s rfl (fun n h=>by simp[G.fin,show Cd L n=false from h]) hA.symm ze hL z88 (hA ▸ yr) (fun b o sz h=>?_) (fun m M h=>?_) (fun m h=>?_)
    ·simp only[G.fin]at h;cases hk:Γ'.κ b with
     |none=>simp[hk]at h|some y=>
      obtain⟨o',sz'⟩:=y;cases o' with
      |home k p=>simp[hk]at h;exact⟨_,by rw[h.2],fun T hT=>by rw[<-h.1];exact hT⟩|tok t=>
       simp only[hk]at h;split at h;{simp at h;exact⟨_,by rw[h.2],fun T _=>by rw[<-h.1];trivial⟩};{cases h}
    · -- a live token of the result
     have h:look (v.tkR 2000) m=some (some M):=by
      unfold S.live EZ at h;change (match look (v.tkR 2000) m with|some (some L)=>some L|_=>none)=some M at h;cases hl:look (v.tkR 2000) m with
      |none=>simp[hl]at h|some y=>cases y with|none=>simp[hl]at h|some M'=>simp[hl]at h;rw[h]
     rw[htk]at h;by_cases hm:2000<=m
     ·rw[if_pos hm]at h;cases hv:vs[m-2000]? with
      |none=>simp[hv]at h|some v1=>
       obtain⟨x1,hx1,hi1⟩:=QH hri hv;cases v1 <;> simp[hv]at h;rename_i eb e cs;subst h;have zr:=WQ (n:=2000) (xs:=rs) (vs:=vs) (m:=m);rw[if_pos hm,hx1,hv]at zr;simp only[HV]at hi1;cases x1 <;> simp only at hi1 zr;{obtain⟨rfl,rfl,rfl,z6M⟩:=hi1;rename_i cs' t;obtain⟨y,a1,a2⟩:=c'.tok t _ z6M;refine⟨y,by simp[G.fin,zr,a1],fun b pos sz hy=>?_⟩;obtain⟨a3,a4⟩:=a2 b pos sz hy;exact⟨a3,by simp[G.fin,a4,bA hnd zr]⟩};{obtain⟨rfl,rfl,rfl⟩:=hi1;exact⟨none,by simp[G.fin,zr],fun b pos sz h=>by cases h⟩};{subst hi1;exact⟨none,by simp[G.fin,zr],fun b pos sz h=>by cases h⟩}
     ·rw[if_neg hm]at h;cases h
    · -- tokens known
     have:look (GM 2000 rs vs) m≠none:=by intro e;simp[G.fin,e]at h
     rw[WQ]at this;unfold S.known;change (look (v.tkR 2000) m).isSome=true;rw[htk];by_cases hm:2000<=m
     ·rw[if_pos hm]at this ⊢;cases hv:vs[m-2000]? with
      |none=>rw[hv]at this;cases hx1:rs[m-2000]? with|none=>simp[hx1]at this|some x1=>simp[hx1]at this
      |some v1=>
       rw[hv]at this;cases v1
       case ts=>rfl
       all_goals (exfalso;cases hx1:rs[m-2000]? with|none=>simp[hx1]at this|some x1=>simp[hx1]at this)
     ·rw[if_neg hm]at this;exact absurd rfl this
   have z76:(results fn a.tmps).run X.P w'= .ok (if h:us.length=1 then us[0]else .tuple us.toArray) w':=by
    have z89:(fn.results.mapM (Sv a)).run X.P w'= .ok us.toArray w':=by rw[Array.mapM_eq_mapM_toList];simp only[Sem.run_map]at hvs ⊢;rw[hvs];rfl
    rw[q6O];simp only[da];rw[z89];simp only[ct,Sem.run_pure,ir];split <;> simp
   have z6K:∀(i:Nat) (v1:V) (u:Value),vs[i]? =some v1->us[i]? =some u->AI (Γ'.fin (Cd L) (GM 2000 rs vs)) (v1.slot (2000+i)) u:=by intro i v1 u hv1 hu;obtain⟨x1,hx1,hi1⟩:=QH hri hv1;refine q6M c' z7s (hvr i x1 u hx1 hu) hi1 fun eb e cs hts=>?_;subst hts;have zr:=WQ (n:=2000) (xs:=rs) (vs:=vs) (m:=2000+i);rw[if_pos (by omega),show 2000+i-2000=i by omega,hx1,hv1]at zr;simp only[HV]at hi1;cases x1 <;> simp only at hi1 zr ⊢ <;> exact zr
   have hpl:∀(i:Nat) (x:V),(DW 2000 vs)[i]? =some x->x.plain=true:=by
    intro i x hx;rw[TB]at hx;cases hv1:vs[i]? with
    |none=>simp[hv1]at hx|some v1=>
     simp[hv1]at hx;subst hx;obtain⟨x1,_,hi1⟩:=QH hri hv1;cases v1 <;> simp only[HV]at hi1 <;> first|rfl|(exact hi1.2.2.1)
   have hrv:AI (Γ'.fin (Cd L) (GM 2000 rs vs)) (v.DV 2000) (if h:us.length=1 then us[0]else .tuple us.toArray):=by
    by_cases h1:us.length=1
    ·rw[dif_pos h1];cases rs with
     |nil=>rw[hul]at h1;simp at h1|cons x1 rs1=>cases rs1 with
      |nil=>
       simp only[Kd]at zi;cases zi;have:=z6K 0 v us[0] rfl (bp (by omega));have hsr:v.DV 2000=v.slot 2000:=by cases v <;> simp[V.DV];obtain⟨x',_,hi'⟩:=QH hri (i:=0) rfl;simp[HV,rn]at hi'
       rw[hsr];exact this
      |cons x2 rs2=>rw[hul]at h1;simp at h1
    ·rw[dif_neg h1];have z7p:BX (Γ'.fin (Cd L) (GM 2000 rs vs)) (DW 2000 vs) us:=k6 _ _ (by rw[dR];omega) hpl fun i x u hx hu=>by
      rw[TB]at hx;cases hv1:vs[i]? with
      |none=>simp[hv1]at hx|some v1=>simp[hv1]at hx;subst hx;exact z6K i v1 u hv1 hu
     have hvt:v= .tup vs:=by
      cases rs with
      |nil=>cases v <;> simp[Kd]at zi;rw[zi]
      |cons x1 rs1=>cases rs1 with|nil=>exact absurd hul h1|cons x2 rs2=>cases v <;> simp[Kd]at zi;rw[zi]
     subst hvt;exact⟨_,rfl,by simpa using z7p⟩
   have z8n:GLe Γ' (Γ'.fin (Cd L) (GM 2000 rs vs)):=⟨Hp.le_refl _,rfl,fun _ _=>rfl,fun _ _ h=>h,rfl,rfl,fun _ _ h=>h,fun _ h=>h⟩;rcases he with rfl|rfl;{exact⟨hfr,_,z76,_,_,rfl,g1.trans z8n,z8m,hrv⟩};{exact⟨hfr,_,z76,_,_,rfl,g1.trans z8n,z8m,hrv⟩}
  ·exact z67.elim
end
end
section
def dep (ops:List Oper) (i j:Nat):Prop:=∃o,ops[i]? =some o/\∃e∈o.after,tu .any e=true/\e.on=j
inductive Anc (ops:List Oper):Nat->Nat->Prop where
 |one {i j:Nat}:dep ops i j->Anc ops j i|step {i j k:Nat}:dep ops i k->Anc ops j k->Anc ops j i
theorem Anc.closed {ops:List Oper} {D:Nat->Prop} (hD:∀i j,D i->dep ops i j->D j) {i j:Nat} (h:Anc ops j i) (hi:D i):D j:=by
 induction h with
 |one h=>exact hD _ _ hi h|step h _ ih=>exact ih (hD _ _ hi h)
structure Res where
 t:Nat
 v:V
 lo:List (Key × O)
 tn:List (Nat × Option Nat)
 s1:S
def om (s:S):Key ⊕ Nat->Option (O ⊕ Option Nat)
 | .inl k=>(s.obj k).map .inl| .inr t=>(look s.tk t).map .inr
def Res.om (r:Res):Key ⊕ Nat->Option (O ⊕ Option Nat)
 | .inl k=>(AY r.lo k).map .inl| .inr t=>(look r.tn t).map .inr
def S.step (s:S) (o:Oper) (r:Res):S:=
 bif r.t==0 then s.set o.dst r.v else bif r.t==1 then(s.add r.lo r.tn).set o.dst r.v else r.s1.set o.dst r.v
theorem aP (s:S) (d:Option Nat) (v:V):om (s.set d v)=om s:=by cases d <;> rfl
theorem XD (s:S) (d:Option Nat) (v:V):(s.set d v).A=s.A:=by cases d <;> rfl
theorem rS (s:S) (lo:List (Key × O)) (tn:List (Nat × Option Nat)) (k:Key ⊕ Nat) {r:Res} (h1:r.lo=lo) (h2:r.tn=tn):om (s.add lo tn) k=match r.om k with|some x=>some x|none=>om s k:=by
 subst h1;subst h2;cases k with
 |inl k=>
  simp only[om,Res.om,S.add,jv,Cs,LV];cases AY r.lo k <;> rfl
 |inr t=>
  simp only[om,Res.om,S.add,NG];cases look r.tn t <;> rfl
theorem aQ {s:S} {o:Oper} {r:Res} (h:r.t=0):om (s.step o r)=om s:=by unfold S.step;rw[h];exact aP _ _ _
theorem Ve {s:S} {o:Oper} {r:Res} (h:r.t=1) (k:Key ⊕ Nat):om (s.step o r) k=match r.om k with|some x=>some x|none=>om s k:=by unfold S.step;rw[h];exact(congrFun (aP _ _ _) k).trans (rS s _ _ k rfl rfl)
theorem rT {s:S} {o:Oper} {r:Res} (h:r.t=2):om (s.step o r)=om r.s1:=by unfold S.step;rw[h];exact aP _ _ _
theorem q1u {s:S} {o:Oper} {r:Res} (h3:r.t=0\/r.t=1\/r.t=2) (h2:r.t=2->r.s1.env=s.env) (t:Nat):(s.step o r).get t=if o.dst=some t then r.v else s.get t:=by
 unfold S.step;rcases h3 with h|h|h;{rw[h];exact KC _ _ _ _};{rw[h];exact KC _ _ _ _}
 ·have e:r.s1.get t=s.get t:=by simp only[xi,h2 h]
  rw[h,<-e];exact KC _ _ _ _
theorem zN {s:S} {o:Oper} {r:Res} (h3:r.t=0\/r.t=1\/r.t=2) (h2:r.t=2->r.s1.A=s.A):(s.step o r).A=s.A:=by unfold S.step;rcases h3 with h|h|h;{rw[h];exact XD _ _ _};{rw[h];exact XD _ _ _};{rw[h,<-h2 h];exact XD _ _ _}
def Gk (ops:Array Oper) (s:S) (o:Oper):Option Bool:=
 match o.guard with
 |none=>some true|some (j,want)=>match Gv ops j with|none=>none|some t=>match s.get t with| .d .bool c=>some (c.toBool==want)| .tup []=>some false|_=>none
def Ny (X:Cx) (Q:S->Prop) (o:Oper) (ρ:Operand->V) (v:V):Prop:=
 ∀(Γ:G) (w:World) (a:Act) (s:S),Γ.gl=X.gl->AX Γ w s->Q s->(∀y∈o.op.operands,AI Γ (ρ y) (a.eval y))->BP X.P o a w (BV Γ w s v)
def OkR (X:Cx) (Q:S->Prop) (ops:Array Oper) (base s:S) (o:Oper) (r:Res):Prop:=
 (Gk ops s o=some false/\r.t=0/\r.v= .tup [])\/
 (Gk ops s o=some true/\(
  (r.t=0/\Ny X Q o (Aj X.gl s) r.v)\/
  (r.t=1/\XG X base o (Aj X.gl s) s r.v r.lo r.tn/\TV s r.lo r.tn)\/
  (r.t=2/\fM X o (Aj X.gl s) s r.v r.s1)))
theorem OkR.mono {X:Cx} {Q Q':S->Prop} {ops:Array Oper} {base s:S} {o:Oper} {r:Res} (h:OkR X Q ops base s o r) (hq:∀s,Q' s->Q s):OkR X Q' ops base s o r:=by rcases h with h|⟨h0,h|h|h⟩;{exact .inl h};{exact .inr ⟨h0,.inl ⟨h.1,fun Γ w a s g c q=>h.2 Γ w a s g c (hq s q)⟩⟩};{exact .inr ⟨h0,.inr (.inl h)⟩};{exact .inr ⟨h0,.inr (.inr h)⟩}
def QC (n:Nat) (c:Nat->S) (s:S):Prop:=∀k o,(∀p,p<=n->(c p).obj k=some o)->s.obj k=some o
def CZ (rs:Nat->Res):Nat->Nat
 |0=>0|i+1=>if(rs i).t=2 then i+1 else CZ rs i
theorem IK (rs:Nat->Res):∀i,CZ rs i<=i
 |0=>bx _|i+1=>by simp only[CZ];split;exact bx _;exact Nat.le_succ_of_le (IK rs i)
theorem Ut (rs:Nat->Res):∀i k,k<i->(rs k).t=2->k<CZ rs i
 |0,k,h,_=>by omega
 |i+1,k,h,ht=>by simp only[CZ];split;{exact h};{rename_i hi;refine Ut rs i k ?_ ht;rcases nq.1 h with h|h;{exact h};{subst h;exact absurd ht hi}}
theorem ZG (rs:Nat->Res):∀i,CZ rs i=0\/∃k,CZ rs i=k+1/\(rs k).t=2
 |0=>.inl rfl|i+1=>by simp only[CZ];split;{exact .inr ⟨i,rfl,‹_›⟩};{exact ZG rs i}
structure Canon (X:Cx) (ops:List Oper) (s0:S) (rs:Nat->Res) (c:Nat->S):Prop where
 c0:c 0=s0
 cs:∀i o,ops[i]? =some o->c (i+1)=(c i).step o (rs i)
 ok:∀i o,ops[i]? =some o->OkR X (QC ops.length c) ops.toArray (c (CZ rs i)) (c i) o (rs i)
 tri:∀i,(rs i).t=0\/(rs i).t=1\/(rs i).t=2
def writes (ops:List Oper) (j t:Nat):Prop:=∃o,ops[j]? =some o/\o.dst=some t
def looks (ops:List Oper) (i t:Nat):Prop:=∃o,ops[i]? =some o/\t∈o.looksAt ops.toArray
structure Orders (ops:List Oper) (rs:Nat->Res):Prop where
 lt:∀i j,dep ops i j->j<i
 tt:∀i j,i<ops.length->j<ops.length->(rs i).t=2->(rs j).t≠0->j≠i->(j<i/\Anc ops j i)\/(i<j/\Anc ops i j)
 DW:∀i j t,j≠i->writes ops j t->looks ops i t->(j<i/\Anc ops j i)\/(i<j/\Anc ops i j)
 one:∀i j t,writes ops i t->writes ops j t->i=j
theorem OkR.env {X:Cx} {Q:S->Prop} {ops:Array Oper} {base s:S} {o:Oper} {r:Res} (h:OkR X Q ops base s o r) (ht:r.t=2):r.s1.env=s.env/\r.s1.A=s.A:=by rcases h with h|⟨_,h|h|h⟩;{omega};{omega};{omega};{exact⟨h.2.2.1,h.2.1⟩}
section
variable {X:Cx} {ops:List Oper} {s0:S} {rs:Nat->Res} {c:Nat->S}
theorem getOp {i:Nat} (h:i<ops.length):∃o,ops[i]? =some o:=⟨_,bp h⟩
theorem Canon.A (K:Canon X ops s0 rs c):∀i,i<=ops.length->(c i).A=s0.A
 |0,_=>by rw[K.c0]
 |i+1,h=>by obtain⟨o,ho⟩:=getOp (ops:=ops) (i:=i) (by omega);rw[K.cs i o ho,zN (K.tri i) (fun ht=>((K.ok i o ho).env ht).2),K.A i (by omega)]
theorem Canon.mS (K:Canon X ops s0 rs c) {i:Nat} {o:Oper} (ho:ops[i]? =some o) (t:Nat):(c (i+1)).get t=if o.dst=some t then(rs i).v else(c i).get t:=by rw[K.cs i o ho];exact q1u (K.tri i) (fun ht=>((K.ok i o ho).env ht).1) t
theorem Canon.Hh (K:Canon X ops s0 rs c) (Od:Orders ops rs) {j t:Nat} (hw:writes ops j t):∀i,j<i->i<=ops.length->(c i).get t=(rs j).v
 |0,h,_=>by omega
 |i+1,h,hi=>by obtain⟨o,ho⟩:=getOp (ops:=ops) (i:=i) (by omega);rw[K.mS ho];by_cases hji:j=i;{subst hji;obtain⟨o',h1,h2⟩:=hw;rw[ho]at h1;cases h1;rw[if_pos h2]};{have hd:¬o.dst=some t:=fun e=>hji (Od.one j i t hw ⟨o,ho,e⟩);rw[if_neg hd];exact K.Hh Od hw i (by omega) (by omega)}
theorem Canon.Ue (K:Canon X ops s0 rs c) {t:Nat}:∀i,i<=ops.length->(∀j,j<i->¬writes ops j t)->(c i).get t=s0.get t
 |0,_,_=>by rw[K.c0]
 |i+1,hi,hw=>by obtain⟨o,ho⟩:=getOp (ops:=ops) (i:=i) (by omega);have hd:¬o.dst=some t:=fun e=>hw i (by omega) ⟨o,ho,e⟩;rw[K.mS ho,if_neg hd];exact K.Ue i (by omega) (fun j hj=>hw j (by omega))
theorem Canon.fresh (K:Canon X ops s0 rs c) {i:Nat} (hi:i<ops.length) (ht:(rs i).t=1) {k:Key ⊕ Nat} {x:O ⊕ Option Nat} (h:(rs i).om k=some x):om (c i) k=none:=by
 obtain⟨o,ho⟩:=getOp hi;rcases K.ok i o ho with h1|⟨_,h1|h1|h1⟩;{omega};{omega}
 ·have hf:=h1.2.2;cases k with
  |inl k=>
   simp only[Res.om,ei]at h;obtain⟨y,h,_⟩:=h;simp only[om,hf.l k y h,oq]
  |inr t=>
   simp only[Res.om,ei]at h;obtain⟨y,h,_⟩:=h;have:=hf.t t y h;simp only[S.known]at this;simp only[om];cases hh:look (c i).tk t with
   |none=>rfl|some z=>rw[hh]at this;cases this
 ·omega
theorem Canon.mono (K:Canon X ops s0 rs c) {k:Key ⊕ Nat} {x:O ⊕ Option Nat} {i:Nat}:∀j,i<=j->j<=ops.length->(∀m,i<=m->m<j->(rs m).t≠2)->om (c i) k=some x->om (c j) k=some x
 |0,h,_,_,hx=>by have:i=0:=by omega
                 subst this;exact hx
 |j+1,h,hj,hn,hx=>by by_cases he:i=j+1;{subst he;exact hx};{have ih:=K.mono j (by omega) (by omega) (fun m h1 h2=>hn m h1 (by omega)) hx;obtain⟨o,ho⟩:=getOp (ops:=ops) (i:=j) (by omega);rw[K.cs j o ho];rcases K.tri j with h1|h1|h1;{rw[aQ h1];exact ih};{rw[Ve h1];cases hr:(rs j).om k with|none=>exact ih|some y=>have:=K.fresh (by omega) h1 hr;rw[ih]at this;cases this};{exact absurd h1 (hn j (by omega) (by omega))}}
theorem Canon.obj (K:Canon X ops s0 rs c) (k:Key ⊕ Nat):∀i,i<=ops.length->
  (∀j x,j<i->CZ rs i<=j->(rs j).t=1->(rs j).om k=some x->om (c i) k=some x)/\
  ((∀j,j<i->CZ rs i<=j->(rs j).t=1->(rs j).om k=none)->om (c i) k=om (c (CZ rs i)) k)
 |0,_=>⟨fun j x h=>by omega,fun _=>rfl⟩|i+1,hi=>by
  obtain⟨h1,h2⟩:=K.obj k i (by omega);obtain⟨o,ho⟩:=getOp (ops:=ops) (i:=i) (by omega);simp only[CZ];rcases K.tri i with ht|ht|ht;{rw[if_neg (by omega),K.cs i o ho,aQ ht];refine⟨fun j x h3 h4 h5 h6=>?_,fun h3=>h2 fun j h4 h5 h6=>h3 j (by omega) h5 h6⟩;rcases nq.1 h3 with h7|h7;{exact h1 j x h7 h4 h5 h6};{subst h7;omega}};{rw[if_neg (by omega),K.cs i o ho,Ve ht];refine⟨fun j x h3 h4 h5 h6=>?_,fun h3=>?_⟩;{rcases nq.1 h3 with h7|h7;{have:=h1 j x h7 h4 h5 h6;cases hr:(rs i).om k with|none=>exact this|some y=>have h8:=K.fresh (by omega) ht hr;rw[this]at h8;cases h8};{subst h7;rw[h6]}};{rw[h3 i (by omega) (Nat.le_of_lt_succ (Nat.lt_succ_of_le (IK rs i))) ht];exact h2 fun j h4 h5 h6=>h3 j (by omega) h5 h6}};{rw[if_pos ht];exact⟨fun j x h3 h4=>by omega,fun _=>rfl⟩}
end
end
section
section
variable {X:Cx} {ops:List Oper} {s0:S} {rs:Nat->Res} {c:Nat->S}
def Ih (X:Cx) (ops:List Oper) (s0:S) (rs:Nat->Res) (c:Nat->S) (Γ0:G) (n:Nat) (D:Nat->Prop) (a:Act) (w:World):Prop:=
 ∃Γ sD p,GLe Γ0 Γ/\Γ.gl=X.gl/\AX Γ w sD/\AOk s0.A/\a.tmps.size=n/\a.defers=[]/\
  p<=ops.length/\(p=0\/∃k,p=k+1/\(rs k).t=2/\D k)/\(∀k,D k->(rs k).t=2->k<p)/\
  (∀k j x,D j->p<=j->(rs j).t=1->(rs j).om k=some x->om sD k=some x)/\
  (∀k,(∀j,D j->p<=j->(rs j).t=1->(rs j).om k=none)->om sD k=om (c p) k)/\
  (∀j t,D j->writes ops j t->AI Γ (rs j).v (a.tmps.getD t undef))/\
  (∀t,(∀j,D j->¬writes ops j t)->AI Γ (s0.get t) (a.tmps.getD t undef))
theorem yU {Γ:G} {a:Act} {s:S} {o:Oper} {b:Bool} {l:Array Oper} (h:Gk l s o=some b) (hs:∀t,t∈o.looksAt l->AI Γ (s.get t) (a.tmps.getD t undef)):
  jk o (yielded l a.tmps)=b:=by
 unfold Gk at h;split at h;{rename_i hg;cases h;simp[jk,hg]}
 ·rename_i j want hg;split at h;{cases h}
  ·rename_i t ht
   have hst:=hs t (by
    simp only[uh,hg,ed];right;simp only[Gv]at ht;rw[ht];simp)
   split at h;{rename_i b' hb;cases h;rw[hb]at hst;exact mU hg ht hst};{rename_i hb;cases h;rw[hb]at hst;exact mV hg ht hst};{cases h}
theorem q01 {Γ:G} {w:World} {s s':S} {a:Act} (hgl:Γ.gl=X.gl) (c:AX Γ w s') {y:Operand} (hy:Vf y=true) (ht:∀t,y= .tmp t->AI Γ (s.get t) (a.tmps.getD t undef)):
  AI Γ (Aj X.gl s y) (a.eval y):=by
 cases y with
 |tmp t=>exact ht t rfl|const v=>exact UQ (y:=.const v) (s:=⟨[],[],fun _=>none,[]⟩) hgl c (fun i=>by simp[xi,look,AI]) hy|global g=>exact UQ (y:=.global g) (s:=⟨[],[],fun _=>none,[]⟩) (a:=a) hgl c (fun i=>by simp[xi,look,AI]) hy|func f=>exact UQ (y:=.func f) (s:=⟨[],[],fun _=>none,[]⟩) (a:=a) hgl c (fun i=>by simp[xi,look,AI]) hy
theorem tP {a:Act} {d:Option Nat} {v:Value} {t:Nat} (h:d≠some t):(a.put d v).tmps.getD t undef=a.tmps.getD t undef:=by
 cases d with
 |none=>rfl|some e=>
  have:e≠t:=fun he=>h (by rw[he]);simp only[sj,ij,Array.getElem?_setIfInBounds_ne this]
theorem q49 {a:Act} {t:Nat} {v:Value} (h:t<a.tmps.size):(a.put (some t) v).tmps.getD t undef=v:=by simp[sj,h]
theorem q4J {s s':S} (h:∀k,om s' k=om s k) (k:Key):s'.obj k=s.obj k:=by have:=h (.inl k);simp only[om]at this;cases h1:s'.obj k <;> cases h2:s.obj k <;> rw[h1,h2]at this;{cases this};{cases this};{cases this;rfl}
theorem rU {s s':S} (h:∀k,om s' k=om s k) (t:Nat):look s'.tk t=look s.tk t:=by have:=h (.inr t);simp only[om]at this;cases h1:look s'.tk t <;> cases h2:look s.tk t <;> rw[h1,h2]at this;{cases this};{cases this};{cases this;rfl}
theorem AX.om {Γ:G} {w:World} {s s':S} (c:AX Γ w s) (h:∀k,Go.E.om s' k=Go.E.om s k):AX Γ w s':=
 c.congr (q4J h) (pN (rU h)) (fun t ht=>by rw[oA (rU h)];exact ht)
theorem Vd {s:S} {k:Key} {o:O}:om s (.inl k)=some (.inl o)↔s.obj k=some o:=by simp[om]
theorem aO {s:S} {k:Key}:om s (.inl k)=none↔s.obj k=none:=by simp[om]
variable {Γ0:G} {n:Nat} {D:Nat->Prop}
theorem q7X (hP:BN X.P=true) (K:Canon X ops s0 rs c) (Od:Orders ops rs) (hok:∀o∈ops,IQ n o=true) (hDl:∀j,D j->j<ops.length) (hD:∀i j,D i->dep ops i j->D j) {i:Nat} (hi:i<ops.length) (hiD:¬D i) (z9a:∀j,dep ops i j->D j)
  {a:Act} {w:World} {Q:Exit->Act->World->Prop} (h:Ih X ops s0 rs c Γ0 n D a w):wpOp X.P ops.toArray Q i (Ih X ops s0 rs c Γ0 n (fun j=>D j\/j=i)) a w:=by
 obtain⟨Γ,sD,p,g1,g3,hc,hA,hn,hf,hp0,hp1,hp2,ob1,ob2,ew,e0⟩:=h;obtain⟨o,ho⟩:=getOp hi
 -- what is before i is done; what is behind i is not
 have hD':∀k j,(D k\/k=i)->dep ops k j->(D j\/j=i):=by rintro k j (h|rfl) hd;{exact .inl (hD k j h hd)};{exact .inl (z9a j hd)}
 have before:∀j,j≠i->Anc ops j i->D j:=fun j hj ha=>(Anc.closed hD' ha (.inr rfl)).resolve_right hj;have behind:∀k,D k->¬Anc ops i k:=fun k hk ha=>hiD (Anc.closed hD ha hk);have later:∀k,D k->(rs k).t=2->i<k->(rs i).t=0:=by intro k hk ht hik;by_cases h0:(rs i).t=0;{exact h0};{rcases Od.tt k i (hDl k hk) hi ht h0 (by omega)with⟨_,ha⟩|⟨h1,_⟩;{exact absurd ha (behind k hk)};{omega}}
 have slot:∀t,looks ops i t->AI Γ ((c i).get t) (a.tmps.getD t undef):=by intro t ht;by_cases hw:∃j,j≠i/\writes ops j t;{obtain⟨j,hj,hw⟩:=hw;rcases Od.DW i j t hj hw ht with⟨hlt,ha⟩|⟨hlt,ha⟩;{rw[K.Hh Od hw i hlt (by omega)];exact ew j t (before j hj ha) hw};{have hDj:¬D j:=fun h=>behind j h ha;have uniq:∀j',writes ops j' t->j'=j:=fun j' h=>Od.one j' j t h hw;rw[K.Ue (t:=t) i (by omega) (fun j' hj' h=>by have:=uniq j' h;omega)];exact e0 t (fun j' hj' h=>hDj (uniq j' h ▸ hj'))}};{have nw:∀j',writes ops j' t->j'=i:=fun j' h=>qo fun hne=>hw ⟨j',hne,h⟩;rw[K.Ue (t:=t) i (by omega) (fun j' hj' h=>by have:=nw j' h;omega)];exact e0 t (fun j' hj' h=>hiD (nw j' h ▸ hj'))}
 have hko:=hok o (List.mem_of_getElem? ho);simp only[IQ,bg,pz]at hko;have hd:∀t,o.dst=some t->t<a.tmps.size:=by intro t ht;have h2:=hko.2;rw[ht]at h2;rw[hn];exact of_decide_eq_true h2
 have zd:∀y∈o.op.operands,AI Γ (Aj X.gl (c i) y) (a.eval y):=fun y hy=>q01 g3 hc (hko.1 y hy) fun t ht=>slot t ⟨o,ho,by
  subst ht;simp only[uh,ed,vk];exact .inl ⟨.tmp t,by simpa using hy,rfl⟩⟩
 have wr:∀j t,writes ops j t->j≠i->o.dst≠some t:=fun j t hw hj hdt=>hj (Od.one j i t hw ⟨o,ho,hdt⟩)
 -- what all kinds of operations share
 have fin:∀{u:Value} {w':World} {Γ':G} {sD':S} {p':Nat},GLe Γ Γ'->Γ'.gl=X.gl->AX Γ' w' sD'->p'<=ops.length->(p'=0\/∃k,p'=k+1/\(rs k).t=2/\(D k\/k=i))->
   (∀k,(D k\/k=i)->(rs k).t=2->k<p')->(∀k j x,(D j\/j=i)->p'<=j->(rs j).t=1->(rs j).om k=some x->om sD' k=some x)->
   (∀k,(∀j,(D j\/j=i)->p'<=j->(rs j).t=1->(rs j).om k=none)->om sD' k=om (c p') k)->
   Bg Γ Γ'->AI Γ' (rs i).v u->
   Ih X ops s0 rs c Γ0 n (fun j=>D j\/j=i) (a.put o.dst u) w':=by
  intro u w' Γ' sD' p' gle z7R c' q0 q1 q2 qo1 qo2 Cn hv;refine⟨Γ',sD',p',g1.trans gle,z7R,c',hA,?_,?_,q0,q1,q2,qo1,qo2,?_,?_⟩;{cases o.dst <;> simp[sj,hn]};{cases o.dst <;> simp[sj,hf]};{rintro j t (hj|rfl) hw;{have hji:j≠i:=fun e=>hiD (e ▸ hj);rw[tP (wr j t hw hji)];exact(ew j t hj hw).Bn Cn};{obtain⟨o',h1,h2⟩:=hw;rw[ho]at h1;cases h1;rw[h2,q49 (hd t h2)];exact hv}};{intro t hw;rw[tP (fun e=>hw i (.inr rfl) ⟨o,ho,e⟩)];exact(e0 t (fun j hj=>hw j (.inl hj))).Bn Cn}
 -- a value alone
 have value:∀{u:Value} {w':World} {Γ':G},(rs i).t=0->GLe Γ Γ'->Γ'.gl=X.gl->AX Γ' w' sD->Bg Γ Γ'->AI Γ' (rs i).v u->
   Ih X ops s0 rs c Γ0 n (fun j=>D j\/j=i) (a.put o.dst u) w':=by
  intro u w' Γ' ht gle z7R c' Cn hv;refine fin gle z7R c' hp0 ?_ ?_ ?_ ?_ Cn hv;{rcases hp1 with h|⟨k,h1,h2,h3⟩;{exact .inl h};{exact .inr ⟨k,h1,h2,.inl h3⟩}};{rintro k (hk|rfl) htk;{exact hp2 k hk htk};{omega}};{rintro k j x (hj|rfl) h1 h2 h3;{exact ob1 k j x hj h1 h2 h3};{omega}};{exact fun k h=>ob2 k fun j hj h1 h2=>h j (.inl hj) h1 h2}
 -- the phase
 have hpL:(rs i).t≠0->p=CZ rs i:=by
  intro hti;have hTD:∀k,(rs k).t=2->k<i->D k:=by intro k hk hki;rcases Od.tt k i (by omega) hi hk hti (by omega)with⟨h1,_⟩|⟨_,ha⟩;{omega};{exact before k (by omega) ha}
  have h1:p<=CZ rs i:=by
   rcases hp1 with h|⟨k,h1,h2,h3⟩;{omega}
   ·have hki:k<i:=by rcases lr k i with h|h;{exact h};{rcases Nat.lt_or_eq_of_le h with h|h;{exact absurd (later k h3 h2 h) hti};{subst h;exact absurd h3 hiD}}
    have:=Ut rs i k hki h2;omega
  have h2:CZ rs i<=p:=by rcases ZG rs i with h|⟨k,h3,h4⟩;{omega};{have:=IK rs i;have:=hp2 k (hTD k h4 (by omega)) h4;omega}
  omega
 have z7S:∀j,D j->(rs j).t≠0->∀m,p<=m->m<j->(rs m).t≠2:=by intro j hj ht m hm hmj htm;rcases Od.tt m j (by have:=hDl j hj;omega) (hDl j hj) htm ht (by omega)with⟨h1,_⟩|⟨_,ha⟩;{omega};{have:=hp2 m (Anc.closed hD ha hj) htm;omega}
 have z8o:(rs i).t≠0->∀m,p<=m->m<i->(rs m).t≠2:=by intro hti m hm hmi htm;have:=Ut rs i m hmi htm;have:=hpL hti;omega
 -- a key is one of an operation's that is done, or stands as at the phase's start
 have z6T:∀k,(∃j x,D j/\p<=j/\(rs j).t=1/\(rs j).om k=some x)\/(∀j,D j->p<=j->(rs j).t=1->(rs j).om k=none):=by intro k;by_cases h:∃j x,D j/\p<=j/\(rs j).t=1/\(rs j).om k=some x;{exact .inl h};{refine .inr fun j h1 h2 h3=>?_;cases hr:(rs j).om k with|none=>rfl|some x=>exact absurd ⟨j,x,h1,h2,h3,hr⟩ h}
 simp only[wpOp,kg,ho];have z7D:∀t,t∈o.looksAt ops.toArray->AI Γ ((c i).get t) (a.tmps.getD t undef):=fun t ht=>slot t ⟨o,ho,ht⟩;rcases K.ok i o ho with⟨hw,ht,hv⟩|⟨hw,z8F⟩;{rw[yU hw z7D];simp only[fi,if_false];exact value ht (.refl Γ) g3 hc (.refl Γ) (by rw[hv];exact vD)}
 ·rw[yU hw z7D];simp only[if_true];left;rcases z8F with⟨ht,hdo⟩|⟨ht,hdo,hfr⟩|⟨ht,hdo⟩
  ·have hQ:QC ops.length c sD:=fun k ob hk=>by rcases z6T (.inl k)with⟨j,y,hj,hpj,htj,hy⟩|hB;{have:=K.fresh (hDl j hj) htj hy;rw[aO,hk j (qz (hDl j hj))]at this;cases this};{rw[<-Vd,ob2 _ hB,Vd];exact hk p hp0}
   refine hdo Γ w a sD g3 hc hQ zd _ _ ?_;rintro u w' ⟨Γ',gle,kp,c',hv⟩;exact value ht gle (gle.gl.trans g3) c' kp hv
  ·have hne:(rs i).t≠0:=by omega
   have hpl:=hpL hne;have hpi:p<=i:=by rw[hpl];exact IK rs i
   obtain⟨co1,co2⟩:(∀k j x,j<i->p<=j->(rs j).t=1->(rs j).om k=some x->om (c i) k=some x)/\(∀k,(∀j,j<i->p<=j->(rs j).t=1->(rs j).om k=none)->om (c i) k=om (c p) k):=by refine⟨fun k=>?_,fun k=>?_⟩;{rw[hpl];exact(K.obj k i (by omega)).1};{rw[hpl];exact(K.obj k i (by omega)).2}
   have z7c:∀k x,(rs i).om k=some x->om sD k=none:=by
    intro k x hx;have hfi:=K.fresh hi ht hx;rcases z6T k with⟨j,y,hj,hpj,htj,hy⟩|hB
    ·exfalso;rcases lr j i with hlt|hge;{have:=co1 k j y hlt hpj htj hy;rw[hfi]at this;cases this}
     ·have hij:i≠j:=fun e=>hiD (e ▸ hj);have h1:om (c (i+1)) k=some x:=by rw[K.cs i o ho,Ve ht,hx]
      have h2:=K.mono j (by omega) (qz (hDl j hj)) (fun m hm hmj=>z7S j hj (by omega) m (by omega) hmj) h1;have h3:=K.fresh (hDl j hj) htj hy;rw[h2]at h3;cases h3
    ·rw[ob2 k hB];cases z7d:om (c p) k with
     |none=>rfl|some y=>
      have:=K.mono i hpi (by omega) (z8o hne) z7d;rw[hfi]at this;cases this
   have z8c:Compat sD (c i) (c (CZ rs i)):=by
    rw[<-hpl];refine⟨fun k x hx z8p=>?_,fun k x hx=>?_⟩
    ·rw[<-Vd]at hx ⊢;rw[Ne,<-aO]at z8p;rcases z6T (.inl k)with⟨j,y,hj,hpj,htj,hy⟩|hB;{have hsD:=ob1 _ j y hj hpj htj hy;have hfj:=K.fresh (hDl j hj) htj hy;rcases lr j i with hlt|hge;{have h1:=co1 _ j y hlt hpj htj hy;rw[hx]at h1;cases h1;exact hsD};{have:=K.mono j hge (qz (hDl j hj)) (fun m hm hmj=>z7S j hj (by omega) m (by omega) hmj) hx;rw[hfj]at this;cases this}}
     ·have hsD:=ob2 _ hB;cases z7d:om (c p) (.inl k)with
      |some y=>
       have:=K.mono i hpi (by omega) (z8o hne) z7d;rw[hx]at this;cases this;rw[hsD,z7d]
      |none=>rw[z7d]at hsD;exact absurd hsD z8p
    ·rw[<-Vd]at hx ⊢;rcases z6T (.inl k)with⟨j,y,hj,hpj,htj,hy⟩|hB;{exfalso;have hfj:=K.fresh (hDl j hj) htj hy;have:=K.mono j hpj (qz (hDl j hj)) (fun m' hm hmj=>z7S j hj (by omega) m' hm hmj) hx;rw[hfj]at this;cases this};{rw[ob2 _ hB];exact hx}
   have z8q:TV sD (rs i).lo (rs i).tn:=by refine⟨fun k x hx=>?_,fun t x hx=>?_⟩;{exact aO.1 (z7c (.inl k) (.inl x) (by simp[Res.om,hx]))};{have:=z7c (.inr t) (.inr x) (by simp[Res.om,hx]);simp only[om,Option.map_eq_none_iff]at this;simp[S.known,this]}
   refine hdo Γ w a sD g3 hc z8c z8q zd _ _ ?_;rintro u w' ⟨Γ',gle,kp,c',hv⟩;have hom:∀k,om (sD.add (rs i).lo (rs i).tn) k=match(rs i).om k with|some x=>some x|none=>om sD k:=fun k=>rS sD _ _ k rfl rfl
   refine fin gle (gle.gl.trans g3) c' hp0 ?_ ?_ ?_ ?_ kp hv;{rcases hp1 with h|⟨k,h1,h2,h3⟩;{exact .inl h};{exact .inr ⟨k,h1,h2,.inl h3⟩}};{rintro k (hk|rfl) htk;{exact hp2 k hk htk};{omega}};{rintro k j x (hj|rfl) h1 h2 h3;{rw[hom k];have:=ob1 k j x hj h1 h2 h3;cases hr:(rs i).om k with|none=>exact this|some y=>rw[z7c k y hr]at this;cases this};{rw[hom k,h3]}};{intro k h;rw[hom k,h i (.inr rfl) hpi ht];exact ob2 k fun j hj h1 h2=>h j (.inl hj) h1 h2}
  ·have hne:(rs i).t≠0:=by omega
   have hpl:=hpL hne;have hpi:p<=i:=by rw[hpl];exact IK rs i
   have z7T:∀j,D j->(rs j).t≠0->j<i:=by intro j hj htj;rcases Od.tt i j hi (hDl j hj) ht htj (fun e=>hiD (e ▸ hj))with⟨h1,_⟩|⟨_,ha⟩;{exact h1};{exact absurd ha (behind j hj)}
   have hom:∀k,om (c i) k=om sD k:=by intro k;rcases z6T k with⟨j,y,hj,hpj,htj,hy⟩|hB;{rw[ob1 k j y hj hpj htj hy];refine(K.obj k i (by omega)).1 j y (z7T j hj (by omega)) (by rw[<-hpl];exact hpj) htj hy};{rw[ob2 k hB,hpl];refine(K.obj k i (by omega)).2 fun j hj hpj htj=>?_;rw[<-hpl]at hpj;rcases Od.tt i j hi (by omega) ht (by omega) (by omega)with⟨_,ha⟩|⟨h1,_⟩;{exact hB j (before j (by omega) ha) hpj htj};{omega}}
   refine hdo.2.2 Γ w a g3 (hc.om hom) zd _ _ ?_;rintro u w' ⟨Γ',gle,kp,c',hv⟩;refine fin (p':=i+1) gle (gle.gl.trans g3) c' (by omega) (.inr ⟨i,rfl,ht,.inr rfl⟩) ?_ ?_ ?_ kp hv;{rintro k (hk|rfl) htk;{have:=z7T k hk (by omega);omega};{omega}};{rintro k j x (hj|rfl) h1 h2 h3;{have:=z7T j hj (by omega);omega};{omega}};{intro k _;rw[K.cs i o ho,rT ht]}
end
end
section
theorem Y8 {p q:Nat->Bool} {i:Nat} (hi:p i=false) (hq:∀j,q j=(p j||j==i)):∀n,i<n->(gh n).countP q=(gh n).countP p+1:=by
 have low:∀m,m<=i->(gh m).countP q=(gh m).countP p:=by
  intro m hm;apply List.countP_congr;intro j hj;have:j≠i:=by have:=gr.1 hj;omega
  simp[hq j,this]
 intro n hn
 induction n with
 |zero=>omega|succ n ih=>
  rw[List.range_succ,vj,vj];by_cases h:i<n
  ·rw[ih h];have:n≠i:=by omega
   simp only[List.countP_singleton,hq n];have hb:(n==i)=false:=by simpa using this
   rw[hb,xm];omega
  ·have:n=i:=by omega
   subst this;rw[low n (bx _)];simp[hq n,hi]
section
variable {X:Cx} {ops:List Oper} {s0:S} {rs:Nat->Res} {c:Nat->S} {Γ0:G} {n:Nat}
theorem Ih.congr {D D':Nat->Prop} (h:∀j,D j↔D' j) {a:Act} {w:World} (hi:Ih X ops s0 rs c Γ0 n D a w):Ih X ops s0 rs c Γ0 n D' a w:=by have:D=D':=funext fun j=>propext (h j);rw[<-this];exact hi
theorem tT {listed:Array Bool} {i:Nat} (hsz:listed.size=ops.length) (h:i∈nz .any ops.toArray listed):
  i<ops.length/\listed.getD i false=false/\∀j,dep ops i j->listed.getD j false=true:=by
 simp only[nz,ir,mr,gr,bg,jg,kg]at h;obtain⟨h1,h2,h3⟩:=h;refine⟨h1,?_,?_⟩
 ·have:i<listed.size:=by omega
  simpa[qg,this]using h2
 ·rintro j ⟨o,ho,e,he,hb,rfl⟩;rw[ho]at h3;simp only[gm,jh,pz]at h3;have:=h3 e he;rw[hb]at this;simpa using this
theorem q5u (Od:Orders ops rs) {listed:Array Bool} (hsz:listed.size=ops.length) (h:nz .any ops.toArray listed=[]):∀i,i<ops.length->listed.getD i false=true:=by
 intro i
 induction i using xg with
 |_ i ih=>
  intro hi;cases hl:listed.getD i false with
  |true=>rfl|false=>
   exfalso;have:i∈nz .any ops.toArray listed:=by
    simp only[nz,ir,mr,gr,bg,jg,kg];have hs:i<listed.size:=by omega
    refine⟨hi,by simpa[qg,hs]using hl,?_⟩;rw[bp hi];simp only[gm,jh,pz];intro e he;cases hb:tu .any e with
    |false=>rfl|true=>
     have hd:dep ops i e.on:=⟨_,bp hi,e,he,hb,rfl⟩;have hlt:=Od.lt i e.on hd;simp only[tj,kc];exact ih e.on hlt (by omega)
   rw[h]at this;cases this
theorem aq (hP:BN X.P=true) (K:Canon X ops s0 rs c) (Od:Orders ops rs) (hok:∀o∈ops,IQ n o=true) {Q:Exit->Act->World->Prop}
  (hQ:∀a w,Ih X ops s0 rs c Γ0 n (fun j=>j<ops.length) a w->Q .normal a w):
  ∀(fuel:Nat) (listed:Array Bool) (a:Act) (w:World),listed.size=ops.length->fuel+(gh ops.length).countP (fun j=>listed.getD j false)=ops.length->
   (∀i j,i<ops.length->listed.getD i false=true->dep ops i j->listed.getD j false=true)->
   Ih X ops s0 rs c Γ0 n (fun j=>j<ops.length/\listed.getD j false=true) a w->wpAny X.P .any ops.toArray Q fuel listed a w:=by
 intro fuel
 induction fuel with
 |zero=>
  intro listed a w hsz hc hcl hI;have yr:∀j,j<ops.length->listed.getD j false=true:=by
   have:(gh ops.length).countP (fun j=>listed.getD j false)=(gh ops.length).length:=by rw[List.length_range];omega
   rw[List.countP_eq_length]at this;exact fun j hj=>this j (gr.2 hj)
  refine⟨?_,hQ a w (hI.congr fun j=>⟨fun h=>h.1,fun h=>⟨h,yr j h⟩⟩)⟩;apply List.eq_nil_iff_forall_not_mem.2;intro i hi;obtain⟨h1,h2,_⟩:=tT hsz hi;rw[yr i h1]at h2;cases h2
 |succ fuel ih=>
  intro listed a w hsz hc hcl hI;refine⟨fun hr=>hQ a w (hI.congr fun j=>⟨fun h=>h.1,fun h=>⟨h,q5u Od hsz hr j h⟩⟩),fun i hi=>?_⟩;obtain⟨h1,h2,h3⟩:=tT hsz hi
  have hD:∀i j,(i<ops.length/\listed.getD i false=true)->dep ops i j->(j<ops.length/\listed.getD j false=true):=
   fun i j h hd=>⟨by have:=Od.lt i j hd;omega,hcl i j h.1 h.2 hd⟩
  have z8G:=q7X (Q:=Q) hP K Od hok (fun j h=>h.1) hD h1 (fun h=>by rw[h2]at h;cases h.2) (fun j hd=>⟨by have:=Od.lt i j hd;omega,h3 j hd⟩) hI;refine wpOp_mono ?_ z8G;intro a' w' hI';have zj:∀j,(listed.setIfInBounds i true).getD j false=(listed.getD j false||j==i):=by
   intro j;simp only[ij,Array.getElem?_setIfInBounds];by_cases hji:i=j
   ·subst hji;have:i<listed.size:=by omega
    simp[this]
   ·have:(j==i)=false:=by simpa using fun e=>hji e.symm
    simp[hji,this]
  refine ih _ a' w' (by simp[hsz]) ?_ ?_ (hI'.congr fun j=>?_);{have:=Y8 (p:=fun j=>listed.getD j false) (q:=fun j=>(listed.setIfInBounds i true).getD j false) (i:=i) h2 zj ops.length h1;omega}
  ·intro k j hk hlk hd;rw[zj]at hlk ⊢;rcases po.1 hlk with h|h;{rw[hcl k j hk h hd];rfl}
   ·have:k=i:=by simpa using h
    subst this;rw[h3 j hd];rfl
  ·rw[zj];constructor;{rintro(h|rfl);{exact⟨h.1,by rw[h.2];rfl⟩};{exact⟨h1,by simp⟩}};{rintro⟨ha,hb⟩;rcases po.1 hb with h|h;{exact .inl ⟨ha,h⟩};{exact .inr (by simpa using h)}}
theorem q1W (K:Canon X ops s0 rs c) {a:Act} {w:World} (h:At X n Γ0 s0 a w):Ih X ops s0 rs c Γ0 n (fun j=>j<ops.length/\(lb ops.length false).getD j false=true) a w:=by
 obtain⟨Γ,g1,g3,hc,hs,hn,hf,hA⟩:=h;have no:∀j,¬(j<ops.length/\(lb ops.length false).getD j false=true):=by rintro j ⟨h1,h2⟩;simp[qg,h1]at h2
 exact⟨Γ,s0,0,g1,g3,hc,hA,hn,hf,dr _,.inl rfl,fun k h=>absurd h (no k),fun k j x h=>absurd h (no j),fun k _=>by rw[K.c0],fun j t h=>absurd h (no j),fun t _=>hs t⟩
theorem q1V (K:Canon X ops s0 rs c) (Od:Orders ops rs) {a:Act} {w:World} (h:Ih X ops s0 rs c Γ0 n (fun j=>j<ops.length) a w):At X n Γ0 (c ops.length) a w:=by
 obtain⟨Γ,sD,p,g1,g3,hc,hA,hn,hf,hp0,hp1,hp2,ob1,ob2,ew,e0⟩:=h;have hpl:p=CZ rs ops.length:=by
  have h1:p<=CZ rs ops.length:=by rcases hp1 with h|⟨k,h1,h2,h3⟩;{omega};{have:=Ut rs ops.length k h3 h2;omega}
  have h2:CZ rs ops.length<=p:=by rcases ZG rs ops.length with h|⟨k,h3,h4⟩;{omega};{have:=IK rs ops.length;have:=hp2 k (by omega) h4;omega}
  omega
 have hom:∀k,om (c ops.length) k=om sD k:=by
  intro k;by_cases h:∃j x,j<ops.length/\p<=j/\(rs j).t=1/\(rs j).om k=some x;{obtain⟨j,x,h1,h2,h3,h4⟩:=h;rw[ob1 k j x h1 h2 h3 h4];exact(K.obj k _ (bx _)).1 j x h1 (by rw[<-hpl];exact h2) h3 h4}
  ·have hn:∀j,j<ops.length->p<=j->(rs j).t=1->(rs j).om k=none:=by
    intro j h1 h2 h3;cases hr:(rs j).om k with
    |none=>rfl|some x=>exact absurd ⟨j,x,h1,h2,h3,hr⟩ h
   rw[ob2 k hn,hpl];exact(K.obj k _ (bx _)).2 fun j h1 h2 h3=>hn j h1 (by rw[hpl];exact h2) h3
 refine⟨Γ,g1,g3,hc.om hom,fun t=>?_,hn,hf,by rw[K.A _ (bx _)];exact hA⟩;by_cases hw:∃j,j<ops.length/\writes ops j t;{obtain⟨j,hj,hw⟩:=hw;rw[K.Hh Od hw _ hj (bx _)];exact ew j t hj hw};{rw[K.Ue (t:=t) _ (bx _) (fun j hj h=>hw ⟨j,hj,h⟩)];exact e0 t (fun j hj h=>hw ⟨j,hj,h⟩)}
theorem jF (hP:BN X.P=true) (hm:X.P.follows .mixedOrders=true) {id:Nat} {Ψ:Exit->S->Prop} (K:Canon X ops s0 rs c) (Od:Orders ops rs) (hok:∀o∈ops,IQ n o=true) (h:Ψ .normal (c ops.length)):
  DC X n (.region id ops.toArray true) s0 Ψ:=by
 intro Γ0 a w hat;obtain⟨Γ,g1,g3,hc,hs,hn,hf⟩:=hat;have z66:At X n Γ0 s0 a {w with drawn:=w.drawn+1}:=by exact⟨Γ,g1,g3,hc.ext (Ext.drew w),hs,hn,hf⟩
 refine wp_region_any hm ?_;refine aq hP K Od hok (fun a w hI=>⟨c ops.length,h,q1V K Od hI⟩) ops.length (lb ops.length false) a _ (by simp) ?_ ?_ (q1W K z66)
 ·have:(gh ops.length).countP (fun j=>(lb ops.length false).getD j false)=0:=by apply List.countP_eq_zero.2;intro j hj;simp[qg,gr.1 hj]
  omega
 ·intro i j hi hl;simp[qg,hi]at hl
end
end
def OU (o:Oper):List Nat:=(o.after.toList.filter (tu .any)).map (·.on)
def q3e (acc:List Nat) (ds:List Nat):Nat:=ds.foldl (fun m k=>m|||2^k|||acc.getD k 0) 0
def OB:List Oper->List Nat->List Nat
 | [],acc=>acc|o::rest,acc=>OB rest (acc++[q3e acc (OU o)])
def ao (ops:List Oper) (j i:Nat):Bool:=((OB ops []).getD i 0).testBit j
theorem xG (acc:List Nat) (j:Nat):∀(ds:List Nat) (m:Nat),(ds.foldl (fun m k=>m|||2^k|||acc.getD k 0) m).testBit j=true->m.testBit j=true\/∃k∈ds,j=k\/(acc.getD k 0).testBit j=true
 | [],m,h=>.inl h|k::ds,m,h=>by rcases xG acc j ds _ h with h1|⟨k',hk,h1⟩;{simp only[Nat.testBit_or,od,Nat.testBit_two_pow,decide_eq_true_eq]at h1;rcases h1 with(h1|h1)|h1;{exact .inl h1};{exact .inr ⟨k,by simp,.inl h1.symm⟩};{exact .inr ⟨k,by simp,.inr h1⟩}};{exact .inr ⟨k',by simp[hk],h1⟩}
theorem q3l {ops:List Oper} {i k:Nat} {o:Oper} (ho:ops[i]? =some o) (h:k∈OU o):dep ops i k:=by simp only[OU,mb,mr]at h;obtain⟨e,⟨h1,h2⟩,h3⟩:=h;exact⟨o,ho,e,by simpa using h1,h2,h3⟩
theorem J5 {ops:List Oper} {i k:Nat} {o:Oper} (ho:ops[i]? =some o) (h:dep ops i k):k∈OU o:=by obtain⟨o',h1,e,h2,h3,h4⟩:=h;rw[ho]at h1;cases h1;simp only[OU,mb,mr];exact⟨e,⟨by simpa using h2,h3⟩,h4⟩
theorem gD (ops:List Oper):∀(rest done:List Oper) (acc:List Nat),ops=done++rest->acc.length=done.length->(∀i j,(acc.getD i 0).testBit j=true->Anc ops j i)->
  ∀i j,((OB rest acc).getD i 0).testBit j=true->Anc ops j i
 | [],_,acc,_,_,h=>h|o::rest,done,acc,he,hl,h=>by
  refine gD ops rest (done++[o]) _ (by simp[he]) (by simp[hl]) ?_;intro i j hij;have ho:ops[acc.length]? =some o:=by rw[he,hl];simp
  simp only[bq]at hij;by_cases hi:i<acc.length;{rw[fp hi]at hij;exact h i j (by simpa[bq]using hij)};{by_cases hi2:i=acc.length;{subst hi2;simp only[List.getElem?_concat_length,jh]at hij;rcases xG acc j _ _ hij with h1|⟨k,hk,h1⟩;{simp at h1};{have hd:=q3l ho hk;rcases h1 with rfl|h1;{exact .one hd};{exact .step hd (h k j h1)}}};{rw[gd (by simp;omega)]at hij;simp at hij}}
theorem gC {ops:List Oper} {j i:Nat} (h:ao ops j i=true):Anc ops j i:=
 gD ops ops [] [] rfl rfl (fun i j h=>by simp at h) i j h
def tmpsOf:List Operand->List Nat
 | []=>[]| .tmp t::l=>t::tmpsOf l|_::l=>tmpsOf l
def lk (ops:Array Oper) (o:Oper):List Nat:=
 tmpsOf o.op.operands.toList++(match o.guard with|some (g,_)=>(match Gv ops g with|some t=>[t] |none=>[])|none=>[])
theorem qK {t:Nat}:∀{l:List Operand},Operand.tmp t∈l->t∈tmpsOf l
 | [],h=>by simp at h
 |y::l,h=>by rcases List.mem_cons.1 h with h1|h1;{subst h1;simp[tmpsOf]};{have:=qK h1;cases y <;> simp[tmpsOf,this]}
theorem q3m {ops:Array Oper} {o:Oper} {t:Nat} (h:t∈o.looksAt ops):t∈lk ops o:=by
 simp only[uh,ed,vk]at h;simp only[lk,ed];rcases h with⟨y,hy,ht⟩|h;{left;cases y <;> simp at ht;subst ht;exact qK hy}
 ·right;cases hg:o.guard with
  |none=>simp[hg]at h|some x=>
   obtain⟨g,b⟩:=x;simp only[hg]at h ⊢;simp only[Gv];cases hs:(ops[g]?).bind (·.dst)with
   |none=>simp[hs]at h|some t'=>simpa[hs]using h
def Pf (ops:List Oper) (ts:List Nat):Bool:=
 let m:=OB ops []
 let anc:=fun j i=>(m.getD i 0).testBit j
 let ix:=gh ops.length
 let both:=fun i j=>(decide (j<i)&&anc j i)||(decide (i<j)&&anc i j)
 (ix.all fun i=>match ops[i]? with|some o=>(OU o).all fun k=>decide (k<i)|none=>true)&&
 (ix.all fun i=>ts.getD i 0 != 2||ix.all fun j=>ts.getD j 0==0||j==i||both i j)&&
 (ix.all fun j=>match(ops[j]?).bind (·.dst)with
  |none=>true
  |some t=>ix.all fun i=>j==i||((match(ops[i]?).bind (·.dst)with|some t'=>t' != t|none=>true)&&
    (match ops[i]? with|some o=> !(lk ops.toArray o).contains t||both i j|none=>true)))
def s00:S:=⟨[],[],fun _=>none,[]⟩
theorem Sw (k:Key):s00.obj k=none:=by cases k <;> rfl
def kop (X:Cx) (md:List (Nat × Nat)) (k:Option Nat) (base s:S) (o:Oper) (K0:V->Prop) (K1:V->List (Key × O)->List (Nat × Option Nat)->Prop) (K2:V->S->Prop):Prop:=
 match k with
 |some 0=>iop X md s00 (Ae o) o (Aj X.gl s) s00 (fun v lo tn=>lo=[]/\tn=[]/\K0 v)\/fop X o (Aj X.gl s) K0|some 1=>iop X md base (Ae o) o (Aj X.gl s) s K1|some 2=>top X md (Ae o) o (Aj X.gl s) s K2|_=>False
def vd (X:Cx) (md:List (Nat × Nat)) (ops:Array Oper) (Φ:S->Prop):List Oper->List Nat->S->S->Prop
 | [],_,_,s=>Φ s|o::rest,ts,base,s=>
  match o.guard with
  |none=>kop X md ts.head? base s o (fun v=>vd X md ops Φ rest ts.tail base (s.set o.dst v))
    (fun v lo tn=>GC s lo/\GD s tn/\vd X md ops Φ rest ts.tail base ((s.add lo tn).set o.dst v))
    (fun v s'=>vd X md ops Φ rest ts.tail (s'.set o.dst v) (s'.set o.dst v))
  |some (j,want)=>gx (gv ops s j) want (kop X md ts.head? base s o (fun v=>vd X md ops Φ rest ts.tail base (s.set o.dst v))
         (fun v lo tn=>GC s lo/\GD s tn/\vd X md ops Φ rest ts.tail base ((s.add lo tn).set o.dst v))
         (fun v s'=>vd X md ops Φ rest ts.tail (s'.set o.dst v) (s'.set o.dst v)))
     (vd X md ops Φ rest ts.tail base (s.set o.dst (.tup [])))
section
def cS:Res:=⟨0,.any,[],[],s00⟩
def Bd (rl:List Res) (i:Nat):Res:=rl.getD i cS
def cst (s0:S) (ops:List Oper) (rl:List Res):Nat->S
 |0=>s0|i+1=>match ops[i]? with|some o=>(cst s0 ops rl i).step o (Bd rl i)|none=>cst s0 ops rl i
theorem WS {rl q:List Res} {i:Nat} (h:i<rl.length):Bd (rl++q) i=Bd rl i:=by simp only[Bd,bq,fp h]
theorem QK (rl:List Res) (r:Res):Bd (rl++[r]) rl.length=r:=by simp[Bd,bq]
theorem Mb {s0:S} {ops:List Oper} {rl q:List Res}:∀i,i<=rl.length->cst s0 ops (rl++q) i=cst s0 ops rl i
 |0,_=>rfl|i+1,h=>by simp only[cst];rw[Mb i (by omega),WS (by omega)]
theorem Rg {rl q:List Res}:∀i,i<=rl.length->CZ (Bd (rl++q)) i=CZ (Bd rl) i
 |0,_=>rfl|i+1,h=>by simp only[CZ];rw[Rg i (by omega),WS (by omega)]
section
variable {X:Cx} {Q:S->Prop} {ops:List Oper} {s0:S} {Φ:S->Prop} {ts0:List Nat} {md:List (Nat × Nat)}
structure Pre (X:Cx) (Q:S->Prop) (ops:List Oper) (s0:S) (ts0:List Nat) (pre:List Res):Prop where
 ok:∀i o,i<pre.length->ops[i]? =some o->OkR X Q ops.toArray (cst s0 ops pre (CZ (Bd pre) i)) (cst s0 ops pre i) o (Bd pre i)
 kind:∀i,i<pre.length->(Bd pre i).t=0\/(Bd pre i).t=ts0.getD i 0
 tri:∀i,(Bd pre i).t=0\/(Bd pre i).t=1\/(Bd pre i).t=2
theorem Pre.snoc {pre:List Res} (p:Pre X Q ops s0 ts0 pre) {o:Oper} (ho:ops[pre.length]? =some o) {r:Res}
  (hok:OkR X Q ops.toArray (cst s0 ops pre (CZ (Bd pre) pre.length)) (cst s0 ops pre pre.length) o r) (hk:r.t=0\/r.t=ts0.getD pre.length 0) (z7U:r.t=0\/r.t=1\/r.t=2):Pre X Q ops s0 ts0 (pre++[r]):=by
 have rl:∀i,i<pre.length->Bd (pre++[r]) i=Bd pre i:=fun i h=>WS h;have cl:∀i,i<=pre.length->cst s0 ops (pre++[r]) i=cst s0 ops pre i:=fun i h=>Mb i h;have tl:∀i,i<=pre.length->CZ (Bd (pre++[r])) i=CZ (Bd pre) i:=fun i h=>Rg i h;have z6G:Bd (pre++[r]) pre.length=r:=QK pre r;have cases_:∀i,i<(pre++[r]).length->i<pre.length\/i=pre.length:=by intro i h;simp at h;omega
 refine⟨?_,?_,?_⟩;{intro i o' hi ho';rcases cases_ i hi with h|rfl;{rw[rl i h,cl i (by omega),tl i (by omega),cl _ (by have:=IK (Bd pre) i;omega)];exact p.ok i o' h ho'};{rw[ho]at ho';cases ho';rw[z6G,cl _ (bx _),tl _ (bx _),cl _ (IK _ _)];exact hok}};{intro i hi;rcases cases_ i hi with h|rfl;{rw[rl i h];exact p.kind i h};{rw[z6G];exact hk}};{intro i;by_cases h:i<pre.length;{rw[rl i h];exact p.tri i};{by_cases h2:i=pre.length;{subst h2;rw[z6G];exact z7U};{left;simp only[Bd,bq];rw[gd (by simp;omega)];rfl}}}
theorem yC (hP:BN X.P=true):∀(rest:List Oper) (ts:List Nat) (pre:List Res) (done:List Oper),
  ops=done++rest->pre.length=done.length->ts=ts0.drop pre.length->Pre X Q ops s0 ts0 pre->
  vd X md ops.toArray Φ rest ts (cst s0 ops pre (CZ (Bd pre) pre.length)) (cst s0 ops pre pre.length)->
  ∃rl,rl.length=ops.length/\Pre X Q ops s0 ts0 rl/\Φ (cst s0 ops rl ops.length)
 | [],ts,pre,done,he,hl,_,p,h=>by
  have:pre.length=ops.length:=by rw[he,hl];simp
  exact⟨pre,this,p,by rw[<-this];simpa[vd]using h⟩
 |o::rest,ts,pre,done,he,hl,hts,p,h=>by
  have ho:ops[pre.length]? =some o:=by rw[he,hl];simp
  have next:∀(r:Res),Pre X Q ops s0 ts0 (pre++[r])->
    vd X md ops.toArray Φ rest ts.tail (if r.t=2 then(cst s0 ops pre pre.length).step o r else cst s0 ops pre (CZ (Bd pre) pre.length)) ((cst s0 ops pre pre.length).step o r)->
    ∃rl,rl.length=ops.length/\Pre X Q ops s0 ts0 rl/\Φ (cst s0 ops rl ops.length):=by
   intro r p' hv;refine yC hP rest ts.tail (pre++[r]) (done++[o]) (by simp[he]) (by simp[hl]) ?_ p' ?_;{rw[hts];simp}
   ·have e1:cst s0 ops (pre++[r]) (pre++[r]).length=(cst s0 ops pre pre.length).step o r:=by rw[bt];simp only[cn,cu,Nat.zero_add,cst,ho];rw[Mb _ (bx _),QK]
    have e2:cst s0 ops (pre++[r]) (CZ (Bd (pre++[r])) (pre++[r]).length)=if r.t=2 then(cst s0 ops pre pre.length).step o r else cst s0 ops pre (CZ (Bd pre) pre.length):=by
     have e3:(pre++[r]).length=pre.length+1:=by simp
     rw[e3];simp only[CZ,QK];split;{rw[<-e3];exact e1};{rw[Rg _ (bx _),Mb _ (IK _ _)]}
    rw[e1,e2];exact hv
  have kind:∀k,ts.head? =some k->k=ts0.getD pre.length 0:=by intro k hk;rw[hts,wo]at hk;simp[bq,hk]
  simp only[vd]at h;generalize hs:cst s0 ops pre pre.length=s at*
  have skip:Gk ops.toArray s o=some false->vd X md ops.toArray Φ rest ts.tail (cst s0 ops pre (CZ (Bd pre) pre.length)) (s.set o.dst (.tup []))->
    ∃rl,rl.length=ops.length/\Pre X Q ops s0 ts0 rl/\Φ (cst s0 ops rl ops.length):=by
   intro hw hv;exact next ⟨0,.tup [],[],[],s00⟩ (p.snoc ho (.inl ⟨by rw[hs];exact hw,rfl,rfl⟩) (.inl rfl) (.inl rfl)) hv
  have go:Gk ops.toArray s o=some true->kop X md ts.head? (cst s0 ops pre (CZ (Bd pre) pre.length)) s o
      (fun v=>vd X md ops.toArray Φ rest ts.tail (cst s0 ops pre (CZ (Bd pre) pre.length)) (s.set o.dst v))
      (fun v lo tn=>GC s lo/\GD s tn/\vd X md ops.toArray Φ rest ts.tail (cst s0 ops pre (CZ (Bd pre) pre.length)) ((s.add lo tn).set o.dst v))
      (fun v s'=>vd X md ops.toArray Φ rest ts.tail (s'.set o.dst v) (s'.set o.dst v))->∃rl,rl.length=ops.length/\Pre X Q ops s0 ts0 rl/\Φ (cst s0 ops rl ops.length):=by
   intro hw hr;unfold kop at hr;split at hr
   ·rcases hr with hr|hr
    rotate_left
    ·obtain⟨v,hv,hI⟩:=Ye hP hr;have hd:Ny X Q o (Aj X.gl s) v:=fun Γ w a s' hgl c _ zd=>hI Γ w a s' c zd;exact next ⟨0,v,[],[],s00⟩ (p.snoc ho (.inr ⟨by rw[hs];exact hw,.inl ⟨rfl,by rw[hs];exact hd⟩⟩) (.inl rfl) (.inl rfl)) hv
    obtain⟨v,lo,tn,⟨rfl,rfl,hv⟩,hI⟩:=Mu hP hr
    have hd:Ny X Q o (Aj X.gl s) v:=fun Γ w a s' hgl c _ zd=>
     hI Γ w a s' hgl c ⟨fun k o h=>(by rw[Sw]at h;cases h),fun k o h=>(by rw[Sw]at h;cases h)⟩ ⟨fun k o h=>(by simp[AY]at h),fun t x h=>(by simp[look]at h)⟩ zd
    exact next ⟨0,v,[],[],s00⟩ (p.snoc ho (.inr ⟨by rw[hs];exact hw,.inl ⟨rfl,by rw[hs];exact hd⟩⟩) (.inl rfl) (.inl rfl)) hv
   ·rename_i hk;obtain⟨v,lo,tn,⟨hf1,hf2,hv⟩,hI⟩:=Mu hP hr;exact next ⟨1,v,lo,tn,s00⟩ (p.snoc ho (.inr ⟨by rw[hs];exact hw,.inr (.inl ⟨rfl,by rw[hs];exact hI,by rw[hs];exact Ub hf1 hf2⟩)⟩) (.inr (kind 1 hk)) (.inr (.inl rfl))) hv
   ·rename_i hk;obtain⟨v,s1,hv,hT⟩:=Wp hP hr;exact next ⟨2,v,[],[],s1⟩ (p.snoc ho (.inr ⟨by rw[hs];exact hw,.inr (.inr ⟨rfl,by rw[hs];exact hT⟩)⟩) (.inr (kind 2 hk)) (.inr (.inr rfl))) hv
   ·exact hr.elim
  split at h;{rename_i hg;exact go (by simp[Gk,hg]) h}
  ·rename_i j want hg;cases ht:Gv ops.toArray j with
   |none=>simp[gv,ht,gx]at h|some t=>
    simp only[gv,ht]at h;unfold gx at h;split at h;{rename_i cb hb;by_cases hbw:cb.toBool=want;{exact go (by simp[Gk,hg,ht,hb,hbw]) (h.1 hbw)};{exact skip (by simp[Gk,hg,ht,hb,hbw]) (h.2 hbw)}};{rename_i hb;exact skip (by simp[Gk,hg,ht,hb]) h};{exact h.elim}
end
section
variable {X:Cx} {n:Nat} {s:S} {Ψ:Exit->S->Prop}
theorem gY {ops:List Oper} {i j:Nat} (h:((decide (j<i)&&((OB ops []).getD i 0).testBit j)||(decide (i<j)&&((OB ops []).getD j 0).testBit i))=true):(j<i/\Anc ops j i)\/(i<j/\Anc ops i j):=by simp only[od,bg,decide_eq_true_eq]at h;rcases h with⟨h1,h2⟩|⟨h1,h2⟩;{exact .inl ⟨h1,gC h2⟩};{exact .inr ⟨h1,gC h2⟩}
theorem sI {Q:S->Prop} {ops:List Oper} {ts:List Nat} {s0:S} {rl:List Res} (hl:rl.length=ops.length) (p:Pre X Q ops s0 ts rl) (h:Pf ops ts=true):
  Orders ops (Bd rl):=by
 simp only[Pf,bg,dw,gr]at h;obtain⟨⟨h1,h2⟩,h3⟩:=h;refine⟨?_,?_,?_,?_⟩;{intro i j hd;obtain⟨o,ho,_⟩:=id hd;have hi:i<ops.length:=(ca.1 ho).1;have:=h1 i hi;rw[ho]at this;simp only[dw,decide_eq_true_eq]at this;exact this j (J5 ho hd)}
 ·intro i j hi hj ht htj hji;have hk:=p.kind i (by omega);have hti:ts.getD i 0=2:=by rcases hk with h|h <;> omega
  have z9b:ts.getD j 0≠0:=by rcases p.kind j (by omega)with h|h;{exact absurd h htj};{rw[<-h];exact htj}
  have:=h2 i hi;rw[hti]at this;simp only[bne_self_eq_false,kc,dw,gr]at this;have:=this j hj;have e1:(ts.getD j 0==0)=false:=by simpa using z9b
  have e2:(j==i)=false:=by simpa using hji
  rw[e1,e2]at this;simp only[kc]at this;exact gY this
 ·rintro i j t hji ⟨o,ho,hd⟩ ⟨o',ho',hl'⟩;have hj:j<ops.length:=(ca.1 ho).1;have hi:i<ops.length:=(ca.1 ho').1;have:=h3 j hj;rw[ho]at this;simp only[gp,hd,dw,gr]at this;have:=this i hi;have e2:(j==i)=false:=by simpa using hji
  rw[e2,ho']at this;have e3:(lk ops.toArray o').contains t=true:=by simpa using q3m hl'
  simp only[kc,bg,e3,tj]at this;exact gY this.2
 ·rintro i j t ⟨o,ho,hd⟩ ⟨o',ho',hd'⟩;refine qo fun hne=>?_;have hi:i<ops.length:=(ca.1 ho).1;have hj:j<ops.length:=(ca.1 ho').1;have:=h3 j hj;rw[ho']at this;simp only[gp,hd',dw,gr]at this;have:=this i hi;have e2:(j==i)=false:=by simpa using fun e=>hne e.symm
  rw[e2,ho]at this;simp[hd]at this
theorem U6 (hP:BN X.P=true) (hm:X.P.follows .mixedOrders=true) (md:List (Nat × Nat)) {id:Nat} {l:List Oper} (ts:List Nat) (hok:l.all (IQ n)=true) (z7e:Pf l ts=true)
  (h:vd X md l.toArray (fun s'=>Ψ .normal s') l ts s s):DC X n (.region id l.toArray true) s Ψ:=by
 have p0:Pre X (fun _=>True) l s ts []:=⟨fun i o h=>by simp at h,fun i h=>by simp at h,fun i=>.inl (by simp[Bd,cS])⟩;obtain⟨rl,hl,p,hΦ⟩:=yC hP l ts [] [] rfl rfl (by simp) p0 h;have K:Canon X l s (Bd rl) (cst s l rl):=⟨rfl,fun i o ho=>by simp only[cst,ho],fun i o ho=>(p.ok i o (by rw[hl];exact(ca.1 ho).1) ho).mono fun _ _=>trivial,p.tri⟩;exact jF hP hm K (sI hl p z7e) (fun o ho=>dw.1 hok o ho) hΦ
end
end
section
def tK:Nat->Nat
 |3=>2|4=>0|n=>n
def sF (F:List Key) (s:S):S:=⟨[],F.filterMap fun k=>(s.obj k).map fun o=>(k,o),fun _=>none,[]⟩
theorem q25 {F:List Key} {s:S} {k:Key} {o:O}:AY (F.filterMap fun k=>(s.obj k).map fun o=>(k,o)) k=some o->k∈F/\s.obj k=some o:=by
 induction F with
 |nil=>intro h;simp[AY]at h|cons f F ih=>
  intro h;simp only[List.filterMap_cons]at h;cases hf:s.obj f with
  |none=>
   rw[hf]at h;exact⟨fm _ (ih h).1,(ih h).2⟩
  |some o'=>
   rw[hf]at h;simp only[gm,AY]at h;by_cases e:f=k;{subst e;simp at h;subst h;exact⟨List.mem_cons_self ..,hf⟩}
   ·have:(if f=k then some o' else AY (F.filterMap fun k=>(s.obj k).map fun o=>(k,o)) k)=some o:=by simpa using h
    rw[if_neg e]at this;exact⟨fm _ (ih this).1,(ih this).2⟩
def QF (F:List Key) (s s':S):Prop:=∀k∈F,∀o,s.obj k=some o->s'.obj k=some o
theorem WW {F:List Key} {s:S} {k:Key} {o:O} (h:(sF F s).obj k=some o):k∈F/\s.obj k=some o:=by
 unfold jv sF Cs at h;dsimp only at h;cases hl:AY (F.filterMap fun k=>(s.obj k).map fun o=>(k,o)) k with
 |some o'=>
  rw[hl]at h;cases h;exact q25 hl
 |none=>
  rw[hl]at h;cases k <;> cases h
def Jb (X:Cx) (F:List Key) (md:List (Nat × Nat)) (k:Option Nat) (base s:S) (o:Oper) (K0:V->Prop) (K1:V->List (Key × O)->List (Nat × Option Nat)->Prop) (K2:V->S->Prop):Prop:=
 match k with
 |some 4=>iop X md (sF F s) (Ae o) o (Aj X.gl s) (sF F s) (fun v lo tn=>lo=[]/\tn=[]/\K0 v)|some 3=>top X md (Ae o) o (Aj X.gl s) s fun v s'=>(∀k∈F,s'.obj k=s.obj k)/\K2 v s'|some 2=>False|k=>kop X md k base s o K0 K1 K2
def vdF (X:Cx) (F:List Key) (md:List (Nat × Nat)) (ops:Array Oper) (Φ:S->Prop):List Oper->List Nat->S->S->Prop
 | [],_,_,s=>Φ s|o::rest,ts,base,s=>
  match o.guard with
  |none=>Jb X F md ts.head? base s o (fun v=>vdF X F md ops Φ rest ts.tail base (s.set o.dst v))
    (fun v lo tn=>GC s lo/\GD s tn/\vdF X F md ops Φ rest ts.tail base ((s.add lo tn).set o.dst v))
    (fun v s'=>vdF X F md ops Φ rest ts.tail (s'.set o.dst v) (s'.set o.dst v))
  |some (j,want)=>gx (gv ops s j) want (Jb X F md ts.head? base s o (fun v=>vdF X F md ops Φ rest ts.tail base (s.set o.dst v))
         (fun v lo tn=>GC s lo/\GD s tn/\vdF X F md ops Φ rest ts.tail base ((s.add lo tn).set o.dst v))
         (fun v s'=>vdF X F md ops Φ rest ts.tail (s'.set o.dst v) (s'.set o.dst v)))
     (vdF X F md ops Φ rest ts.tail base (s.set o.dst (.tup [])))
section
variable {X:Cx} {F:List Key} {ops:List Oper} {s0:S} {Φ:S->Prop} {ts0:List Nat} {md:List (Nat × Nat)}
structure HF (X:Cx) (F:List Key) (ops:List Oper) (s0:S) (ts0:List Nat) (pre:List Res):Prop where
 ok:∀i o,i<pre.length->ops[i]? =some o->OkR X (QF F (cst s0 ops pre i)) ops.toArray (cst s0 ops pre (CZ (Bd pre) i)) (cst s0 ops pre i) o (Bd pre i)
 kind:∀i,i<pre.length->(Bd pre i).t=0\/(Bd pre i).t=tK (ts0.getD i 0)
 tri:∀i,(Bd pre i).t=0\/(Bd pre i).t=1\/(Bd pre i).t=2
 Cn:∀i,i<pre.length->(Bd pre i).t=2->∀k∈F,(Bd pre i).s1.obj k=(cst s0 ops pre i).obj k
theorem HF.snoc {pre:List Res} (p:HF X F ops s0 ts0 pre) {o:Oper} (ho:ops[pre.length]? =some o) {r:Res}
  (hok:OkR X (QF F (cst s0 ops pre pre.length)) ops.toArray (cst s0 ops pre (CZ (Bd pre) pre.length)) (cst s0 ops pre pre.length) o r) (hk:r.t=0\/r.t=tK (ts0.getD pre.length 0)) (z7U:r.t=0\/r.t=1\/r.t=2)
  (z8H:r.t=2->∀k∈F,r.s1.obj k=(cst s0 ops pre pre.length).obj k):HF X F ops s0 ts0 (pre++[r]):=by
 have rl:∀i,i<pre.length->Bd (pre++[r]) i=Bd pre i:=fun i h=>WS h;have cl:∀i,i<=pre.length->cst s0 ops (pre++[r]) i=cst s0 ops pre i:=fun i h=>Mb i h;have tl:∀i,i<=pre.length->CZ (Bd (pre++[r])) i=CZ (Bd pre) i:=fun i h=>Rg i h;have z6G:Bd (pre++[r]) pre.length=r:=QK pre r;have cases_:∀i,i<(pre++[r]).length->i<pre.length\/i=pre.length:=by intro i h;simp at h;omega
 refine⟨?_,?_,?_,?_⟩;{intro i o' hi ho';rcases cases_ i hi with h|rfl;{rw[rl i h,cl i (by omega),tl i (by omega),cl _ (by have:=IK (Bd pre) i;omega)];exact p.ok i o' h ho'};{rw[ho]at ho';cases ho';rw[z6G,cl _ (bx _),tl _ (bx _),cl _ (IK _ _)];exact hok}};{intro i hi;rcases cases_ i hi with h|rfl;{rw[rl i h];exact p.kind i h};{rw[z6G];exact hk}};{intro i;by_cases h:i<pre.length;{rw[rl i h];exact p.tri i};{by_cases h2:i=pre.length;{subst h2;rw[z6G];exact z7U};{left;simp only[Bd,bq];rw[gd (by simp;omega)];rfl}}};{intro i hi ht;rcases cases_ i hi with h|rfl;{rw[rl i h,cl i (by omega)];rw[rl i h]at ht;exact p.Cn i h ht};{rw[z6G,cl _ (bx _)];rw[z6G]at ht;exact z8H ht}}
theorem yD (hP:BN X.P=true):∀(rest:List Oper) (ts:List Nat) (pre:List Res) (done:List Oper),
  ops=done++rest->pre.length=done.length->ts=ts0.drop pre.length->HF X F ops s0 ts0 pre->
  vdF X F md ops.toArray Φ rest ts (cst s0 ops pre (CZ (Bd pre) pre.length)) (cst s0 ops pre pre.length)->
  ∃rl,rl.length=ops.length/\HF X F ops s0 ts0 rl/\Φ (cst s0 ops rl ops.length)
 | [],ts,pre,done,he,hl,_,p,h=>by
  have:pre.length=ops.length:=by rw[he,hl];simp
  exact⟨pre,this,p,by rw[<-this];simpa[vdF]using h⟩
 |o::rest,ts,pre,done,he,hl,hts,p,h=>by
  have ho:ops[pre.length]? =some o:=by rw[he,hl];simp
  have next:∀(r:Res),HF X F ops s0 ts0 (pre++[r])->
    vdF X F md ops.toArray Φ rest ts.tail (if r.t=2 then(cst s0 ops pre pre.length).step o r else cst s0 ops pre (CZ (Bd pre) pre.length)) ((cst s0 ops pre pre.length).step o r)->
    ∃rl,rl.length=ops.length/\HF X F ops s0 ts0 rl/\Φ (cst s0 ops rl ops.length):=by
   intro r p' hv;refine yD hP rest ts.tail (pre++[r]) (done++[o]) (by simp[he]) (by simp[hl]) ?_ p' ?_;{rw[hts];simp}
   ·have e1:cst s0 ops (pre++[r]) (pre++[r]).length=(cst s0 ops pre pre.length).step o r:=by rw[bt];simp only[cn,cu,Nat.zero_add,cst,ho];rw[Mb _ (bx _),QK]
    have e2:cst s0 ops (pre++[r]) (CZ (Bd (pre++[r])) (pre++[r]).length)=if r.t=2 then(cst s0 ops pre pre.length).step o r else cst s0 ops pre (CZ (Bd pre) pre.length):=by
     have e3:(pre++[r]).length=pre.length+1:=by simp
     rw[e3];simp only[CZ,QK];split;{rw[<-e3];exact e1};{rw[Rg _ (bx _),Mb _ (IK _ _)]}
    rw[e1,e2];exact hv
  have kind:∀k,ts.head? =some k->k=ts0.getD pre.length 0:=by intro k hk;rw[hts,wo]at hk;simp[bq,hk]
  simp only[vdF]at h;generalize hs:cst s0 ops pre pre.length=s at*
  have skip:Gk ops.toArray s o=some false->vdF X F md ops.toArray Φ rest ts.tail (cst s0 ops pre (CZ (Bd pre) pre.length)) (s.set o.dst (.tup []))->
    ∃rl,rl.length=ops.length/\HF X F ops s0 ts0 rl/\Φ (cst s0 ops rl ops.length):=by
   intro hw hv;exact next ⟨0,.tup [],[],[],s00⟩ (p.snoc ho (.inl ⟨by rw[hs];exact hw,rfl,rfl⟩) (.inl rfl) (.inl rfl) (fun e=>by cases e)) hv
  have go:Gk ops.toArray s o=some true->Jb X F md ts.head? (cst s0 ops pre (CZ (Bd pre) pre.length)) s o
      (fun v=>vdF X F md ops.toArray Φ rest ts.tail (cst s0 ops pre (CZ (Bd pre) pre.length)) (s.set o.dst v))
      (fun v lo tn=>GC s lo/\GD s tn/\vdF X F md ops.toArray Φ rest ts.tail (cst s0 ops pre (CZ (Bd pre) pre.length)) ((s.add lo tn).set o.dst v))
      (fun v s'=>vdF X F md ops.toArray Φ rest ts.tail (s'.set o.dst v) (s'.set o.dst v))->∃rl,rl.length=ops.length/\HF X F ops s0 ts0 rl/\Φ (cst s0 ops rl ops.length):=by
   intro hw hr;unfold Jb at hr;split at hr
   ·obtain⟨v,lo,tn,⟨rfl,rfl,hv⟩,hI⟩:=Mu hP hr
    have hd:Ny X (QF F s) o (Aj X.gl s) v:=fun Γ w a s' hgl c hq zd=>
     hI Γ w a s' hgl c ⟨fun k o h _=>hq k (WW h).1 o (WW h).2,fun k o h=>hq k (WW h).1 o (WW h).2⟩ ⟨fun k o h=>(by simp[AY]at h),fun t x h=>(by simp[look]at h)⟩ zd
    exact next ⟨0,v,[],[],s00⟩ (p.snoc ho (.inr ⟨by rw[hs];exact hw,.inl ⟨rfl,by rw[hs];exact hd⟩⟩) (.inl rfl) (.inl rfl) (fun e=>by cases e)) hv
   ·rename_i hk;obtain⟨v,s1,⟨hkp,hv⟩,hT⟩:=Wp hP hr;exact next ⟨2,v,[],[],s1⟩ (p.snoc ho (.inr ⟨by rw[hs];exact hw,.inr (.inr ⟨rfl,by rw[hs];exact hT⟩)⟩) (.inr (by rw[<-kind 3 hk];rfl)) (.inr (.inr rfl)) (fun _ k hk=>by rw[hs];exact hkp k hk)) hv
   ·exact hr.elim
   ·rename_i hn4 hn3 hn2;unfold kop at hr;split at hr
    ·rcases hr with hr|hr
     rotate_left
     ·obtain⟨v,hv,hI⟩:=Ye hP hr;have hd:Ny X (QF F s) o (Aj X.gl s) v:=fun Γ w a s' hgl c _ zd=>hI Γ w a s' c zd;exact next ⟨0,v,[],[],s00⟩ (p.snoc ho (.inr ⟨by rw[hs];exact hw,.inl ⟨rfl,by rw[hs];exact hd⟩⟩) (.inl rfl) (.inl rfl) (fun e=>by cases e)) hv
     obtain⟨v,lo,tn,⟨rfl,rfl,hv⟩,hI⟩:=Mu hP hr
     have hd:Ny X (QF F s) o (Aj X.gl s) v:=fun Γ w a s' hgl c _ zd=>
      hI Γ w a s' hgl c ⟨fun k o h=>(by rw[Sw]at h;cases h),fun k o h=>(by rw[Sw]at h;cases h)⟩ ⟨fun k o h=>(by simp[AY]at h),fun t x h=>(by simp[look]at h)⟩ zd
     exact next ⟨0,v,[],[],s00⟩ (p.snoc ho (.inr ⟨by rw[hs];exact hw,.inl ⟨rfl,by rw[hs];exact hd⟩⟩) (.inl rfl) (.inl rfl) (fun e=>by cases e)) hv
    ·rename_i hk;obtain⟨v,lo,tn,⟨hf1,hf2,hv⟩,hI⟩:=Mu hP hr;exact next ⟨1,v,lo,tn,s00⟩ (p.snoc ho (.inr ⟨by rw[hs];exact hw,.inr (.inl ⟨rfl,by rw[hs];exact hI,by rw[hs];exact Ub hf1 hf2⟩)⟩) (.inr (by rw[<-kind 1 hk];rfl)) (.inr (.inl rfl)) (fun e=>by cases e)) hv
    ·rename_i hk;exact absurd hk hn2
    ·exact hr.elim
  split at h;{rename_i hg;exact go (by simp[Gk,hg]) h}
  ·rename_i j want hg;cases ht:Gv ops.toArray j with
   |none=>simp[gv,ht,gx]at h|some t=>
    simp only[gv,ht]at h;unfold gx at h;split at h;{rename_i cb hb;by_cases hbw:cb.toBool=want;{exact go (by simp[Gk,hg,ht,hb,hbw]) (h.1 hbw)};{exact skip (by simp[Gk,hg,ht,hb,hbw]) (h.2 hbw)}};{rename_i hb;exact skip (by simp[Gk,hg,ht,hb]) h};{exact h.elim}
theorem HF.same {rl:List Res} (hl:rl.length=ops.length) (p:HF X F ops s0 ts0 rl) {k:Key} (hk:k∈F) (hs:s0.obj k≠none):∀i,i<=ops.length->(cst s0 ops rl i).obj k=s0.obj k
 |0,_=>rfl|i+1,hi=>by
  have ih:=HF.same hl p hk hs i (by omega);obtain⟨o,ho⟩:=getOp (ops:=ops) (i:=i) (by omega);have hc:cst s0 ops rl (i+1)=(cst s0 ops rl i).step o (Bd rl i):=by simp only[cst,ho]
  have ob:∀{s s':S},om s' (.inl k)=om s (.inl k)->s'.obj k=s.obj k:=fun{s s'} h=>by simp only[om]at h;cases h1:s'.obj k <;> cases h2:s.obj k <;> rw[h1,h2]at h;{cases h};{cases h};{cases h;rfl}
  rw[hc];rcases p.tri i with ht|ht|ht;{rw[ob (congrFun (aQ ht) _)];exact ih}
  ·refine Eq.trans (ob ?_) ih;rw[Ve ht];cases hr:(Bd rl i).om (.inl k)with
   |none=>rfl|some x=>
    exfalso;rcases p.ok i o (by omega) ho with h1|⟨_,h1|h1|h1⟩;{omega};{omega};{simp only[Res.om,ei]at hr;obtain⟨y,hr,_⟩:=hr;have:=h1.2.2.l k y hr;rw[ih]at this;exact hs this};{omega}
  ·rw[ob (congrFun (rT ht) _),p.Cn i (by omega) ht k hk];exact ih
end
theorem q8j (ts:List Nat) (i:Nat):(ts.map tK).getD i 0=tK (ts.getD i 0):=by simp only[bq,List.getElem?_map];cases ts[i]? <;> rfl
section
variable {X:Cx} {n:Nat} {s:S} {Ψ:Exit->S->Prop}
theorem U7 (hP:BN X.P=true) (hm:X.P.follows .mixedOrders=true) (F:List Key) (md:List (Nat × Nat)) {id:Nat} {l:List Oper} (ts:List Nat) (hok:l.all (IQ n)=true) (z7e:Pf l (ts.map tK)=true)
  (hF:∀k∈F,s.obj k≠none) (h:vdF X F md l.toArray (fun s'=>Ψ .normal s') l ts s s):DC X n (.region id l.toArray true) s Ψ:=by
 have p0:HF X F l s ts []:=⟨fun i o h=>by simp at h,fun i h=>by simp at h,fun i=>.inl (by simp[Bd,cS]),fun i h=>by simp at h⟩;obtain⟨rl,hl,p,hΦ⟩:∃rl,rl.length=l.length/\HF X F l s ts rl/\Ψ .normal (cst s l rl l.length):=yD hP l ts [] [] rfl rfl (by simp) p0 h
 have K:Canon X l s (Bd rl) (cst s l rl):=⟨rfl,fun i o ho=>by simp only[cst,ho],fun i o ho=>by
  have hi:i<l.length:=(ca.1 ho).1;refine(p.ok i o (by rw[hl];exact hi) ho).mono fun s' hq k hk ob hob=>hq k ob fun q hqn=>?_;rw[p.same hl hk (hF k hk) q hqn];rw[p.same hl hk (hF k hk) i (by omega)]at hob;exact hob,p.tri⟩
 have pq:Pre X (fun _=>False) l s (ts.map tK) rl:=⟨fun i o hi ho=>(p.ok i o hi ho).mono fun _ h=>h.elim,fun i hi=>by rw[q8j];exact p.kind i hi,p.tri⟩;exact jF hP hm K (sI hl pq z7e) (fun o ho=>dw.1 hok o ho) hΦ
end
end
section
def HC (P:Program) (T:TypeId) (τ:Ty) (op:BinOp) (x y:V) (K:V->Prop):Prop:=
 match τ with
 | .int k=>x.isInt k/\(if BinOp.LP op then y.Fq/\Nd op k x.toInt y.toInt K else y.isInt k/\KJ op k x.toInt y.toInt K)| .bool=>x.isBool/\y.isBool/\(match op with| .eql=>K (.d .bool (.bool (x.toBool==y.toBool)))| .neq=>K (.d .bool (.bool (!(x.toBool==y.toBool))))|_=>False)| .str=>x.isStr/\y.isStr/\Lz op x.toStr y.toStr K| .ptr=>(match op,x.Ht,y.Ht with| .eql,some a,some true=>K (.d .bool (.bool a))| .neq,some a,some true=>K (.d .bool (.bool (!a)))| .eql,some true,some b=>K (.d .bool (.bool b))| .neq,some true,some b=>K (.d .bool (.bool (!b)))|_,_,_=>False)| .arr n e=>Cq P T=true/\x.Dk (.arr n e)/\y.Dk (.arr n e)/\JL op (ry x.toC y.toC) K| .struct sz os fs=>Cq P T=true/\x.Dk (.struct sz os fs)/\y.Dk (.struct sz os fs)/\JL op (ry x.toC y.toC) K| .slice _ _=>(match op,x.Rv,y with| .eql,some r,.yf=>K (Iw r)| .neq,some r,.yf=>K (Iw (r.map (!·)))|_,_,_=>False)|_=>False
section
variable {P:Program} {T:TypeId} {x y:V} {K:V->Prop} {op:BinOp}
theorem q5o:Pm P op T x y K=HC P T (ty P T) op x y K:=rfl
theorem q5e {k:IntKind}:HC P T (.int k) op x y K=(x.isInt k/\(if BinOp.LP op then y.Fq/\Nd op k x.toInt y.toInt K else y.isInt k/\KJ op k x.toInt y.toInt K)):=rfl
theorem q5b:HC P T .bool .eql x y K=(x.isBool/\y.isBool/\K (.d .bool (.bool (x.toBool==y.toBool)))):=rfl
theorem q5c:HC P T .bool .neq x y K=(x.isBool/\y.isBool/\K (.d .bool (.bool (!(x.toBool==y.toBool))))):=rfl
theorem q5n:HC P T .str op x y K=(x.isStr/\y.isStr/\Lz op x.toStr y.toStr K):=rfl
theorem q5i {k:Key} {q:List Nat} {τ:Ty}:HC P T .ptr .eql (.ptr k q τ) (.d .ptr .nil) K=K (.d .bool (.bool false)):=rfl
theorem q5j {k:Key} {q:List Nat} {τ:Ty}:HC P T .ptr .neq (.ptr k q τ) (.d .ptr .nil) K=K (.d .bool (.bool true)):=rfl
theorem q5f:HC P T .ptr .eql (.d .ptr .nil) (.d .ptr .nil) K=K (.d .bool (.bool true)):=rfl
theorem q5g:HC P T .ptr .neq (.d .ptr .nil) (.d .ptr .nil) K=K (.d .bool (.bool false)):=rfl
theorem q5l {eb:Nat} {e:Ty} {cs:List C} {t eb':Nat} {e':Ty}:HC P T (.slice eb e) .eql (.sl eb' e' cs t) .yf K=K (Iw (bif cs.isEmpty then none else some false)):=rfl
theorem q5k {eb:Nat} {e:Ty} {c:C} {eb':Nat} {e':Ty}:HC P T (.slice eb e) .eql (.d (.slice eb' e') c) .yf K=K (Iw (bif c.elems.isEmpty then none else some false)):=rfl
theorem q5m {eb:Nat} {e:Ty} {k:Key} {q:List Nat} {lo n:Nat} {cp:Option Nat} {eb':Nat} {e':Ty}:HC P T (.slice eb e) .eql (.sr k q lo n cp eb' e') .yf K=K (Iw (bif n==0 then none else some false)):=rfl
theorem q5d {eb:Nat} {e:Ty} {eb':Nat} {e':Ty}:HC P T (.slice eb e) .eql (.emp eb' e') .yf K=K (.top .bool):=rfl
theorem q5h {eb:Nat} {e:Ty}:HC P T (.slice eb e) .eql .yf .yf K=K (.d .bool (.bool true)):=rfl
theorem q5a {n:Nat} {e:Ty}:HC P T (.arr n e) op x y K=(Cq P T=true/\x.Dk (.arr n e)/\y.Dk (.arr n e)/\JL op (ry x.toC y.toC) K):=rfl
end
theorem AG (n:Int):(C.int n).toInt=n:=rfl
theorem AZ (b:Bool):(C.bool b).toBool=b:=rfl
theorem o9 (l:List UInt8):(C.str l).toStr=l:=rfl
theorem AQ (cs:List C):(C.slice cs).elems=cs:=rfl
theorem Ac (cs:List C):(C.agg cs).elems=cs:=rfl
theorem iA (cs:List C) (i:Nat):(C.agg cs).get i=cs.getD i .nil:=rfl
theorem q1s (i j:Nat) (x:V) (e:List (Nat × V)) (l:List (Key × O)) (A:Key->Option O) (tk:List (Nat × Option Nat)):(S.mk ((i,x)::e) l A tk).get j=if i=j then x else(S.mk e l A tk).get j:=by simp only[xi,look];split <;> rfl
theorem get_nil (j:Nat) (l:List (Key × O)) (A:Key->Option O) (tk:List (Nat × Option Nat)):(S.mk [] l A tk).get j= .any:=rfl
theorem q7B (e:List (Nat × V)) (l:List (Key × O)) (A:Key->Option O) (tk:List (Nat × Option Nat)) (d:Nat) (x:V):(S.mk e l A tk).set (some d) x=S.mk (NS e d x) l A tk:=rfl
theorem q7z (s:S) (x:V):s.set none x=s:=rfl
theorem q48 (e:List (Nat × V)) (l:List (Key × O)) (A:Key->Option O) (tk:List (Nat × Option Nat)) (k:Key) (o:O):(S.mk e l A tk).put k o=S.mk e (SN l k o) A tk:=rfl
theorem q8V (e:List (Nat × V)) (l:List (Key × O)) (A:Key->Option O) (tk:List (Nat × Option Nat)) (t:Nat) (x:Option Nat):(S.mk e l A tk).tok t x=S.mk e l A (NS tk t x):=rfl
theorem ah (e:List (Nat × V)) (l:List (Key × O)) (A:Key->Option O) (tk:List (Nat × Option Nat)) (lo:List (Key × O)) (tn:List (Nat × Option Nat)):(S.mk e l A tk).add lo tn=S.mk e (lo++l) A (tn++tk):=rfl
theorem q4C (e:List (Nat × V)) (A:Key->Option O) (tk:List (Nat × Option Nat)) (k:Key):(S.mk e [] A tk).obj (.g k)=A k:=rfl
theorem q4D (e:List (Nat × V)) (A:Key->Option O) (tk:List (Nat × Option Nat)) (n:Nat):(S.mk e [] A tk).obj (.l n)=none:=rfl
theorem q4B (e:List (Nat × V)) (l:List (Key × O)) (A:Key->Option O) (tk:List (Nat × Option Nat)) (j k:Key) (o:O):(S.mk e ((j,o)::l) A tk).obj k=if j=k then some o else(S.mk e l A tk).obj k:=by simp only[jv,Cs,AY];by_cases h:j=k <;> simp[h]
theorem q2Y (e:List (Nat × V)) (l:List (Key × O)) (A:Key->Option O) (tk:List (Nat × Option Nat)) (t:Nat):(S.mk e l A tk).live t=EZ tk t:=rfl
theorem q2X (t:Nat):EZ [] t=none:=rfl
theorem q2W (u:Nat) (x:Option Nat) (tk:List (Nat × Option Nat)) (t:Nat):EZ ((u,x)::tk) t=if u=t then x else EZ tk t:=by simp only[EZ,look];by_cases h:u=t;{simp only[if_pos h];cases x <;> rfl};{simp only[if_neg h]}
theorem q2i (e:List (Nat × V)) (l:List (Key × O)) (A:Key->Option O) (t:Nat):(S.mk e l A []).known t=false:=rfl
theorem q88 (τ:Ty) (c:C) (i:Nat):(V.d τ c).get i= .d (τ.get i) (c.get i):=rfl
theorem q87 (τ:Ty) (vs:List V) (i:Nat):(V.agg τ vs).get i=vs.getD i .any:=rfl
theorem q84 (x:V):x.at []=x:=by cases x <;> rfl
theorem q83 (x:V) (i:Nat) (q:List Nat):x.at (i::q)=(x.get i).at q:=by rfl
theorem q8S (τ:Ty) (c:C):(V.d τ c).toInt=c.toInt:=rfl
theorem q8Q (τ:Ty) (c:C):(V.d τ c).toBool=c.toBool:=rfl
theorem q8T (τ:Ty) (c:C):(V.d τ c).toStr=c.toStr:=rfl
theorem q8R (τ:Ty) (c:C):(V.d τ c).toC=c:=rfl
theorem y9 (n:Nat) (e:Ty) (i:Nat):(bu n e).get i=e:=rfl
theorem q81 (e:List (Nat × V)) (l:List (Key × O)) (A:Key->Option O) (tk:List (Nat × Option Nat)) (k:Key):(S.mk e l A tk).up k=((S.mk e l A tk).obj k).map (O.ren .g):=rfl
theorem q2g (k:IntKind):(Ty.int k).known=true:=rfl
theorem q11 (k:IntKind):(Ty.int k).isAgg=false:=rfl
theorem q2d:(Ty.bool).known=true:=rfl
theorem q1Y:(Ty.bool).isAgg=false:=rfl
theorem q2l:(Ty.str).known=true:=rfl
theorem q16:(Ty.str).isAgg=false:=rfl
theorem q2k (n:Nat) (e:Ty):(Ty.slice n e).known=true:=rfl
theorem q15 (n:Nat) (e:Ty):(Ty.slice n e).isAgg=false:=rfl
theorem q2c (n:Nat) (e:Ty):(bu n e).known=true:=rfl
theorem q1X (n:Nat) (e:Ty):(bu n e).isAgg=true:=rfl
theorem q2j:(Ty.ptr).known=true:=rfl
theorem q13:(Ty.ptr).isAgg=false:=rfl
theorem q2h:(Ty.map).known=true:=rfl
theorem q12:(Ty.map).isAgg=false:=rfl
theorem q2e:(Ty.func).known=true:=rfl
theorem q1Z:(Ty.func).isAgg=false:=rfl
theorem q2f:(Ty.iface).known=true:=rfl
theorem q10:(Ty.iface).isAgg=false:=rfl
theorem j4 (n:Nat) (e:Ty) (i:Nat):(bu n e).child i=if i<n then some (i*e.size,e)else none:=rfl
theorem q2a (n:Nat) (e:Ty):(bu n e).DI=bw n e:=rfl
theorem q7E (n:Nat) (e:Ty) (i:Nat):(Ty.slice n e).get i=e:=rfl
theorem q3T (d:Nat):Ck [] d=0:=rfl
theorem q3S (j m:Nat) (l:List (Nat × Nat)) (d:Nat):Ck ((j,m)::l) d=if j=d then m else Ck l d:=by simp only[Ck,look];split <;> rfl
section
variable {X:Cx} {md:List (Nat × Nat)} {ops:Array Oper} {Φ:S->Prop} {o:Oper} {rest:List Oper} {s:S}
theorem Cc.mono {f:FuncId} {xs:List V} {A A':Key->Option O} {v:V} {L:List (Key × O)} (h:Cc X f xs A v L) (hA:∀k o,A k=some o->A' k=some o):Cc X f xs A' v L:=
 fun A'' Γ w args hAA=>h A'' Γ w args fun k o hk=>hAA k o (hA k o hk)
end
section
variable {X:Cx} {md:List (Nat × Nat)} {ops:Array Oper} {Φ:S->Prop} {o:Oper} {rest:List Oper} {ts:List Nat} {base s:S}
end
end
section
section
variable {X:Cx} {md:List (Nat × Nat)} {ops:Array Oper} {Φ:S->Prop} {n:List Unit} {u:Unit} {o:Oper} {rest:List Oper} {ts:List Nat} {base s s':S} {dst:Option Nat} {lo:List (Key × O)} {tn:List (Nat × Option Nat)} {d:Option Nat} {op:Op} {T:TypeId} {ps:String} {af:Array Edge} {j:Nat} {want:Bool}
theorem Bt {x:V} {p q:Prop} (h:x= .d .bool (.bool true)):gx x true p q=p:=by subst h;exact Bm p q
theorem Bs {x:V} {p q:Prop} (h:x= .d .bool (.bool true)):gx x false p q=q:=by subst h;exact Bl p q
theorem Br {x:V} {p q:Prop} (h:x= .d .bool (.bool false)):gx x true p q=q:=by subst h;exact Bk p q
theorem Bq {x:V} {p q:Prop} (h:x= .d .bool (.bool false)):gx x false p q=p:=by subst h;exact Bj p q
theorem Bu {x:V} {want:Bool} {p q:Prop} (h:x= .tup []):gx x want p q=q:=by subst h;rfl
def vcK (X:Cx) (md:List (Nat × Nat)) (ops:Array Oper) (Φ:S->Prop) (rest:List Oper) (dst:Option Nat) (v:V) (s:S):Prop:=vc X md ops Φ rest (s.set dst v)
@[go_sem] theorem z6r:vc X md ops Φ [] s=Φ s:=id rfl
@[go_sem] theorem z6q:vc X md ops Φ (⟨d,op,T,ps,af,none⟩::rest) s=sop X md (Ae ⟨d,op,T,ps,af,none⟩) ⟨d,op,T,ps,af,none⟩ s (vcK X md ops Φ rest d):=by simp only[vc];exact id rfl
@[go_sem] theorem z6k (τ:Ty) (c:C):vcK X md ops Φ rest dst (.d τ c) s=vc X md ops Φ rest (s.set dst (.d τ c)):=id rfl
@[go_sem] theorem z6n (eb:Nat) (e:Ty) (cs:List C) (t:Nat):vcK X md ops Φ rest dst (.sl eb e cs t) s=vc X md ops Φ rest (s.set dst (.sl eb e cs t)):=id rfl
@[go_sem] theorem z6l (eb:Nat) (e:Ty):vcK X md ops Φ rest dst (.emp eb e) s=vc X md ops Φ rest (s.set dst (.emp eb e)):=id rfl
@[go_sem] theorem z6m:vcK X md ops Φ rest dst .yf s=vc X md ops Φ rest (s.set dst .yf):=id rfl
@[go_sem] theorem z6o (k:Key) (q:List Nat) (l0 m:Nat) (cp:Option Nat) (eb:Nat) (e:Ty):vcK X md ops Φ rest dst (.sr k q l0 m cp eb e) s=vc X md ops Φ rest (s.set dst (.sr k q l0 m cp eb e)):=id rfl
@[go_sem] theorem z6p (τ:Ty):vcK X md ops Φ rest dst (.top τ) s=vc X md ops Φ rest (s.set dst (.top τ)):=id rfl
end
end
section
mutual
def C.wf:Ty->C->Prop
 | .int k,c=>c= .int c.toInt/\k.min<=c.toInt/\c.toInt<=k.max| .bool,c=>c= .bool c.toBool| .str,c=>c= .str c.toStr/\c.toStr.length<=140737488355328| .slice eb e,c=>c= .slice c.elems/\c.elems.length*eb<=140737488355328/\c.elems.length<=9223372036854775807/\∀x∈c.elems,C.wf e x| .arr n e,c=>c= .agg c.elems/\c.elems.length=n/\∀x∈c.elems,C.wf e x| .struct _ _ fs,c=>c= .agg c.elems/\C.wfs fs c.elems| .opq _,_=>False| .iface,c=>c= .nil\/c= .bool true|_,c=>c= .nil
def C.wfs:List Ty->List C->Prop
 | [],cs=>cs=[]|f::fs,cs=>∃c cs',cs=c::cs'/\C.wf f c/\C.wfs fs cs'
end
theorem C.yY:∀{fs:List Ty} {cs:List C},C.wfs fs cs->cs.length=fs.length
 | [],_,h=>by simp only[C.wfs]at h;simp[h]
 |f::fs,cs,h=>by simp only[C.wfs]at h;obtain⟨c,cs',rfl,_,h⟩:=h;simp[C.yY h]
theorem C.yX:∀{fs:List Ty} {cs:List C} {i:Nat} {f:Ty},C.wfs fs cs->fs[i]? =some f->C.wf f (cs.getD i .nil)
 | [],_,_,_,_,h=>by simp at h
 |g::fs,cs,i,f,h,hi=>by
  simp only[C.wfs]at h;obtain⟨c,cs',rfl,h1,h2⟩:=h;cases i with
  |zero=>simp at hi;subst hi;simpa using h1|succ i=>simpa using C.yX h2 (show fs[i]? =some f by simpa using hi)
theorem C.MH {sz:Nat} {os:List Nat} {fs:List Ty} {c:C} {i:Nat} {f:Ty} (h:C.wf (.struct sz os fs) c) (hi:fs[i]? =some f):C.wf f (c.get i):=by simp only[C.wf]at h;rw[h.1];exact C.yX h.2 hi
theorem C.q9f {eb:Nat} {e:Ty} {c:C} {i:Nat} (h:C.wf (.slice eb e) c) (hi:i<c.elems.length):C.wf e (c.elems.getD i .nil):=by simp only[C.wf]at h;rw[bq,bp hi];exact h.2.2.2 _ (List.getElem_mem hi)
mutual
theorem AO.wf {H:Hp}:∀{τ:Ty} {vs:List Value} {c:C},AO H τ vs c->C.wf τ c
 | .int k,vs,c,h=>by simp only[AO]at h;obtain⟨n,rfl,_,h1,h2⟩:=h;exact⟨rfl,h1,h2⟩
 | .bool,vs,c,h=>by simp only[AO]at h;obtain⟨n,rfl,_⟩:=h;rfl
 | .str,vs,c,h=>by simp only[AO]at h;obtain⟨n,rfl,_,h1⟩:=h;exact⟨rfl,h1⟩
 | .slice eb e,vs,c,h=>by simp only[AO]at h;obtain⟨a,n,cap,cs,rfl,rfl,h1,h2,h3,h4,h5⟩:=h;simp only[C.wf,az];refine⟨trivial,by rw[h1];exact h4,by unfold maxLen at h3;omega,fun x hx=>?_⟩;obtain⟨i,hi⟩:=uq hx;rcases h5 with h5|⟨b,off,l,_,_,_,hr⟩;{subst h5;have:=(ca.1 hi).1;omega};{exact AO.wf (hr i x hi)}
 | .arr n e,vs,c,h=>by simp only[AO]at h;obtain⟨cs,rfl,h1,h2,h4,h3⟩:=h;simp only[C.wf,az];refine⟨trivial,h1,fun x hx=>?_⟩;obtain⟨i,hi⟩:=uq hx;exact AO.wf (h3 i x hi)
 | .struct sz os fs,vs,c,h=>by simp only[AO]at h;obtain⟨cs,rfl,_,_,h2⟩:=h;simp only[C.wf,az];exact⟨trivial,Bz.wf h2⟩
 | .ptr,vs,c,h| .map,vs,c,h| .func,vs,c,h=>by simp only[AO]at h;simp only[C.wf];exact h.1
 | .iface,vs,c,h=>by simp only[AO]at h;simp only[C.wf];rcases h with h|h;{exact .inl h.1};{exact .inr h.1}
 | .opq _,_,_,h=>by simp only[AO]at h
theorem Bz.wf {H:Hp}:∀{fs:List Ty} {os:List Nat} {vs:List Value} {cs:List C},Bz H fs os vs cs->C.wfs fs cs
 | [],_,_,_,h=>by simp only[Bz]at h;simp only[C.wfs];exact h
 |f::fs,o::os,vs,cs,h=>by simp only[Bz]at h;obtain⟨c,cs',rfl,_,h2,h3⟩:=h;simp only[C.wfs];exact⟨c,cs',rfl,AO.wf h2,Bz.wf h3⟩
 |_::_,[],_,_,h=>by simp[Bz]at h
end
mutual
def V.wf:V->Prop
 | .d τ c=>C.wf τ c| .sl eb e cs _=>C.wf (.slice eb e) (.slice cs)| .ts eb e cs=>C.wf (.slice eb e) (.slice cs)| .sr _ _ _ n _ eb _=>n*eb<=140737488355328/\n<=9223372036854775807| .yg τ c=>C.wf τ c| .agg _ vs=>V.wfs vs|_=>True
def V.wfs:List V->Prop
 | []=>True|x::xs=>x.wf/\V.wfs xs
end
mutual
theorem AA.wf {Γ:G} {hm:Option Key}:∀{x:V} {p:List Nat} {vs:List Value},AA Γ hm p x vs->x.wf
 | .d τ c,_,_,h=>by simp only[AA]at h;exact h.wf
 | .sl eb e cs t,_,_,h=>by simp only[AA]at h;obtain⟨a,n,cap,_,h,_⟩:=h;exact h.wf
 | .ts eb e cs,_,_,h=>by simp only[AA]at h;obtain⟨a,n,cap,k,_,_,h,_⟩:=h;exact h.wf
 | .sr _ _ _ n _ eb _,_,_,h=>by simp only[AA]at h;rcases h with⟨_,rfl,_⟩|⟨b,τ0,o,m,cap,_,_,_,_,h1,h2,h3,_⟩;{exact⟨by rw[gu];exact dr _,dr _⟩};exact⟨h3,by unfold maxLen at h2;omega⟩
 | .yg τ c,_,_,h=>by simp only[AA]at h;obtain⟨b,off,l,_,_,_,h⟩:=h;exact h.wf
 | .agg _ vs,_,_,h=>by simp only[AA]at h;exact Aa.wf h.2.2.2.2
 | .emp _ _,_,_,_| .yf,_,_,_| .ptr _ _ _,_,_,_| .mp _,_,_,_| .fn _ _,_,_,_| .tup _,_,_,_| .top _,_,_,_| .any,_,_,_=>by simp only[V.wf]
theorem Aa.wf {Γ:G} {hm:Option Key}:∀{xs:List V} {p:List Nat} {i:Nat} {τ:Ty} {vs:List Value},Aa Γ hm p i τ xs vs->V.wfs xs
 | [],_,_,_,_,_=>by simp only[V.wfs]
 |x::xs,_,_,_,_,h=>by simp only[Aa]at h;obtain⟨⟨o,f,_,_,_,h1⟩,h2⟩:=h;exact⟨AA.wf h1,Aa.wf h2⟩
end
def V.wfT:V->Prop
 | .tup xs=>V.wfs xs|x=>x.wf
theorem BX.wf {Γ:G}:∀{xs:List V} {vs:List Value},BX Γ xs vs->V.wfs xs
 | [],_,_=>by simp only[V.wfs]
 |x::xs,_,h=>by simp only[BX]at h;obtain⟨v,vs',_,h1,_,h2⟩:=h;exact⟨AA.wf h1,BX.wf h2⟩
theorem AI.wf {Γ:G} {x:V} {v:Value} (h:AI Γ x v):x.wfT:=by
 cases x
 case any=>simp only[V.wfT,V.wf]
 case tup xs=>obtain⟨vs,_,h⟩:=h;exact h.wf
 all_goals exact AA.wf h.1
def O.wf:O->Prop
 | .box x=>x.wf| .map _ _ es=>∀c∈es,c.2.wf| .it _ _| .dead _=>True
structure WF (s:S):Prop where
 slot:∀t,(s.get t).wfT
 obj:∀k x,s.obj k=some (.box x)->x.wf
section
variable {X:Cx} {n:Nat} {s:S} {Ψ:Exit->S->Prop} {c:Code}
theorem At.wf {Γ0:G} {a:Act} {w:World} (h:At X n Γ0 s a w):WF s:=by obtain⟨Γ,_,_,c,hs,_⟩:=h;refine⟨fun t=>(hs t).wf,fun k x hk=>?_⟩;rcases c.obj k _ hk with⟨_,e,rfl⟩|⟨b,cells,T,_,_,_,_,_,h,_⟩;{simp[V.wf,C.wf,az]};exact h.wf
theorem WF.at {t:Nat} {x:V} (h:WF s) (ht:s.get t=x):x.wfT:=ht ▸ h.slot t
end
theorem Nm {k:IntKind} {n:Int} (h1:k.min<=n) (h2:n<=k.max):k.wrap n=n:=by cases k <;> simp[IntKind.wrap,IntKind.min,IntKind.max,IntKind.bits,IntKind.signed]at h1 h2 ⊢ <;> omega
end
section
attribute [go_sem] eq_self gp Option.bind_none gm oq tj Bool.not_false decide_true decide_false forall_const true_implies false_implies
attribute [go_sem] implies_true not_true not_false_iff sop iop kop fop sl3 Js LN Ql lk List.head?_cons List.tail_cons List.head?_nil
attribute [go_sem] strOf Ty.Rc Op.operands Call.operands GC GD top q3T q3S pv Pn Pp SQ NT
attribute [go_sem] SP Po Pq Cv V.Fe cut q5o q5e q5b q5c q5n q5i
attribute [go_sem] q5j q5f q5g q5l q5k q5m q5d q5h Iw q5a fi if_true if_false KJ Lz Nd JL BinOp.LP
attribute [go_sem] Ae Aj Xq Pc DW ya Gj V.ED V.DV V.tkR mh q1s
attribute [go_sem] get_nil q7B q7z q48 q8V ah q4C q4D q4B q2Y q2X q2W
attribute [go_sem] q2i q81 O.ren V.ren V.Dn NS LM Lu SN LL St
attribute [go_sem] E.look AY Nat.zero_ne_one Nat.one_ne_zero DN EG Cy DK Gz Ev Jt gOk
attribute [go_sem] tOk S.ret Gd HU Gq dn rk dnL dnT Eo Ib Ey
attribute [go_sem] V.sites V.Sz V.Cf V.II V.okH V.SD V.Ch V.GR Gv jh rj or_false
attribute [go_sem] false_or and_true true_and and_self or_true true_or or_self List.nil_append List.cons_append List.append_nil V.isInt V.Fq
attribute [go_sem] V.isBool V.isStr V.Dk q8S q8Q q8T q8R AG AZ o9 AQ Ac
attribute [go_sem] iA q84 q83 q88 q87 y9 V.setAt V.set C.set Hd Cj Jr
attribute [go_sem] MV qk rn V.BT V.Cw V.Ht view views Cm Eh List.map_cons List.map_nil
attribute [go_sem] List.getD_cons_zero List.getD_cons_succ List.set_cons_zero List.set_cons_succ List.all_cons List.all_nil ij ne_eq not_false_eq_true not_true_eq_false Ty.size q2g
attribute [go_sem] q11 q2d q1Y q2l q16 q2k q15 q2c q1X q2j q13 q2h
attribute [go_sem] q12 q2e q1Z q2f q10 j4 q2a q7E uv uu kg List.getElem?_cons_zero
attribute [go_sem] fu ir cn cu Nat.lt_add_one Nat.zero_lt_succ jx Bool.true_and Bool.or_true Bool.true_or xm kc
attribute [go_sem] cond_true cond_false Key.l.injEq Key.g.injEq bg List.contains_nil List.contains_cons Bool.and_self decide_eq_true_eq Nat.not_lt_zero bw List.replicate_zero
@[go_sem] theorem z6B (k:IntKind):AH (.int k)= .int 0:=rfl
@[go_sem] theorem z6y:AH .bool= .bool false:=rfl
@[go_sem] theorem z6F:AH .str= .str []:=rfl
@[go_sem] theorem z6E (eb:Nat) (e:Ty):AH (.slice eb e)= .slice []:=rfl
@[go_sem] theorem z6D:AH .ptr= .nil:=rfl
@[go_sem] theorem z6C:AH .map= .nil:=rfl
@[go_sem] theorem z6z:AH .func= .nil:=rfl
@[go_sem] theorem z6A:AH .iface= .nil:=rfl
theorem zD (n:Nat) (e:Ty):AH (.arr n e)= .agg (bw n (AH e)):=rfl
attribute [go_sem] Al V.d.injEq V.emp.injEq
attribute [go_sem] false_and and_false Sw Bm Bj Bl Bk gv
attribute [go_sem] GY Fu Ij QI QG Fa Na Kd IW HV GM JD V.BW V.GV O.BW V.ok vf V.Dm EF O.okB O.ok Cd CP List.isEmpty_nil List.isEmpty_cons uv uu
section
variable {X:Cx} {n:Nat} {c:Code} {Ψ:Exit->S->Prop} {md:List (Nat × Nat)} {ops:Array Oper} {Φ:S->Prop} {m:List Unit} {l:List Oper} {ts:List Nat} {dst:Nat} {o:Oper} {K:V->S->Prop} {s s' b b':S}
theorem q0g:((0:Nat)=100)=False:=by simp
theorem q0h:((3:Nat)=100)=False:=by simp
attribute [go_sem] lop q0g q0h false_or false_and
end
end
section
section
variable {X:Cx} {n:Nat} {s:S} {Ψ:Exit->S->Prop}
theorem ZP {Γ0:G} {ι:Type} (I:ι->S) (μ:ι->Nat) {a:Act} {w:World} (h:∃i,At X n Γ0 (I i) a w):∃m,∃i,At X n Γ0 (I i) a w/\μ i=m/\∀j,At X n Γ0 (I j) a w->m<=μ j:=by
 obtain⟨i,hi⟩:=h;have:∀m i,μ i=m->At X n Γ0 (I i) a w->∃m,∃i,At X n Γ0 (I i) a w/\μ i=m/\∀j,At X n Γ0 (I j) a w->m<=μ j:=by
  intro m
  induction m using xg with
  |_ m ih=>
   intro i hm hi;by_cases h:∃j,At X n Γ0 (I j) a w/\μ j<m;{obtain⟨j,hj,hlt⟩:=h;exact ih _ hlt j rfl hj};{exact⟨m,i,hi,hm,fun j hj=>Nat.le_of_not_lt fun hlt=>h ⟨j,hj,hlt⟩⟩}
 exact this _ i rfl hi
theorem J1 {c rest:Code} (l:Nat) (hf:findLabel c l=some rest) {ι:Type} (I:ι->S) (μ:ι->Nat)
  (first:DC X n c s fun e s'=>match e with| .goto l'=>l'=l/\∃i,EE X n s' (I i)|e=>Ψ e s')
  (pass:∀i,DC X n rest (I i) fun e s'=>match e with| .goto l'=>l'=l/\∃j,EE X n s' (I j)/\μ j<μ i|e=>Ψ e s'):DC X n (.scope c) s Ψ:=by
 intro Γ0 a w hat
 open Classical in
 refine wp_scope_jumps l (fun a w=>∃i,At X n Γ0 (I i) a w) (fun a w=>if h:∃i,At X n Γ0 (I i) a w then Classical.choose (ZP I μ h)else 0) hf ?_ ?_
 ·refine wp_mono (first Γ0 a w hat) ?_;rintro e a' w' ⟨s',h1,h2⟩;cases e with
  |goto l'=>
   obtain⟨e1,i,hi⟩:=h1;exact⟨e1,i,hi Γ0 a' w' h2⟩
  |normal|exit _|ret|panic _|outgrown=>exact⟨s',h1,h2⟩
 ·intro a w hI;obtain⟨i,hi,hm,hmin⟩:=se (ZP I μ hI);refine wp_mono (pass i Γ0 a w hi) ?_;rintro e a' w' ⟨s',h1,h2⟩;cases e with
  |goto l'=>
   obtain⟨e1,j,hj,hlt⟩:=h1;have z66:=hj Γ0 a' w' h2;have hI':∃i,At X n Γ0 (I i) a' w':=⟨j,z66⟩;refine⟨e1,hI',?_⟩;obtain⟨i',hi',hm',z8I⟩:=se (ZP I μ hI');have:=z8I j z66;rw[dif_pos hI',dif_pos hI];omega
  |normal|exit _|ret|panic _|outgrown=>exact⟨s',h1,h2⟩
theorem jI {c:Code} (h:DC X n c s fun e s'=>match e with| .goto _=>False|e=>Ψ e s'):DC X n (.scope c) s Ψ:=by
 intro Γ0 a w hat;refine wp_scope_straight (wp_mono (h Γ0 a w hat) ?_);rintro e a' w' ⟨s',h1,h2⟩;cases e with
 |goto l'=>exact h1.elim|normal|exit _|ret|panic _|outgrown=>exact⟨s',h1,h2⟩
theorem Qv {t:Nat} {c c':Code} (hb:s.get t= .top .bool) (h1:DC X n c s Ψ) (h2:DC X n c' s Ψ):DC X n (.cond (.tmp t) c c') s Ψ:=by
 intro Γ0 a w hat;have key:∃b,a.eval (.tmp t)= .bool b:=by obtain⟨Γ,_,_,_,hs,_⟩:=hat;have:=hs t;rw[hb]at this;obtain⟨h1,h2⟩:=(Ca rfl).1 this;rw[DR (by simpa[qk,Ty.isAgg]using h2)]at h1;simp only[AA]at h1;obtain⟨b,hv⟩:=h1.2.2 trivial;exact⟨b,by simp only[List.cons.injEq,and_true]at hv;exact hv⟩
 obtain⟨b,hv⟩:=key;refine wp_cond (t:=b) hv ?_;cases b with
 |true=>exact h1 Γ0 a w hat|false=>exact h2 Γ0 a w hat
theorem q9e {t u eb:Nat} {e:Ty} (hu:s.known u=false) (ht:s.get t= .yf\/s.get t= .emp eb e):EE X n s (S.set {s with tk:=(u,some 0)::s.tk} (some t) (.sl eb e [] u)):=by
 rintro Γ0 a w ⟨Γ,g1,g3,c,hs,hn,hf,hA⟩;obtain⟨c1,p1,g2⟩:=c.EA hu (x:=none) (L:=0) (fun _ _ _ h=>by cases h);refine⟨Γ.EA u none 0,g1.trans g2,g2.gl.trans g3,Qm c1 _ _,fun i=>?_,hn,hf,hA⟩;rw[KC];split
 ·rename_i e1;cases e1;have h0:=hs t;obtain⟨a0,ha⟩:∃a0,a.tmps.getD t undef= .slice a0 0 0:=by rcases ht with h|h;{rw[h]at h0;exact⟨none,GL h0⟩};{rw[h]at h0;obtain⟨h1,_⟩:=(Ci rfl rfl).1 h0;simp only[AA]at h1;obtain⟨a0,h1⟩:=h1;exact⟨a0,by simpa using h1⟩}
  rw[ha];refine(Ci rfl rfl).2 ⟨?_,rfl⟩;simp only[AA];exact⟨a0,0,0,rfl,Eb rfl (bx _) (dr _) (by rw[gu];exact dr _) (.inl rfl),none,0,by simp[G.EA,CR],bx _,fun _=>rfl⟩
 ·exact(hs i).Bn p1
end
attribute [go_sem] IC tkW DQ
end
section
theorem C.q0Z (a b:C):ry a b=ry b a:=by rw[Bool.eq_iff_iff,C.Gt,C.Gt];exact eq_comm
theorem pV {α:Type}:∀(es:List (C × α)) (c:C) (v:α) (c':C),Fv (FB es c v) c'=if ry c' c=true then some v else Fv es c'
 | [],c,v,c'=>by simp only[FB,Fv]
 |(k,u)::es,c,v,c'=>by
  simp only[FB];by_cases h:ry c k=true;{rw[if_pos h];have:=C.Gt.1 h;subst this;simp only[Fv];split <;> rfl}
  ·rw[if_neg h];simp only[Fv];by_cases h':ry c' k=true
   ·rw[if_pos h',if_pos h'];have:=C.Gt.1 h';subst this;have:ry c' c=false:=by
     cases hh:ry c' c with
     |false=>rfl|true=>rw[C.q0Z]at hh;exact absurd hh h
    rw[this];simp
   ·rw[if_neg h',if_neg h',pV es c v c']
def yB (nx:C->C) (c v:C):C->C:=fun c'=>if ry c' c=true then v else nx c'
structure Qa (P:Program) (et:TypeId) (τ:Ty) (es:List (C × V)) (nx:C->C):Prop where
 look:∀c,Hn P et es c= .d τ (nx c)
 all:∀f g,V.Dm f g es=true
 dat:EF τ es=true
theorem rO {f g:Nat->Bool}:∀{es:List (C × V)} {c:C} {v:V},V.Dm f g es=true->v.ok f g=true->V.Dm f g (FB es c v)=true
 | [],c,v,_,hv=>by simp only[FB,V.Dm,hv,jx]
 |(k,u)::es,c,v,h,hv=>by simp only[V.Dm,bg]at h;simp only[FB];split;{simp only[V.Dm,hv,h.2,jx]};{simp only[V.Dm,h.1,rO h.2 hv,jx]}
theorem fY {τ:Ty}:∀{es:List (C × V)} {c v:C},EF τ es=true->EF τ (FB es c (.d τ v))=true
 | [],c,v,_=>by simp only[FB,EF,(Ty.beq_iff τ τ).2 rfl,jx]
 |(k,u)::es,c,v,h=>by simp only[EF,bg]at h;simp only[FB];split;{simp only[EF,(Ty.beq_iff τ τ).2 rfl,h.2,jx]};{simp only[EF,h.1,fY h.2,jx]}
theorem Qa.put {P:Program} {et:TypeId} {τ:Ty} {es:List (C × V)} {nx:C->C} (h:Qa P et τ es nx) (c v:C):Qa P et τ (FB es c (.d τ v)) (yB nx c v):=by refine⟨fun c'=>?_,fun f g=>rO (h.all f g) rfl,fY h.dat⟩;have:=h.look c';unfold Hn at this ⊢;rw[pV];unfold yB;by_cases e:ry c' c=true;{rw[if_pos e,if_pos e];rfl};{rw[if_neg e,if_neg e];exact this}
theorem Qa.nil {P:Program} {et:TypeId} {τ:Ty} (h:Al (ty P et)= .d τ (AH τ)):Qa P et τ [] (fun _=>AH τ):=⟨fun c=>by
 unfold Hn;simp only[Fv,rj];exact h,fun _ _=>rfl,rfl⟩
section
variable {X:Cx} {n:Nat} {s:S} {Ψ:Exit->S->Prop}
end
attribute [go_sem] Ty.flat V.Ch V.GR
end
section
mutual
def V.Ei:V->V
 | .emp eb e=>.ts eb e []| .agg τ vs=>.agg τ (V.JT vs)|x=>x
def V.JT:List V->List V
 | []=>[]|x::xs=>x.Ei::V.JT xs
end
theorem V.UJ (x:V):x.Ei.ty=x.ty:=by cases x <;> simp[V.Ei,qk]
theorem V.q0U (x:V):x.Ei.plain=x.plain:=by cases x <;> simp[V.Ei,rn]
theorem V.kS:∀xs:List V,(V.JT xs).length=xs.length
 | []=>rfl|x::xs=>by simp[V.JT,V.kS xs]
mutual
theorem V.kQ:∀x:V,x.Ei.BT=x.BT
 | .agg τ vs=>by simp only[V.Ei,V.BT];exact V.kT vs
 | .emp _ _| .sl _ _ _ _| .ptr _ _ _| .sr _ _ _ _ _ _ _| .mp _| .d _ _| .ts _ _ _| .yf| .yg _ _| .top _| .any| .fn _ _| .tup _=>by simp[V.Ei,V.BT]
theorem V.kT:∀xs:List V,V.Cw (V.JT xs)=V.Cw xs
 | []=>rfl|x::xs=>by simp only[V.JT,V.Cw,V.kQ x,V.kT xs]
end
section
variable {Γ:G} {k:Key}
mutual
theorem AA.Ei:∀(x:V) {p:List Nat} {vs:List Value},AA Γ (some k) p x vs->AA Γ (some k) p x.Ei vs
 | .emp eb e,p,vs,h=>by simp only[AA,V.Ei]at h ⊢;obtain⟨a,rfl⟩:=h;exact⟨a,0,0,k,rfl,rfl,Eb rfl (bx _) (dr _) (by rw[gu];exact dr _) (.inl rfl),.inl rfl⟩
 | .agg τ xs,p,vs,h=>by simp only[AA,V.Ei]at h ⊢;exact⟨h.1,h.2.1,by rw[V.kS];exact h.2.2.1,h.2.2.2.1,Aa.Ei xs h.2.2.2.2⟩
 | .sl _ _ _ _,_,_,h| .ptr _ _ _,_,_,h| .sr _ _ _ _ _ _ _,_,_,h| .mp _,_,_,h| .d _ _,_,_,h| .ts _ _ _,_,_,h| .yf,_,_,h| .yg _ _,_,_,h| .top _,_,_,h| .any,_,_,h| .fn _ _,_,_,h| .tup _,_,_,h=>h
theorem Aa.Ei:∀(xs:List V) {p:List Nat} {i:Nat} {τ:Ty} {vs:List Value},Aa Γ (some k) p i τ xs vs->Aa Γ (some k) p i τ (V.JT xs) vs
 | [],_,_,_,_,_=>by simp only[V.JT,Aa]
 |x::xs,_,_,_,_,h=>by simp only[Aa,V.JT,V.UJ]at h ⊢;obtain⟨⟨o,f,h1,h2,h3,h4⟩,h5⟩:=h;exact⟨⟨o,f,h1,h2,h3,AA.Ei x h4⟩,Aa.Ei xs h5⟩
end
end
theorem q9b {X:Cx} {n:Nat} {s:S} {k:Key} {x:V} (h:s.obj k=some (.box x)):EE X n s (s.put k (.box x.Ei)):=by rintro Γ0 a w ⟨Γ,g1,g3,c,hs,hn,hf,hA⟩;refine⟨Γ,g1,g3,⟨c.hH,c.hZ,c.hκ,fun j o hj=>?_,fun j hj=>?_,c.KI (fun j hj=>?_),c.tok,c.yv,c.hgl,c.hoo,c.hσ⟩,hs,hn,hf,hA⟩;{rw[EC]at hj;split at hj;{rename_i e;subst e;cases hj;rcases c.obj _ _ h with⟨hn,e,rfl⟩|⟨b,cells,T,h1,h2,h3,h4,h5,h6,h7,h8⟩;{exact .inl ⟨hn,e,rfl⟩};exact .inr ⟨b,cells,T,by rw[V.UJ];exact h1,h2,h3,h4,by rw[V.UJ];exact h5,by rw[V.UJ];exact AA.Ei x h6,by rw[V.q0U];exact h7,by rw[V.kQ];exact h8⟩};{exact c.obj j o hj}};{rw[EC];split;{simp};{exact c.dom j hj}};{unfold S.CY at hj ⊢;rw[EC];split;{rename_i e;subst e;rw[h]at hj;cases hj};{exact hj}}
attribute [go_sem] V.Ei V.JT
end
end Go.E
