/-
 A framework for runs of Go code over abstract data: what it needs, and that it is sound, part 7.
 Conditions: none.
-/
import Derived.Test.YtgdonkaoajbclaaGreatDoorEf
set_option linter.all false
noncomputable section
set_option maxRecDepth 100000
set_option maxHeartbeats 4000000
open Bool renaming and_eq_true->bg,true_and->qq
open Go.E.C renaming toInt->ao
open Go.E.Hp renaming le_refl->gu
open Go.E.O renaming ren->wc
open Go.E.S renaming live->uu,obj->jj,start->kf
open Go.E.Ty renaming beq->wj,beq_iff->rf
open Go.E.V renaming ok->ve,oks->ry,ren->qn
open List renaming find?_some->rr,getD_eq_getElem?_getD->bn,map_congr_left->vb,map_cons->ed,map_map->pe,mem_append->dy,mem_cons->gr,mem_of_find?_eq_some->sn
open Nat renaming add_assoc->ga,add_comm->qw,add_zero->iv,beq->bo,eq_of_beq_eq_true->fk,zero_add->cq
open Option renaming ite_none_right_eq_some->ax,ne_none_iff_exists'->rm
namespace Go.E
open Go
def Bc (f:Nat->Nat):Key->Key
 | .l n=>.l (f n)
 | .g k=>.g k
def S.ren (s:S) (f g:Nat->Nat):S:=
 ⟨s.env.map fun p=>(p.1,p.2.ren (Bc f) g),s.loc.map fun p=>(Bc f p.1,p.2.ren (Bc f)),s.A,s.tk.map fun p=>(g p.1,p.2)⟩
def Fh:List (Key × O)->List Nat
 | []=>[]
 |(.l n,_)::l=>n::Fh l
 |(.g _,_)::l=>Fh l
def Fq:List (Nat × Option Nat)->List Nat
 | []=>[]
 |(t,_)::l=>t::Fq l
def Js (f:Nat->Nat) (l:List Nat):Bool:=l.all fun a=>l.all fun b=> !(bo (f a) (f b))||bo a b
def wF {f} {l:List Nat} (h:Js f l=true) {a b:Nat} (ha:a∈l) (hb:b∈l) (e:f a=f b):a=b:=by
 simp only[Js,List.all_eq_true]at h;have:=h a ha b hb;rw[e,Nat.beq_refl]at this;simpa[Nat.beq_eq]using this
def Rh:∀{l:List (Key × O)} {n:Nat},AR l (.l n)≠none->n∈Fh l
 | [],_,h=>by simp[AR]at h
 |(.l m,o)::l,n,h=>by
  simp only[AR]at h;simp only[Fh,gr];by_cases e:m=n
  ·exact .inl e.symm
  ·rw[if_neg (by intro e';cases e';exact e rfl)]at h;exact .inr (Rh h)
 |(.g m,o)::l,n,h=>by
  simp only[AR]at h;rw[if_neg (by intro e';cases e')]at h;exact Rh (l:=l) h
def eK {f}:∀{l:List (Key × O)} {k':Key} {o':O},AR (l.map fun p=>(Bc f p.1,p.2.ren (Bc f))) k'=some o'->∃k o,Bc f k=k'/\AR l k=some o/\o'=o.ren (Bc f)
 | [],_,_,h=>by simp[AR]at h
 |(j,p)::l,k',o',h=>by
  simp only[ed,AR]at h;by_cases e:Bc f j=k'
  ·rw[if_pos e]at h;cases h;exact⟨j,p,e,by simp[AR],rfl⟩
  ·rw[if_neg e]at h;obtain⟨k,o,h1,h2,h3⟩:=eK h;refine⟨k,o,h1,?_,h3⟩;simp only[AR];rw[if_neg (fun e'=>e (by rw[e'];exact h1))];exact h2
def SC {f}:∀{l:List (Key × O)} {k:Key},AR (l.map fun p=>(Bc f p.1,p.2.ren (Bc f))) (.g k)=(AR l (.g k)).map fun o=>o.ren (Bc f)
 | [],_=>rfl
 |(.l m,p)::l,k=>by
  simp only[ed,AR,Bc];rw[if_neg (by intro e;cases e),if_neg (by intro e;cases e)];exact SC
 |(.g m,p)::l,k=>by
  simp only[ed,AR,Bc];by_cases e:Key.g m= .g k
  ·rw[if_pos e,if_pos e];rfl
  ·rw[if_neg e,if_neg e];exact SC
def zD {g:Nat->Nat}:∀{l:List (Nat × Option Nat)} {u:Nat} {x:Option Nat},look (l.map fun p=>(g p.1,p.2)) u=some x->∃t,g t=u/\look l t=some x/\t∈Fq l
 | [],_,_,h=>by simp[look]at h
 |(j,p)::l,u,x,h=>by
  simp only[ed,look]at h;by_cases e:g j=u
  ·rw[if_pos e]at h;cases h;exact⟨j,e,by simp[look],by simp[Fq]⟩
  ·rw[if_neg e]at h;obtain⟨t,h1,h2,h3⟩:=zD h;refine⟨t,h1,?_,by simp[Fq,h3]⟩;simp only[look];rw[if_neg (fun e'=>e (by rw[e'];exact h1))];exact h2
def wX {g:Nat->Nat}:∀{l:List (Nat × Option Nat)} {t:Nat},t∈Fq l->(look (l.map fun p=>(g p.1,p.2)) (g t)).isSome=true
 | [],_,h=>by simp[Fq]at h
 |(j,p)::l,t,h=>by
  simp only[Fq,gr]at h;simp only[ed,look];by_cases e:g j=g t
  ·rw[if_pos e];rfl
  ·rw[if_neg e];rcases h with h|h
   ·subst h;exact absurd rfl e
   ·exact wX h
def q1V:∀{l:List (Nat × Option Nat)} {t:Nat},(look l t).isSome=true->t∈Fq l
 | [],_,h=>by simp[look]at h
 |(j,p)::l,t,h=>by
  simp only[look]at h;simp only[Fq,gr];by_cases e:j=t
  ·exact .inl e.symm
  ·rw[if_neg e]at h;exact .inr (q1V h)
def eR {f:V->V}:∀(l:List (Nat × V)) (i:Nat),look (l.map fun p=>(p.1,f p.2)) i=(look l i).map f
 | [],_=>rfl
 |(j,x)::l,i=>by
  simp only[ed,look];by_cases e:j=i
  ·rw[if_pos e,if_pos e];rfl
  ·rw[if_neg e,if_neg e];exact eR l i
theorem q6w (s:S) (f g:Nat->Nat) (i:Nat):(s.ren f g).get i=(s.get i).ren (Bc f) g:=by
 unfold S.get S.ren;rw[eR];cases look s.env i <;> rfl
mutual
def V.UE {f g}:∀(x:V),x.ok BQ BQ=true->x.ren (Bc f) g=x
 | .sl _ _ _ t,h=>by simp[ve,BQ]at h
 | .ptr (.l k) _ _,h| .mp (.l k),h| .sr (.l k) _ _ _ _ _ _,h=>by simp[ve,BQ]at h
 | .agg _ vs,h| .fn _ vs,h| .tup vs,h=>by simp only[ve]at h;simp only[qn,V.q0M vs h]
 | .ptr (.g _) _ _,_| .mp (.g _),_| .sr (.g _) _ _ _ _ _ _,_| .d _ _,_| .ts _ _ _,_| .emp _ _,_| .ym,_| .yn _ _,_| .top _,_| .any,_=>by simp[qn,Bc]
def V.q0M {f g}:∀(xs:List V),ry BQ BQ xs=true->V.Ck (Bc f) g xs=xs
 | [],_=>rfl
 |x::xs,h=>by
  simp only[ry,bg]at h;simp only[V.Ck,V.UE x h.1,V.q0M xs h.2]
end
def tS {f}:∀{es:List (C × V)},V.DH BQ BQ es=true->es.map (fun c=>(c.1,c.2.ren (Bc f) id))=es
 | [],_=>rfl
 |x::xs,h=>by
  simp only[V.DH,bg]at h;simp only[ed,V.UE x.2 h.1,tS h.2]
def O.UE {f} {o:O} (h:o.ok BQ BQ=true):o.ren (Bc f)=o:=by
 cases o with
 |box x=>simp only[wc];rw[V.UE x h]
 |map kτ vτ es=>simp only[wc];rw[tS h]
 |it=>rfl
 |dead=>rfl
def Tip.ren (f g:Nat->Nat):Tip->Tip
 | .tok t=>.tok (g t)
 | .home k p=>.home (Bc f k) p
def G.FT (Γ:G) (s:S) (f g:Nat->Nat):G:=
 {Γ with
  ι:=fun k=>match k with
   | .g k=>Γ.ι (.g k)
   | .l m=>match(Fh s.loc).find? (fun n=>decide (f n=m))with
    |some n=>Γ.ι (.l n)
    |none=>none
  τ:=fun u=>match(Fq s.tk).find? (fun t=>decide (g t=u))with
   |some t=>Γ.τ t
   |none=>none
  κ:=fun b=>(Γ.κ b).map fun p=>(p.1.ren f g,p.2)}
def uL {f} {l:List Nat} (h:Js f l=true) {n:Nat} (hn:n∈l):l.find? (fun a=>decide (f a=f n))=some n:=by
 cases hf:l.find? (fun a=>decide (f a=f n))with
 |none=>
  have:=List.find?_eq_none.1 hf n hn;simp at this
 |some a=>
  have h1:=rr hf;have h2:=sn hf;rw[wF h h2 hn (by simpa using h1)]
def gC {s:S} {n:Nat}:s.obj (.l n)=AR s.loc (.l n):=by
 unfold jj Bt;cases AR s.loc (.l n) <;> rfl
def z4M {X:Cx} {n:Nat} {s:S} (f g:Nat->Nat) (hf:Js f (Fh s.loc)=true) (hg:Js g (Fq s.tk)=true):DL X n s (s.ren f g):=by
 rintro Γ0 a w ⟨Γ,g1,g3,c,hs,hn,hfr,hA⟩
 have lin:∀m x,Γ.ι (.l m)=some x->m∈Fh s.loc:=fun m x h=>Rh (by
  have:=c.dom (.l m) (by rw[h];simp)
  rwa [gC]at this)
 have tin:∀t x,Γ.τ t=some x->t∈Fq s.tk:=fun t x h=>q1V (c.zc t (by rw[h];simp));have ιl:∀m,m∈Fh s.loc->(Γ.FT s f g).ι (.l (f m))=Γ.ι (.l m):=fun m hm=>by simp only[G.FT,uL hf hm]
 have z7u:∀k,s.obj k≠none->Γ.ι k=none->(Γ.FT s f g).ι (Bc f k)=none:=by
  intro k ho hn;cases k with
  |g k=>exact hn
  |l m=>
   have hm:m∈Fh s.loc:=Rh (by rw[<-gC];exact ho);exact(ιl m hm).trans hn
 have ιk:∀k x,Γ.ι k=some x->(Γ.FT s f g).ι (Bc f k)=some x:=by
  intro k x h;cases k with
  |g k=>exact h
  |l m=>exact(ιl m (lin m x h)).trans h
 have τk:∀t x,Γ.τ t=some x->(Γ.FT s f g).τ (g t)=some x:=by
  intro t x h;simp only[G.FT,uL hg (tin t x h)];exact h
 have back:∀k' x,(Γ.FT s f g).ι k'=some x->∃k,Bc f k=k'/\Γ.ι k=some x:=by
  intro k' x h;cases k' with
  |g k=>exact⟨.g k,rfl,h⟩
  |l m=>
   simp only[G.FT]at h;split at h
   ·rename_i n' hfd;exact⟨.l n',by simp only[Bc];rw[show f n'=m by simpa using rr hfd],h⟩
   ·cases h
 have pr:∀hm,GY Γ (Γ.FT s f g) (Bc f) hm:=fun hm=>⟨gu _,ιk,fun _ _ h=>h,fun k b p sz _ hk=>⟨by simp[G.FT,hk,Tip.ren],rfl⟩⟩;have z7c:∀k x,Γ.ι k=some x->(s.ren f g).obj (Bc f k)≠none:=by
  intro k x h1;cases k with
  |l m=>
   have hm:=lin m x h1;show jj (s.ren f g) (.l (f m))≠none;rw[gC];intro z7v;have key:∀{l:List (Key × O)},m∈Fh l->AR (l.map fun p=>(Bc f p.1,p.2.ren (Bc f))) (.l (f m))≠none:=by
    intro l
    induction l with
    |nil=>intro h;simp[Fh]at h
    |cons p l ih=>
     obtain⟨j,o⟩:=p;intro h;simp only[ed,AR];by_cases e:Bc f j= .l (f m)
     ·rw[if_pos e];simp
     ·rw[if_neg e];cases j with
      |g j=>exact ih (by simpa[Fh]using h)
      |l j=>
       simp only[Fh,gr]at h;rcases h with rfl|h
       ·exact absurd rfl e
       ·exact ih h
   exact key hm z7v
  |g k=>
   have h2:=c.dom (.g k) (by rw[h1];simp);show jj (s.ren f g) (.g k)≠none;unfold jj Bt at h2 ⊢;rw[show AR (s.ren f g).loc (.g k)=_ from SC];cases hl:AR s.loc (.g k)with
   |none=>rw[hl]at h2;exact h2
   |some o=>simp
 have ze:∀k x,Γ.ι k=some x->s.BW k=true->(s.ren f g).BW (Bc f k)=true:=by
  intro k x h1 hd;cases ho':(s.ren f g).obj (Bc f k)with
  |none=>exact absurd ho' (z7c k x h1)
  |some o1=>
   rw[EV ho'];cases hl:AR (s.ren f g).loc (Bc f k)with
   |some o2=>
    have e:o2=o1:=by unfold jj Bt at ho';rw[hl]at ho';exact Option.some.inj ho'
    subst e;obtain⟨k2,o,h2,h3,rfl⟩:=eK hl;have hk:k2=k:=by
     cases k with
     |g k=>cases k2 with
      |g k2=>simpa[Bc]using h2
      |l m2=>simp[Bc]at h2
     |l m=>cases k2 with
      |g k2=>simp[Bc]at h2
      |l m2=>
       simp only[Bc,Key.l.injEq]at h2;rw[wF hf (Rh (by rw[h3];simp)) (lin m x h1) h2]
    subst hk;rw[O.UD];rw[EV (Wz h3)]at hd;exact hd
   |none=>
    cases k with
    |l m=>unfold jj Bt at ho';rw[show Bc f (.l m)= .l (f m) from rfl]at ho' hl;rw[hl]at ho';cases ho'
    |g k=>
     have h0:AR s.loc (.g k)=none:=by
      have:=SC (f:=f) (l:=s.loc) (k:=k);rw[show AR (s.loc.map _) (.g k)=none from hl]at this;cases hx:AR s.loc (.g k)with
      |none=>rfl
      |some y=>rw[hx]at this;cases this
     have e1:(s.ren f g).obj (.g k)=s.A k:=by unfold jj Bt;rw[show AR (s.ren f g).loc (.g k)=none from hl];rfl
     have e2:s.obj (.g k)=s.A k:=by unfold jj Bt;rw[h0]
     rw[EV (e2.trans (e1.symm.trans ho'))]at hd;exact hd
 refine⟨Γ.FT s f g,⟨g1.H,g1.Z,g1.ZH,g1.g,g1.gl,g1.oo,g1.σ,g1.gn⟩,g3,?_,fun i=>?_,hn,hfr,hA⟩
 ·refine⟨c.hH,c.hZ,fun b o sz h=>?_,fun k' o' h=>?_,fun k' h=>?_,fun k k' b τ τ' h1 h2=>?_,fun u L h=>?_,fun u h=>?_,c.hgl,c.hoo,c.hσ⟩
  ·cases hk:Γ.κ b with
   |none=>simp[G.FT,hk]at h
   |some p=>
    obtain⟨t,sz'⟩:=p;simp[G.FT,hk]at h;obtain⟨a1,a2,arr,T,a3,a4,a5⟩:=c.hκ b t sz' hk;rw[<-h.2,<-h.1]
    exact⟨a1,a2,arr,T,a3,a4,by cases t with
     |tok=>trivial
     |home _ p=>cases p <;> exact a5⟩
  ·have own:∀k o,s.obj k=some o->((Γ.FT s f g).ι (Bc f k)=none/\(o.ren (Bc f)).Jf)\/Own (Γ.FT s f g) w (Bc f k) (o.ren (Bc f)):=fun k o ho=>
    (c.obj k o ho).imp (fun h=>⟨z7u k (by rw[ho];simp) h.1,O.Yl h.2⟩) fun yw=>Own.ren (pr _) (fun hd b τ hb=>by
     obtain⟨e1,e2,_⟩:=c.ES hb ho hd;exact⟨rfl,e1,e2⟩) (Nat.le_refl _) yw
   unfold jj Bt at h;cases hl:AR (s.ren f g).loc k' with
   |some o1=>
    rw[hl]at h;cases h;obtain⟨k,o,h1,h2,rfl⟩:=eK hl;rw[<-h1];exact own k o (Wz h2)
   |none=>
    rw[hl]at h;cases k' with
    |l m=>cases h
    |g k=>
     have h':s.A k=some o':=h;have h0:AR s.loc (.g k)=none:=by
      have:=SC (f:=f) (l:=s.loc) (k:=k);rw[show AR (s.loc.map _) (.g k)=none from hl]at this;cases hx:AR s.loc (.g k)with
      |none=>rfl
      |some y=>rw[hx]at this;cases this
     have:=own (.g k) o' (by simp[jj,Bt,h0,h']);rw[O.UE (hA k o' h')]at this;exact this
  ·obtain⟨x,hx⟩:=rm.1 h;obtain⟨k,rfl,h1⟩:=back k' x hx;exact z7c k x h1
  ·obtain⟨k0,rfl,h3⟩:=back k _ h1;obtain⟨k1,rfl,h4⟩:=back k' _ h2;exact(c.inj _ _ _ _ _ h3 h4).imp (fun e=>by rw[e]) (And.imp (Or.imp (ze _ _ h3) (ze _ _ h4)) id)
  ·unfold uu Du at h;cases hl:look (s.ren f g).tk u with
   |none=>simp[hl]at h
   |some x=>
    cases x with
    |none=>simp[hl]at h
    |some M=>
     simp[hl]at h;subst h;obtain⟨t,rfl,h2,h3⟩:=zD hl;obtain⟨x,a1,a2⟩:=c.tok t M (by simp[uu,Du,h2]);refine⟨x,τk t _ a1,fun b pos sz hx=>?_⟩;obtain⟨a3,a4⟩:=a2 b pos sz hx;exact⟨a3,by simp[G.FT,a4,Tip.ren]⟩
  ·obtain⟨x,hx⟩:=rm.1 h;simp only[G.FT]at hx;split at hx
   ·rename_i t hfd;have e:g t=u:=by simpa using rr hfd
    rw[<-e];exact wX (sn hfd)
   ·cases hx
 ·rw[q6w];exact AG.ren (pr none) τk (hs i)
def dk (ds:List C) (i:Nat):C:=ds.getD i .nil
abbrev Es:=List (C × C)
def dm (ms:List Es) (i:Nat):Es:=ms.getD i []
inductive Cap where
 |c (τ:Ty)|v (x:V)
 deriving Inhabited
def JF:List Cap->Nat
 | []=>0
 | .c _::l=>JF l+1
 | .v _::l=>JF l
def Fx:List Cap->Nat->List C->List V
 | [],_,_=>[]
 | .c τ::l,i,ds=>.yn τ (dk ds i)::Fx l (i+1) ds
 | .v x::l,i,ds=>x::Fx l i ds
inductive Sh where
 |d (τ:Ty)|sl (eb:Nat) (e:Ty) (t:Nat)|ts (eb:Nat) (e:Ty)
 |sr (k:Key) (q:List Nat) (cp:Bool) (eb:Nat) (e:Ty)
 |yn (τ:Ty)|arr (e:Ty)|agg (τ:Ty) (l:List Sh)|as (v:V)
 |vec (k:Key) (eb:Nat) (e:Ty)|fnc (f:FuncId) (l:List Cap)
 deriving Inhabited
inductive OSh where
 |box (x:Sh)|map (kτ vτ:Ty)|dead (e:Ty)|it
 deriving Inhabited
structure SSh where
 env:List (Nat × Sh)
 loc:List (Key × OSh)
mutual
def Sh.many:Sh->Nat
 | .sr _ _ cp _ _=>bif cp then 3 else 2
 | .agg _ l=>Sh.HN l
 | .as _=>0
 | .fnc _ l=>JF l
 |_=>1
def Sh.HN:List Sh->Nat
 | []=>0
 |s::l=>s.many+Sh.HN l
end
mutual
def Sh.fill:Sh->Nat->List C->V
 | .d τ,i,ds=>.d τ (dk ds i)
 | .sl eb e t,i,ds=>.sl eb e (dk ds i).elems t
 | .ts eb e,i,ds=>.ts eb e (dk ds i).elems
 | .sr k q cp eb e,i,ds=>.sr k q (dk ds i).toInt.toNat (dk ds (i+1)).toInt.toNat (bif cp then some (dk ds (i+2)).toInt.toNat else none) eb e
 | .yn τ,i,ds=>.yn τ (dk ds i)
 | .arr e,i,ds=>.d (.arr (dk ds i).elems.length e) (dk ds i)
 | .agg τ l,i,ds=>.agg τ (Sh.Dq l i ds)
 | .as v,_,_=>v
 | .vec k eb e,i,ds=>.sr k [] 0 (dk ds i).toInt.toNat none eb e
 | .fnc f l,i,ds=>.fn f (Fx l i ds)
def Sh.Dq:List Sh->Nat->List C->List V
 | [],_,_=>[]
 |s::l,i,ds=>s.fill i ds::Sh.Dq l (i+s.many) ds
end
mutual
def V.same:V->V->Bool
 | .emp a e,.emp b f=>decide (a=b)&&wj e f
 | .ym,.ym=>true
 | .ptr k q τ,.ptr k' q' τ'=>decide (k=k')&&decide (q=q')&&wj τ τ'
 | .mp k,.mp k'=>decide (k=k')
 | .any,.any=>true
 | .top τ,.top τ'=>wj τ τ'
 | .fn f l,.fn f' l'=>decide (f=f')&&V.Mx l l'
 | .tup l,.tup l'=>V.Mx l l'
 | .d τ c,.d τ' c'=>wj τ τ'&&C.beq c c'
 |_,_=>false
def V.Mx:List V->List V->Bool
 | [],[]=>true
 |x::xs,y::ys=>V.same x y&&V.Mx xs ys
 |_,_=>false
end
mutual
def V.YP:∀(x y:V),V.same x y=true->x=y
 | .emp a e,y,h=>by cases y <;> simp only[V.same,bg,decide_eq_true_eq,rf,reduceCtorEq]at h;obtain⟨rfl,rfl⟩:=h;rfl
 | .ym,y,h=>by cases y <;> simp only[V.same,reduceCtorEq]at h;rfl
 | .ptr k q τ,y,h=>by cases y <;> simp only[V.same,bg,decide_eq_true_eq,rf,reduceCtorEq]at h;obtain⟨⟨rfl,rfl⟩,rfl⟩:=h;rfl
 | .mp k,y,h=>by cases y <;> simp only[V.same,decide_eq_true_eq,reduceCtorEq]at h;subst h;rfl
 | .any,y,h=>by cases y <;> simp only[V.same,reduceCtorEq]at h;rfl
 | .top τ,y,h=>by cases y <;> simp only[V.same,rf,reduceCtorEq]at h;subst h;rfl
 | .fn f l,y,h=>by
  cases y <;> simp only[V.same,bg,decide_eq_true_eq,reduceCtorEq]at h;obtain⟨rfl,h⟩:=h;rw[V.lZ l _ h]
 | .tup l,y,h=>by
  cases y <;> simp only[V.same,reduceCtorEq]at h;rw[V.lZ l _ h]
 | .d τ c,y,h=>by cases y <;> simp only[V.same,bg,rf,C.beq_iff,reduceCtorEq]at h;obtain⟨rfl,rfl⟩:=h;rfl
 | .sl _ _ _ _,y,h=>by cases y <;> simp[V.same]at h
 | .ts _ _ _,y,h=>by cases y <;> simp[V.same]at h
 | .yn _ _,y,h=>by cases y <;> simp[V.same]at h
 | .sr _ _ _ _ _ _ _,y,h=>by cases y <;> simp[V.same]at h
 | .agg _ _,y,h=>by cases y <;> simp[V.same]at h
def V.lZ:∀(xs ys:List V),V.Mx xs ys=true->xs=ys
 | [],ys,h=>by cases ys <;> simp[V.Mx]at h;rfl
 |x::xs,ys,h=>by
  cases ys with
  |nil=>simp[V.Mx]at h
  |cons y ys=>
   simp only[V.Mx,bg]at h;rw[V.YP x y h.1,V.lZ xs ys h.2]
end
def Zx {R:Type} (τ:Ty) (x:V) (K:List C->Option R):Option R:=
 match x with
 | .ym=>(match τ with
  | .slice _ _=>K [.slice []]
  |_=>none)
 |x=>(match Bl x with
  |some c=>if x.ty=τ then K [c]else none
  |none=>none)
def IW {R:Type}:List Cap->List V->(List C->Option R)->Option R
 | [],[],K=>K []
 | .c τ::l,x::xs,K=>(match x with
  | .yn τ' c=>if τ'=τ then IW l xs fun ds=>K (c::ds)else none
  |_=>none)
 | .v y::l,x::xs,K=>if V.same x y=true then IW l xs K else none
 |_,_,_=>none
def VP:∀(l:List Cap) (i i':Nat) (ds ds':List C),(∀j,j<JF l->dk ds (i+j)=dk ds' (i'+j))->Fx l i ds=Fx l i' ds'
 | [],_,_,_,_,_=>by simp only[Fx]
 | .c τ::l,i,i',ds,ds',h=>by
  simp only[Fx,JF]at h ⊢;have h0:=h 0 (by omega);simp only[iv]at h0
  rw[h0,VP l (i+1) (i'+1) ds ds' fun j hj=>by
   have:=h (1+j) (by omega)
   rwa [<-ga,<-ga]at this]
 | .v x::l,i,i',ds,ds',h=>by
  simp only[Fx,JF]at h ⊢;rw[VP l i i' ds ds' h]
def VO {R:Type} {r}:∀(l:List Cap) (xs:List V) {K:List C->Option R},IW l xs K=some r->∃ds,K ds=some r/\ds.length=JF l/\Fx l 0 ds=xs
 | [],[],K,h=>⟨[],by simpa only[IW]using h,by simp[JF],by simp[Fx]⟩
 | [],_::_,K,h=>by simp[IW]at h
 | .c _::_,[],K,h=>by simp[IW]at h
 | .v _::_,[],K,h=>by simp[IW]at h
 | .c τ::l,x::xs,K,h=>by
  simp only[IW]at h;split at h
  ·simp only[ax]at h;obtain⟨rfl,h⟩:=h;obtain⟨ds,h1,h2,h3⟩:=VO l xs h;refine⟨_,h1,by simp[JF,h2],?_⟩;rename_i c;simp only[Fx,cq];rw[VP l 1 0 (c::ds) ds fun j _=>by unfold dk;simp[qw 1 j],h3];rfl
  ·cases h
 | .v y::l,x::xs,K,h=>by
  simp only[IW,ax]at h;obtain⟨h0,h⟩:=h;have:=V.YP _ _ h0;subst this;obtain⟨ds,h1,h2,h3⟩:=VO l xs h;exact⟨ds,h1,by simp only[JF];exact h2,by simp only[Fx];rw[h3]⟩
mutual
def Sh.coe {R:Type}:Sh->V->(List C->Option R)->Option R
 | .d τ,x,K=>Zx τ x K
 | .sl eb e t,x,K=>(match x with
  | .sl eb' e' cs t'=>if eb'=eb/\e'=e/\t'=t then K [.slice cs]else none
  |_=>none)
 | .ts eb e,x,K=>(match x with
  | .ts eb' e' cs=>if eb'=eb/\e'=e then K [.slice cs]else none
  |_=>none)
 | .sr k q cp eb e,x,K=>(match x with
  | .sr k' q' lo n cp' eb' e'=>if k'=k/\q'=q/\eb'=eb/\e'=e then(match cp,cp' with
   |false,none=>K [.int lo,.int n]
   |true,some c=>K [.int lo,.int n,.int c]
   |_,_=>none)else none
  |_=>none)
 | .yn τ,x,K=>(match x with
  | .yn τ' c=>if τ'=τ then K [c]else none
  |_=>none)
 | .arr e,x,K=>(match x with
  | .d (.arr n e') c=>if e'=e then(if n=c.elems.length then K [c]else none)else none
  |_=>none)
 | .agg τ l,x,K=>(match x with
  | .agg τ' vs=>if τ'=τ then Sh.Nq l vs K else none
  |_=>none)
 | .as v,x,K=>if V.same x v=true then K []else none
 | .vec k eb e,x,K=>(match x with
  | .sr k' q' lo n cp' eb' e'=>if k'=k/\q'=[]/\lo=0/\cp'.isNone=true/\eb'=eb/\e'=e then K [.int n]else none
  |_=>none)
 | .fnc f l,x,K=>(match x with
  | .fn f' vs=>if f'=f then IW l vs K else none
  |_=>none)
def Sh.Nq {R:Type}:List Sh->List V->(List C->Option R)->Option R
 | [],[],K=>K []
 |s::l,x::xs,K=>if(match x with| .ym=>true|_=>false)=false then s.coe x fun d1=>Sh.Nq l xs fun d2=>K (d1++d2)else none
 |_,_,_=>none
end
def Jl {a b:List C} {j:Nat} (h:j<a.length):dk (a++b) j=dk a j:=by unfold dk;rw[bn,bn,List.getElem?_append_left h]
def MH {a b:List C} {j:Nat} (h:a.length<=j):dk (a++b) j=dk b (j-a.length):=by unfold dk;rw[bn,bn,List.getElem?_append_right h]
mutual
def Sh.Kh:∀(s:Sh) (i i':Nat) (ds ds':List C),(∀j,j<s.many->dk ds (i+j)=dk ds' (i'+j))->s.fill i ds=s.fill i' ds'
 | .d τ,i,i',ds,ds',h=>by simp only[Sh.fill];have:=h 0 (by simp[Sh.many]);simp only[iv]at this;rw[this]
 | .sl eb e t,i,i',ds,ds',h=>by simp only[Sh.fill];have:=h 0 (by simp[Sh.many]);simp only[iv]at this;rw[this]
 | .ts eb e,i,i',ds,ds',h=>by simp only[Sh.fill];have:=h 0 (by simp[Sh.many]);simp only[iv]at this;rw[this]
 | .sr k q cp eb e,i,i',ds,ds',h=>by
  simp only[Sh.fill];have h0:=h 0 (by cases cp <;> simp[Sh.many]);have h1:=h 1 (by cases cp <;> simp[Sh.many]);simp only[iv]at h0;rw[h0,h1];cases cp with
  |false=>rfl
  |true=>rw[h 2 (by simp[Sh.many])]
 | .yn τ,i,i',ds,ds',h=>by simp only[Sh.fill];have:=h 0 (by simp[Sh.many]);simp only[iv]at this;rw[this]
 | .arr e,i,i',ds,ds',h=>by simp only[Sh.fill];have:=h 0 (by simp[Sh.many]);simp only[iv]at this;rw[this]
 | .agg τ l,i,i',ds,ds',h=>by simp only[Sh.fill];rw[Sh.RO l i i' ds ds' (by simpa only[Sh.many]using h)]
 | .as v,_,_,_,_,_=>by simp only[Sh.fill]
 | .vec k eb e,i,i',ds,ds',h=>by simp only[Sh.fill];have:=h 0 (by simp[Sh.many]);simp only[iv]at this;rw[this]
 | .fnc f l,i,i',ds,ds',h=>by simp only[Sh.fill];rw[VP l i i' ds ds' (by simpa only[Sh.many]using h)]
def Sh.RO:∀(l:List Sh) (i i':Nat) (ds ds':List C),(∀j,j<Sh.HN l->dk ds (i+j)=dk ds' (i'+j))->Sh.Dq l i ds=Sh.Dq l i' ds'
 | [],_,_,_,_,_=>by simp only[Sh.Dq]
 |s::l,i,i',ds,ds',h=>by
  simp only[Sh.Dq];simp only[Sh.HN]at h
  rw[Sh.Kh s i i' ds ds' (fun j hj=>h j (by omega)),Sh.RO l (i+s.many) (i'+s.many) ds ds' (fun j hj=>by
   have:=h (s.many+j) (by omega)
   rwa [<-ga,<-ga]at this)]
end
def q4p {R:Type} {r:R} {τ:Ty} {x:V} {K:List C->Option R} (h:Zx τ x K=some r):∃c,K [c]=some r/\V.BA x (.d τ c)/\(x≠.ym->(V.d τ c).ty=x.ty):=by
 cases x <;> simp only[Zx]at h
 case ym=>
  split at h
  ·exact⟨_,h,by simp[V.BA],fun h=>absurd rfl h⟩
  ·cases h
 all_goals
  split at h
  ·rename_i c hc;simp only[ax]at h;obtain⟨h1,h⟩:=h;refine⟨c,h,?_,fun _=>h1.symm⟩;simp only[V.BA];exact⟨hc,h1⟩
  ·cases h
mutual
def Sh.Zy {R:Type} {r:R}:∀(s:Sh) (x:V) {K:List C->Option R},s.coe x K=some r->∃ds,K ds=some r/\ds.length=s.many/\V.BA x (s.fill 0 ds)/\(x≠.ym->(s.fill 0 ds).ty=x.ty)
 | .d τ,x,K,h=>by
  simp only[Sh.coe]at h;obtain⟨c,h1,h2,h3⟩:=q4p h;exact⟨[c],h1,by simp[Sh.many],by simp only[Sh.fill];exact h2,by simp only[Sh.fill];exact h3⟩
 | .sl eb e t,x,K,h=>by
  cases x <;> simp only[Sh.coe,reduceCtorEq,ax]at h;obtain⟨⟨rfl,rfl,rfl⟩,h⟩:=h;exact⟨_,h,by simp[Sh.many],by simp[Sh.fill,dk,C.elems,V.BA],fun _=>rfl⟩
 | .ts eb e,x,K,h=>by
  cases x <;> simp only[Sh.coe,reduceCtorEq,ax]at h;obtain⟨⟨rfl,rfl⟩,h⟩:=h;exact⟨_,h,by simp[Sh.many],by simp[Sh.fill,dk,C.elems,V.BA],fun _=>rfl⟩
 | .sr k q cp eb e,x,K,h=>by
  cases x <;> simp only[Sh.coe,reduceCtorEq,ax]at h;obtain⟨⟨rfl,rfl,rfl,rfl⟩,h⟩:=h;split at h
  ·exact⟨_,h,by simp[Sh.many],by simp[Sh.fill,dk,ao,V.BA],fun _=>rfl⟩
  ·exact⟨_,h,by simp[Sh.many],by simp[Sh.fill,dk,ao,V.BA],fun _=>rfl⟩
  ·cases h
 | .yn τ,x,K,h=>by
  cases x <;> simp only[Sh.coe,reduceCtorEq,ax]at h;obtain⟨rfl,h⟩:=h;exact⟨_,h,by simp[Sh.many],by simp[Sh.fill,dk,V.BA],fun _=>rfl⟩
 | .arr e,x,K,h=>by
  simp only[Sh.coe]at h;split at h
  ·simp only[ax]at h;obtain⟨rfl,h1,h⟩:=h;subst h1;exact⟨_,h,by simp[Sh.many],by simp[Sh.fill,dk,V.BA,Bl,V.ty],fun _=>rfl⟩
  ·cases h
 | .agg τ l,x,K,h=>by
  cases x <;> simp only[Sh.coe,reduceCtorEq,ax]at h;obtain⟨rfl,h⟩:=h;obtain⟨ds,h1,h2,h3⟩:=Sh.rA l _ h;exact⟨ds,h1,by simpa only[Sh.many]using h2,by simp only[Sh.fill,V.BA];exact⟨trivial,h3⟩,fun _=>rfl⟩
 | .as v,x,K,h=>by
  simp only[Sh.coe,ax]at h;obtain⟨h1,h⟩:=h;have:=V.YP _ _ h1;subst this;exact⟨_,h,by simp[Sh.many],by simp only[Sh.fill];exact V.MQ _,fun _=>by simp only[Sh.fill]⟩
 | .vec k eb e,x,K,h=>by
  cases x <;> simp only[Sh.coe,reduceCtorEq,ax]at h;obtain⟨⟨rfl,rfl,rfl,hc,rfl,rfl⟩,h⟩:=h;rename_i cp _ _;cases cp with
  |some c=>cases hc
  |none=>exact⟨_,h,by simp[Sh.many],by simp[Sh.fill,dk,ao,V.BA],fun _=>rfl⟩
 | .fnc f l,x,K,h=>by
  cases x <;> simp only[Sh.coe,reduceCtorEq,ax]at h;obtain⟨rfl,h⟩:=h;obtain⟨ds,h1,h2,h3⟩:=VO l _ h;exact⟨ds,h1,by simpa only[Sh.many]using h2,by simp only[Sh.fill,V.BA,h3],fun _=>rfl⟩
def Sh.rA {R:Type} {r}:∀(l:List Sh) (xs:List V) {K:List C->Option R},Sh.Nq l xs K=some r->∃ds,K ds=some r/\ds.length=Sh.HN l/\V.Fg xs (Sh.Dq l 0 ds)
 | [],xs,K,h=>by
  cases xs <;> simp only[Sh.Nq,reduceCtorEq]at h;exact⟨_,h,by simp[Sh.HN],by simp[Sh.Dq,V.Fg]⟩
 |s::l,[],K,h=>by simp[Sh.Nq]at h
 |s::l,x::xs,K,h=>by
  simp only[Sh.Nq,ax]at h;obtain⟨hn,h⟩:=h;obtain⟨d1,h1,h2,h3,h4⟩:=Sh.Zy s x h;obtain⟨d2,h5,h6,h7⟩:=Sh.rA l xs h1;refine⟨_,h5,by simp[Sh.HN,h2,h6],?_⟩;have e1:s.fill 0 (d1++d2)=s.fill 0 d1:=Sh.Kh s 0 0 _ _ fun j hj=>Jl (by omega);have e2:Sh.Dq l s.many (d1++d2)=Sh.Dq l 0 d2:=Sh.RO l _ 0 _ _ fun j hj=>by
   rw[MH (by omega),h2];congr 1;omega
  simp only[Sh.Dq,V.Fg,cq,e1,e2];exact⟨h3,h4 (by intro e;subst e;simp at hn),h7⟩
end
def JM:List (Nat × Sh)->Nat
 | []=>0
 |(_,s)::l=>s.many+JM l
def GB:List (Nat × Sh)->Nat->List C->List (Nat × V)
 | [],_,_=>[]
 |(j,s)::l,i,ds=>(j,s.fill i ds)::GB l (i+s.many) ds
def GC:List (Nat × Sh)->Nat->List C->List (Nat × Option Nat)
 | [],_,_=>[]
 |(_,s)::l,i,ds=>(match s with
  | .sl _ _ t=>(t,some (dk ds i).elems.length)::GC l (i+s.many) ds
  |_=>GC l (i+s.many) ds)
def FC:List (Key × OSh)->Nat
 | []=>0
 |(_,.box s)::l=>s.many+FC l
 |(_,.map _ _)::l=>FC l
 |(_,.dead _)::l=>1+FC l
 |(_,.it)::l=>2+FC l
def dE (τ:Ty) (l:Es):List (C × V):=l.map fun p=>(p.1,.d τ p.2)
def isD (τ:Ty):V->Bool
 | .d τ' _=>decide (τ'=τ)
 |_=>false
def unV:V->C
 | .d _ c=>c
 |_=>.nil
def BV (τ:Ty):List (C × V)->Bool
 | []=>true
 |(_,v)::es=>isD τ v&&BV τ es
def unE (es:List (C × V)):Es:=es.map fun p=>(p.1,unV p.2)
def aF {τ}:∀{es:List (C × V)},BV τ es=true->dE τ (unE es)=es
 | [],_=>rfl
 |(k,v)::es,h=>by
  simp only[BV,bg]at h;have:=aF h.2;simp only[dE,unE,ed,pe]at this ⊢;rw[this];cases v <;> simp only[isD,reduceCtorEq,decide_eq_true_eq]at h <;> first|exact h.1.elim|(rw[h.1];rfl)
def DN (τ:Ty):∀(l:Es),BV τ (dE τ l)=true
 | []=>rfl
 |(k,v)::l=>by
  have:=DN τ l;simp only[dE,ed,BV,isD,decide_true,qq]at this ⊢;exact this
def EF (τ:Ty) (l:Es):unE (dE τ l)=l:=by
 induction l with
 |nil=>rfl
 |cons p l ih=>simp only[dE,unE,ed,unV]at ih ⊢;rw[ih]
def oS (τ:Ty):∀m:Es,DM τ (dE τ m)=true
 | []=>rfl
 |_::m=>by
  have:=oS τ m;have h:wj τ τ=true:=(rf τ τ).2 rfl;simp only[dE,ed,DM,h,qq]at this ⊢;exact this
def BS:List (Key × OSh)->Nat->Nat->List C->List Es->List (Key × O)
 | [],_,_,_,_=>[]
 |(k,.box s)::l,i,j,ds,ms=>(k,.box (s.fill i ds))::BS l (i+s.many) j ds ms
 |(k,.map kτ vτ)::l,i,j,ds,ms=>(k,.map kτ vτ (dE vτ (dm ms j)))::BS l i (j+1) ds ms
 |(k,.dead e)::l,i,j,ds,ms=>(k,.dead (.arr (dk ds i).toInt.toNat e))::BS l (i+1) j ds ms
 |(k,.it)::l,i,j,ds,ms=>(k,.it (dk ds i).toStr (dk ds (i+1)).toInt.toNat)::BS l (i+2) j ds ms
def Jo (sh:SSh) (A:Key->Option O) (ds:List C) (ms:List Es):S:=
 ⟨GB sh.env 0 ds,BS sh.loc (JM sh.env) 0 ds ms,A,GC sh.env 0 ds⟩
def nB (s:S) (sh:Sh) (d:List C):Bool:=
 match sh with
 | .sl _ _ t=>(match Du s.tk t with
  |some L=>bo L (dk d 0).elems.length
  |none=>false)
 |_=>true
def Vj {R:Type} (s:S):List (Nat × Sh)->(List C->Option R)->Option R
 | [],K=>K []
 |(j,sh)::l,K=>sh.coe (s.get j) fun d1=>if(sh.fill 0 d1).ty.isAgg=(s.get j).ty.isAgg then(bif nB s sh d1 then Vj s l fun d2=>K (d1++d2)else none)else none
def wL:V->Bool
 | .ym=>true
 |_=>false
def JU {R:Type} (s:S):List (Key × OSh)->(List C->List Es->Option R)->Option R
 | [],K=>K [] []
 |(k,.box sh)::l,K=>(match s.obj k with
  |some (.box x)=>if wL x=false then sh.coe x fun d1=>if(sh.fill 0 d1).plain=true/\(sh.fill 0 d1).Aw=true then JU s l fun d2 m2=>K (d1++d2) m2 else none else none
  |_=>none)
 |(k,.map kτ vτ)::l,K=>(match s.obj k with
  |some (.map kτ' vτ' es)=>if kτ'=kτ/\vτ'=vτ then(if BV vτ es=true then JU s l fun d2 m2=>K d2 (unE es::m2)else none)else none
  |_=>none)
 |(k,.dead e)::l,K=>(match s.obj k with
  |some o=>(match o.ty with
   | .arr M e'=>if e'=e then JU s l fun d2 m2=>K (.int M::d2) m2 else none
   |_=>none)
  |_=>none)
 |(k,.it)::l,K=>(match s.obj k with
  |some (.it x p)=>JU s l fun d2 m2=>K (.str x:: .int p::d2) m2
  |_=>none)
def Nm (f g:Nat->Bool):List Cap->Bool
 | []=>true
 | .c _::l=>Nm f g l
 | .v x::l=>x.ok f g&&Nm f g l
def Ze {f g}:∀(l:List Cap) (i:Nat) (ds:List C),Nm f g l=true->ry f g (Fx l i ds)=true
 | [],_,_,_=>rfl
 | .c _::l,i,ds,h=>by
  simp only[Nm]at h;simp only[Fx,ry,ve,qq];exact Ze l _ _ h
 | .v x::l,i,ds,h=>by
  simp only[Nm,bg]at h;simp only[Fx,ry,bg];exact⟨h.1,Ze l _ _ h.2⟩
mutual
def Sh.okB (f g:Nat->Bool):Sh->Bool
 | .sl _ _ t=>g t
 | .sr (.l k) _ _ _ _=>f k
 | .vec (.l k) _ _=>f k
 | .agg _ l=>Sh.XF f g l
 | .as v=>v.ok f g
 | .fnc _ l=>Nm f g l
 |_=>true
def Sh.XF (f g:Nat->Bool):List Sh->Bool
 | []=>true
 |s::l=>s.okB f g&&Sh.XF f g l
end
mutual
def Sh.OU {f g}:∀(s:Sh) (i:Nat) (ds:List C),s.okB f g=true->(s.fill i ds).ok f g=true
 | .sl _ _ t,_,_,h=>by simpa only[Sh.fill,ve,Sh.okB]using h
 | .sr (.l k) _ _ _ _,_,_,h=>by simpa only[Sh.fill,ve,Sh.okB]using h
 | .sr (.g k) _ _ _ _,_,_,h=>by simp only[Sh.fill,ve]
 | .vec (.l k) _ _,_,_,h=>by simpa only[Sh.fill,ve,Sh.okB]using h
 | .vec (.g k) _ _,_,_,h=>by simp only[Sh.fill,ve]
 | .agg _ l,_,_,h=>by simp only[Sh.fill,ve,Sh.okB]at h ⊢;exact Sh.uI l _ _ h
 | .as v,_,_,h=>by simpa only[Sh.fill,Sh.okB]using h
 | .fnc _ l,i,ds,h=>by simp only[Sh.fill,ve,Sh.okB]at h ⊢;exact Ze l i ds h
 | .d _,_,_,_| .ts _ _,_,_,_| .yn _,_,_,_| .arr _,_,_,_=>by simp only[Sh.fill,ve]
def Sh.uI {f g}:∀(l:List Sh) (i:Nat) (ds:List C),Sh.XF f g l=true->ry f g (Sh.Dq l i ds)=true
 | [],_,_,_=>rfl
 |s::l,i,ds,h=>by
  simp only[Sh.XF,bg]at h;simp only[Sh.Dq,ry,bg];exact⟨Sh.OU s _ _ h.1,Sh.uI l _ _ h.2⟩
end
def OSh.okB (f g:Nat->Bool):OSh->Bool
 | .box s=>s.okB f g
 | .map _ _=>true
 | .dead _| .it=>true
def Ks:List (Key × OSh)->Key->Bool
 | [],_=>false
 |(j,_)::l,k=>if j=k then true else Ks l k
def WG (l:List (Key × OSh)) (n:Nat):Bool:=Ks l (.l n)
def MN:List (Nat × Sh)->Nat->Bool
 | [],_=>false
 |(_,.sl _ _ t)::l,u=>if t=u then true else MN l u
 |_::l,u=>MN l u
def NZ (L:List (Key × OSh)):List (Key × O)->Bool
 | []=>true
 |(.g k,_)::l=>Ks L (.g k)&&NZ L l
 |(.l _,_)::l=>NZ L l
def Oi (f g:Nat->Bool):List (Key × OSh)->Bool
 | []=>true
 |(_,o)::l=>o.okB f g&&Oi f g l
def Vk (f g:Nat->Bool):List (Nat × Sh)->Bool
 | []=>true
 |(_,s)::l=>s.okB f g&&Vk f g l
def okS (sh:SSh) (loc:List (Key × O)):Bool:=
 Oi (WG sh.loc) (MN sh.env) sh.loc&&NZ sh.loc loc&&Vk (WG sh.loc) (MN sh.env) sh.env
def WK:∀(l:List (Key × OSh)) (i j:Nat) (ds:List C) (ms:List Es) (k:Key),(AR (BS l i j ds ms) k).isSome=Ks l k
 | [],_,_,_,_,_=>rfl
 |(n,.box s)::l,i,j,ds,ms,k=>by
  simp only[BS,AR,Ks];split
  ·rfl
  ·exact WK l _ _ _ _ _
 |(n,.map _ _)::l,i,j,ds,ms,k|(n,.dead _)::l,i,j,ds,ms,k|(n,.it)::l,i,j,ds,ms,k=>by
  simp only[BS,AR,Ks];split
  ·rfl
  ·exact WK l _ _ _ _ _
def q6F (l:List (Key × OSh)) (i j:Nat) (ds:List C) (ms:List Es):Bb (BS l i j ds ms)=WG l:=by funext n;exact WK l i j ds ms (.l n)
def vU:∀(l:List (Nat × Sh)) (i:Nat) (ds:List C),CS (GC l i ds)=MN l
 | [],_,_=>rfl
 |(_,s)::l,i,ds=>by
  have ih:=vU l (i+s.many) ds;funext u;have ih:=congrFun ih u;unfold CS at ih ⊢;cases s <;> simp only[GC,MN,look] <;> (try exact ih);split
  ·rfl
  ·exact ih
def Wg {f g}:∀(l:List (Key × OSh)) (i j:Nat) (ds:List C) (ms:List Es),Oi f g l=true->FD f g (BS l i j ds ms)=true
 | [],_,_,_,_,_=>rfl
 |(n,.box s)::l,i,j,ds,ms,h=>by
  simp only[Oi,bg]at h;simp only[BS,FD,bg,O.okB,O.ok];exact⟨Sh.OU s _ _ h.1,Wg l _ _ _ _ h.2⟩
 |(n,.map _ vτ)::l,i,j,ds,ms,h=>by
  simp only[Oi,bg]at h;simp only[BS,FD,bg,O.okB,O.ok];exact⟨by rw[oS vτ _,Bool.or_true],Wg l _ _ _ _ h.2⟩
 |(n,.dead _)::l,i,j,ds,ms,h|(n,.it)::l,i,j,ds,ms,h=>by
  simp only[Oi,bg]at h;simp only[BS,FD,bg,O.okB,O.ok];exact⟨trivial,Wg l _ _ _ _ h.2⟩
def tG {f g}:∀(l:List (Nat × Sh)) (i:Nat) (ds:List C),Vk f g l=true->JC f g (GB l i ds)=true
 | [],_,_,_=>rfl
 |(n,s)::l,i,ds,h=>by
  simp only[Vk,bg]at h;simp only[GB,JC,bg];exact⟨Sh.OU s _ _ h.1,tG l _ _ h.2⟩
def ZG {L} {i j:Nat} {ds ms}:∀{l:List (Key × O)},NZ L l=true->IV (BS L i j ds ms) l=true
 | [],_=>rfl
 |(.g k,_)::l,h=>by
  simp only[NZ,bg]at h;simp only[IV,bg,WK];exact⟨h.1,ZG h.2⟩
 |(.l _,_)::l,h=>by
  simp only[NZ]at h;simp only[IV];exact ZG h
def VX {R:Type} (sh:SSh) (s:S) (K:List C->List Es->Option R):Option R:=
 Vj s sh.env fun d1=>JU s sh.loc fun d2 ms=>if okS sh s.loc=true then K (d1++d2) ms else none
def bG:∀(l:List (Nat × Sh)) (i i':Nat) (ds ds':List C),(∀j,j<JM l->dk ds (i+j)=dk ds' (i'+j))->GB l i ds=GB l i' ds'
 | [],_,_,_,_,_=>rfl
 |(n,s)::l,i,i',ds,ds',h=>by
  simp only[JM]at h;simp only[GB]
  rw[Sh.Kh s i i' ds ds' (fun j hj=>h j (by omega)),bG l (i+s.many) (i'+s.many) ds ds' (fun j hj=>by
   have:=h (s.many+j) (by omega)
   rwa [<-ga,<-ga]at this)]
def bH:∀(l:List (Nat × Sh)) (i i':Nat) (ds ds':List C),(∀j,j<JM l->dk ds (i+j)=dk ds' (i'+j))->GC l i ds=GC l i' ds'
 | [],_,_,_,_,_=>rfl
 |(n,s)::l,i,i',ds,ds',h=>by
  simp only[JM]at h;simp only[GC]
  have e:=bH l (i+s.many) (i'+s.many) ds ds' (fun j hj=>by
   have:=h (s.many+j) (by omega)
   rwa [<-ga,<-ga]at this)
  cases s <;> simp only at e ⊢ <;> (try exact e);have h0:=h 0 (by simp only[Sh.many];omega);simp only[iv]at h0;rw[e,h0]
def JV:∀(l:List (Key × OSh)) (i i' m:Nat) (ds ds':List C) (ms:List Es),(∀j,j<FC l->dk ds (i+j)=dk ds' (i'+j))->BS l i m ds ms=BS l i' m ds' ms
 | [],_,_,_,_,_,_,_=>rfl
 |(n,.box s)::l,i,i',m,ds,ds',ms,h=>by
  simp only[FC]at h;simp only[BS]
  rw[Sh.Kh s i i' ds ds' (fun j hj=>h j (by omega)),JV l (i+s.many) (i'+s.many) m ds ds' ms (fun j hj=>by
   have:=h (s.many+j) (by omega)
   rwa [<-ga,<-ga]at this)]
 |(n,.map _ _)::l,i,i',m,ds,ds',ms,h=>by
  simp only[FC]at h;simp only[BS];rw[JV l i i' (m+1) ds ds' ms h]
 |(n,.dead e)::l,i,i',m,ds,ds',ms,h=>by
  simp only[FC]at h;simp only[BS];have h0:=h 0 (by omega);simp only[iv]at h0
  rw[h0,JV l (i+1) (i'+1) m ds ds' ms (fun j hj=>by
   have:=h (1+j) (by omega)
   rwa [<-ga,<-ga]at this)]
 |(n,.it)::l,i,i',m,ds,ds',ms,h=>by
  simp only[FC]at h;simp only[BS];have h0:=h 0 (by omega);have h1:=h 1 (by omega);simp only[iv]at h0
  rw[h0,h1,JV l (i+2) (i'+2) m ds ds' ms (fun j hj=>by
   have:=h (2+j) (by omega)
   rwa [<-ga,<-ga]at this)]
def SB:∀(l:List (Key × OSh)) (i m:Nat) (ds:List C) (e:Es) (ms:List Es),BS l i (m+1) ds (e::ms)=BS l i m ds ms
 | [],_,_,_,_,_=>rfl
 |(n,.box s)::l,i,m,ds,e,ms=>by simp only[BS];rw[SB l]
 |(n,.map _ _)::l,i,m,ds,e,ms=>by simp only[BS];rw[SB l];rfl
 |(n,.dead _)::l,i,m,ds,e,ms|(n,.it)::l,i,m,ds,e,ms=>by simp only[BS];rw[SB l]
def tC {R:Type} {r s}:∀(l:List (Nat × Sh)) {K:List C->Option R},Vj s l K=some r->
  ∃ds,K ds=some r/\ds.length=JM l/\(∀f g,JC f g (GB l 0 ds)=true->Hk f g s (GB l 0 ds))/\tkW s (GC l 0 ds)
 | [],K,h=>⟨[],h,rfl,fun _ _ _=>trivial,trivial⟩
 |(n,sh)::l,K,h=>by
  simp only[Vj]at h;obtain⟨d1,h1,h2,h3,h4⟩:=Sh.Zy sh _ h;simp only[ax]at h1;obtain⟨h5,h1⟩:=h1;cases htk:nB s sh d1 with
  |false=>rw[htk]at h1;cases h1
  |true=>
   rw[htk,cond_true]at h1;obtain⟨d2,h6,h7,h8,h9⟩:=tC l h1;have e1:sh.fill 0 (d1++d2)=sh.fill 0 d1:=Sh.Kh sh 0 0 _ _ fun j hj=>Jl (by omega);have sft:∀j,dk (d1++d2) (sh.many+j)=dk d2 (0+j):=fun j=>by
    rw[MH (by omega),h2];congr 1;omega
   have e2:GB l sh.many (d1++d2)=GB l 0 d2:=bG l _ 0 _ _ fun j hj=>sft j;have e3:GC l sh.many (d1++d2)=GC l 0 d2:=bH l _ 0 _ _ fun j hj=>sft j;refine⟨_,h6,by simp[JM,h2,h7],fun f g hok=>?_,?_⟩
   ·simp only[GB,cq,e1,e2,JC,bg]at hok ⊢;exact⟨h3,hok.1,.inr h5,h8 f g hok.2⟩
   ·simp only[GC,cq];cases sh <;> simp only[e3] <;> (try exact h9);simp only[nB]at htk;simp only[Sh.many]at h2;rw[Jl (by omega)];refine⟨?_,h9⟩;split at htk
    ·rename_i L hL;have:=fk htk;show s.live _=some _;rw[<-this];exact hL
    ·cases htk
def q15 {s:S} {A'}:∀{l:List (Nat × Option Nat)},tkW s l->tkW (s.wA A') l
 | [],_=>trivial
 |(_,_)::_,h=>⟨h.1,q15 h.2⟩
def tJ {f g} {s:S} {A'}:∀{l:List (Nat × V)},Hk f g s l->Hk f g (s.wA A') l
 | [],_=>trivial
 |(_,_)::_,h=>⟨h.1,h.2.1,h.2.2.1,tJ h.2.2.2⟩
def q4r {R:Type} {r:R} {sh:SSh} {s:S} {K:List C->List Es->Option R} (h:VX sh s K=some r):
  ∃ds ms,K ds ms=some r/\∀(X:Cx) (n:Nat) (A':Key->Option O),leA s.A A'->DL X n (s.wA A') ((Jo sh s.A ds ms).wA A'):=by
 unfold VX at h;obtain⟨d1,h1,h2,h3,h4⟩:=tC _ h;have det:∃d2 ms,K (d1++d2) ms=some r/\okS sh s.loc=true/\d2.length=FC sh.loc/\∀A',leA s.A A'->Fj (s.wA A') (BS sh.loc 0 0 d2 ms):=by
  -- what is read does not lean on A'
  have gen:∀(l:List (Key × OSh)) {K:List C->List Es->Option R},JU s l K=some r->∃ds ms,K ds ms=some r/\ds.length=FC l/\∀A',leA s.A A'->Fj (s.wA A') (BS l 0 0 ds ms):=by
   intro l
   induction l with
   |nil=>intro K h;exact⟨[],[],h,rfl,fun _ _=>trivial⟩
   |cons p l ih=>
    obtain⟨k,o⟩:=p;intro K h;cases o with
    |box sh=>
     simp only[JU]at h;split at h
     ·rename_i x hx;simp only[ax]at h;obtain⟨h0,h⟩:=h;obtain⟨d1,h1,h2,h3,h4⟩:=Sh.Zy sh _ h;simp only[ax]at h1;obtain⟨h5,h1⟩:=h1;obtain⟨d2,ms,h6,h7,h8⟩:=ih h1;have e1:sh.fill 0 (d1++d2)=sh.fill 0 d1:=Sh.Kh sh 0 0 _ _ fun j hj=>Jl (by omega);have e2:BS l sh.many 0 (d1++d2) ms=BS l 0 0 d2 ms:=JV l _ 0 0 _ _ _ fun j hj=>by
       rw[MH (by omega),h2];congr 1;omega
      refine⟨_,_,h6,by simp[FC,h2,h7],fun A' hA=>?_⟩;simp only[BS,cq,e1,e2,Fj];rw[Cs hA hx];exact⟨⟨h3,h4 (by intro e;subst e;simp[wL]at h0),h5.1,h5.2⟩,h8 A' hA⟩
     ·cases h
    |map kτ vτ=>
     simp only[JU]at h;split at h
     ·rename_i kτ' vτ' es hx;simp only[ax]at h;obtain⟨⟨rfl,rfl⟩,hd,h⟩:=h;obtain⟨d2,ms,h6,h7,h8⟩:=ih h;refine⟨_,_,h6,by simp[FC,h7],fun A' hA=>?_⟩;simp only[BS,Fj,SB];rw[Cs hA hx];exact⟨⟨rfl,rfl,(aF hd).symm⟩,h8 A' hA⟩
     ·cases h
    |dead e=>
     simp only[JU]at h;split at h
     ·rename_i o hx;split at h
      ·rename_i M e' ht;simp only[ax]at h;obtain⟨rfl,h⟩:=h;obtain⟨d2,ms,h6,h7,h8⟩:=ih h;have e2:BS l 1 0 (.int M::d2) ms=BS l 0 0 d2 ms:=JV l _ 0 0 _ _ _ fun j hj=>by unfold dk;simp[qw 1 j]
       refine⟨_,_,h6,by simp[FC,h7,qw],fun A' hA=>?_⟩;simp only[BS,cq,e2,Fj];rw[Cs hA hx];refine⟨?_,h8 A' hA⟩;have:(dk (C.int M::d2) 0).toInt.toNat=M:=by simp[dk,ao]
       rw[this];cases o <;> exact ht.symm
      ·cases h
     ·cases h
    |it=>
     simp only[JU]at h;split at h
     ·rename_i x p hx;obtain⟨d2,ms,h6,h7,h8⟩:=ih h;have e2:BS l 2 0 (.str x:: .int p::d2) ms=BS l 0 0 d2 ms:=JV l _ 0 0 _ _ _ fun j hj=>by unfold dk;simp[qw 2 j]
      refine⟨_,_,h6,by simp[FC,h7];omega,fun A' hA=>?_⟩;simp only[BS,cq,e2,Fj];rw[Cs hA hx];refine⟨?_,h8 A' hA⟩;have e3:(dk (C.str x::C.int p::d2) 0).toStr=x:=by simp[dk,C.toStr]
      have e4:(dk (C.str x::C.int p::d2) 1).toInt.toNat=p:=by simp[dk,ao]
      rw[e3,e4];exact⟨rfl,rfl⟩
     ·cases h
  obtain⟨d2,ms,h5,h6,h7⟩:=gen _ h1;simp only[ax]at h5;exact⟨d2,ms,h5.2,h5.1,h6,h7⟩
 obtain⟨d2,ms,h5,h6,h7,h8⟩:=det;refine⟨d1++d2,ms,h5,fun X n A' hA=>?_⟩;have e1:GB sh.env 0 (d1++d2)=GB sh.env 0 d1:=bG _ 0 0 _ _ fun j hj=>Jl (by omega);have e2:GC sh.env 0 (d1++d2)=GC sh.env 0 d1:=bH _ 0 0 _ _ fun j hj=>Jl (by omega);have e3:BS sh.loc (JM sh.env) 0 (d1++d2) ms=BS sh.loc 0 0 d2 ms:=JV _ _ 0 0 _ _ _ fun j hj=>by
  rw[MH (by omega),h2];congr 1;omega
 simp only[okS,bg]at h6;have hL:Bb (Jo sh s.A (d1++d2) ms).loc=WG sh.loc:=q6F ..;have hT:CS (Jo sh s.A (d1++d2) ms).tk=MN sh.env:=vU ..;refine q2D rfl ?_ ?_ (NY (ZG h6.1.2)) ?_ ?_
 ·show Fj (s.wA A') (BS sh.loc (JM sh.env) 0 (d1++d2) ms);rw[e3];exact h8 A' hA
 ·show FD (Bb (Jo sh s.A (d1++d2) ms).loc) (CS (Jo sh s.A (d1++d2) ms).tk) _=true;rw[hL,hT];exact Wg _ _ _ _ _ h6.1.1
 ·show tkW (s.wA A') (GC sh.env 0 (d1++d2));rw[e2];exact q15 h4
 ·show Hk (Bb (Jo sh s.A (d1++d2) ms).loc) (CS (Jo sh s.A (d1++d2) ms).tk) (s.wA A') (GB sh.env 0 (d1++d2));refine tJ ?_;rw[hL,hT,e1];exact h3 _ _ (tG _ _ _ h6.2)
def AO.lM {Γ w} {s:S} (c:AO Γ w s) {k x x'} (h:s.obj k=some (.box x)) (h1:Own Γ w k (.box x)->Own Γ w k (.box x')) (h2:(O.box x).Jf->(O.box x').Jf):AO Γ w (s.put k (.box x')):=by
 refine⟨c.hH,c.hZ,c.hκ,fun j o hj=>?_,fun j hj=>?_,c.Jt (fun j hj=>?_),c.tok,c.zc,c.hgl,c.hoo,c.hσ⟩
 ·rw[DG]at hj;split at hj
  ·rename_i e;subst e;cases hj;exact(c.obj _ _ h).imp (fun h=>⟨h.1,h2 h.2⟩) h1
  ·exact c.obj j o hj
 ·rw[DG];split
  ·simp
  ·exact c.dom j hj
 ·unfold S.BW at hj ⊢;rw[DG];split
  ·rename_i e;subst e;rw[h]at hj;cases hj
  ·exact hj
def mvK (K:Key) (t:Nat) (k:Key):Key:=if k=K then .l t else k
def AtE (X:Cx) (n:Nat) (Γ0:G) (K:Key) (t:Nat) (s:S) (a:Act) (w:World):Prop:=
 ∃Γ,GLe Γ0 Γ/\Γ.gl=X.gl/\AO Γ w s/\Fv Γ s a.tmps/\a.tmps.size=n/\a.defers=[]/\AOk s.A/\∀x,Γ.ι K=some x->Γ.ι (.l t)=some x
def y5 {Γ:G} {K} {t:Nat} (h:∀x,Γ.ι K=some x->Γ.ι (.l t)=some x) {hm} (hn:hm≠some K):GY Γ Γ (mvK K t) hm:=
 ⟨gu _,fun k x hk=>by
  unfold mvK;split
  ·rename_i e;subst e;exact h x hk
  ·exact hk,fun _ _ h=>h,fun k b p sz e hk=>by
  have:mvK K t k=k:=by
   unfold mvK;split
   ·rename_i e2;subst e2;exact absurd e hn
   ·rfl
  rw[this];exact⟨hk,rfl⟩⟩
def AG.mv {Γ:G} {K} {t:Nat} (h:∀x,Γ.ι K=some x->Γ.ι (.l t)=some x) {x:V} {v} (hr:AG Γ x v):AG Γ (x.ren (mvK K t) id) v:=
 AG.ren (y5 h (by simp)) (fun _ _ h=>h) hr
def Hz (K:Key) (t:Nat):List Key->S->S
 | [],s=>s
 |k::ks,s=>if k=K\/k= .l t then Hz K t ks s else(match s.obj k with
  |some (.box x)=>Hz K t ks (s.put k (.box (x.ren (mvK K t) id)))
  |_=>Hz K t ks s)
def YE (K:Key) (t:Nat):∀(ks:List Key) (s:S),(Hz K t ks s).A=s.A
 | [],_=>rfl
 |k::ks,s=>by
  simp only[Hz];split
  ·exact YE K t ks s
  ·split
   ·exact YE K t ks _
   ·exact YE K t ks s
def WkE (K:Key) (t:Nat) (s s':S):Prop:=s'.A=s.A/\∀(X:Cx) (n:Nat) (A':Key->Option O),leA s.A A'->∀(Γ0:G) (a:Act) (w:World),AtE X n Γ0 K t (s.wA A') a w->AtE X n Γ0 K t (s'.wA A') a w
def WkE.refl {K} {t:Nat} (s:S):WkE K t s s:=⟨rfl,fun _ _ _ _ _ _ _ h=>h⟩
def WkE.trans {K} {t:Nat} {a b c} (h:WkE K t a b) (h':WkE K t b c):WkE K t a c:=
 ⟨h'.1.trans h.1,fun X n A' hA Γ0 ac w hat=>h'.2 X n A' (by rw[h.1];exact hA) Γ0 ac w (h.2 X n A' hA Γ0 ac w hat)⟩
def q3m {X} {n:Nat} {Γ0 K} {t:Nat} {a w} {s:S} {k} {x:V} (hk:¬(k=K\/k= .l t)) (hx:s.obj k=some (.box x)) (h:AtE X n Γ0 K t s a w):AtE X n Γ0 K t (s.put k (.box (x.ren (mvK K t) id))) a w:=by
 obtain⟨Γ,g1,g3,c,hs,hn,hf,hA,hι⟩:=h;have hkK:(some k:Option Key)≠some K:=fun e=>hk (.inl (by cases e;rfl));refine⟨Γ,g1,g3,c.lM hx (fun yw=>?_) (fun hv=>?_),hs,hn,hf,hA,hι⟩
 ·obtain⟨b,cells,T,h1,h2,h3,h4,h5,h6,h7,h8⟩:=yw;have hmv:mvK K t k=k:=by unfold mvK;rw[if_neg (fun e=>hk (.inl e))]
  have:=AA.Bc (θ:=id) (y5 hι hkK) h8 h6;simp only[Option.map_some,hmv]at this;exact⟨b,cells,T,by rw[V.Il];exact h1,h2,h3,h4,by rw[V.Il];exact h5,by rw[V.Il];exact this,by rw[V.lJ];exact h7,by rw[V.Xz];exact h8⟩
 ·obtain⟨e,rfl⟩:=hv;exact⟨e,by simp[qn]⟩
def YF (K:Key) (t:Nat):∀(ks:List Key) (s:S),WkE K t s (Hz K t ks s)
 | [],s=>WkE.refl s
 |k::ks,s=>by
  simp only[Hz];split
  ·exact YF K t ks s
  ·rename_i hk;split
   ·rename_i x hx;exact WkE.trans (b:=s.put k (.box (x.ren (mvK K t) id))) ⟨rfl,fun X n A' hA Γ0 a w h=>q3m (s:=s.wA A') hk (Cs hA hx) h⟩ (YF K t ks _)
   ·exact YF K t ks s
def QT (K:Key) (t:Nat) (ks:List Key) (s:S):S:=
 match s.obj K with
 |some (.box (.d (.arr M e) cc))=>if(s.obj (.l t)).isNone=true then
   {Hz K t ks ((s.put K (.dead (.arr M e))).put (.l t) (.box (.d (.arr M e) cc)))with env:=s.env.map fun p=>(p.1,p.2.ren (mvK K t) id)} else s
 |_=>s
def q27 {X} {n:Nat} {Γ0 K} {t:Nat} {a w} {s:S} {M:Nat} {e cc} (hK:s.obj K=some (.box (.d (.arr M e) cc))) (ht:s.obj (.l t)=none) (h:At X n Γ0 s a w):
  AtE X n Γ0 K t ((s.put K (.dead (.arr M e))).put (.l t) (.box (.d (.arr M e) cc))) a w:=by
 obtain⟨Γ,g1,g3,c,hs,hn,hf,hA⟩:=h;have yr:∀j,jj ((s.put K (.dead (.arr M e))).put (.l t) (.box (.d (.arr M e) cc))) j=jj {s with loc:=(Key.l t,O.box (.d (.arr M e) cc))::(K,O.dead (.arr M e))::s.loc} j:=fun j=>by rw[DG,DG,show jj {s with loc:=(Key.l t,O.box (.d (.arr M e) cc))::(K,O.dead (.arr M e))::s.loc} j=jj {({s with loc:=(K,O.dead (.arr M e))::s.loc}:S)with loc:=(Key.l t,O.box (.d (.arr M e) cc))::({s with loc:=(K,O.dead (.arr M e))::s.loc}:S).loc} j from rfl,CU,CU]
 rcases c.obj K _ hK with⟨h1,h2⟩|yw
 · -- without a block
  refine⟨Γ,g1,g3,⟨c.hH,c.hZ,c.hκ,fun j o hj=>?_,fun j hj=>?_,c.Jt (fun j hj=>?_),c.tok,c.zc,c.hgl,c.hoo,c.hσ⟩,hs,hn,hf,hA,fun x hx=>by rw[h1]at hx;cases hx⟩
  ·rw[DG]at hj;split at hj
   ·rename_i e1;subst e1;cases hj;exact .inl ⟨c.QN ht,h2⟩
   ·rw[DG]at hj;split at hj
    ·rename_i e1;subst e1;cases hj;exact .inl ⟨h1,trivial⟩
    ·exact c.obj j o hj
  ·rw[DG];split
   ·simp
   ·rw[DG];split
    ·simp
    ·exact c.dom j hj
  ·unfold S.BW at hj ⊢;rw[DG];split
   ·rename_i e1;subst e1;rw[ht]at hj;cases hj
   ·rw[DG];split
    ·rfl
    ·exact hj
 ·obtain⟨b,cells,T,e1,e2,e3,e4,e5,e6,e7,e8⟩:=yw;have hx0:AA Γ none [] (.d (.arr M e) cc) (chunk cells.toList 0 (V.d (.arr M e) cc).ty.size):=by simp only[AA]at e6 ⊢;exact e6
  obtain⟨k1,k2,k3⟩:=c.q0I (w':=w) (j:=.l t) (x':=.d (.arr M e) cc) hK rfl e1 ht e4 (fun _ _=>rfl) rfl rfl e5 hx0 e7 e8 (fun arr T' fr h=>by rw[e4]at h;cases h;rfl);have hkt:K≠.l t:=fun e=>by rw[e,ht]at hK;cases hK
  refine⟨_,g1.trans k3,by rw[k3.gl];exact g3,k1.congr yr (fun _=>rfl) (fun _ h=>h),hs.BL k2,hn,hf,hA,fun x hx=>?_⟩;have:Γ.ι K=some x:=by simpa[G.Bp,DU,hkt]using hx
  rw[e1]at this;cases this;simp[G.Bp,DU,V.ty]
theorem q26 (K:Key) (t:Nat) (ks:List Key) (s:S):(QT K t ks s).A=s.A/\∀(X:Cx) (n:Nat) (A':Key->Option O),leA s.A A'->DL X n (s.wA A') ((QT K t ks s).wA A'):=by
 unfold QT;split
 ·rename_i M e cc hK;split
  ·rename_i ht;have ht':s.obj (.l t)=none:=by simpa using ht
   refine⟨YE K t ks _,fun X n A' hA Γ0 a w hat=>?_⟩;have h1:=q27 (s:=s.wA A') (Cs hA hK) (by rw[LI];exact ht') hat;obtain⟨_,h2⟩:=YF K t ks ((s.put K (.dead (.arr M e))).put (.l t) (.box (.d (.arr M e) cc)));obtain⟨Γ,g1,g3,c,hs,hn,hf,zk,hι⟩:=h2 X n A' hA Γ0 a w h1;refine⟨Γ,g1,g3,c.congr (fun _=>rfl) (fun _=>rfl) (fun _ h=>h),fun i=>?_,hn,hf,zk⟩;have zq:((Hz K t ks ((s.put K (.dead (.arr M e))).put (.l t) (.box (.d (.arr M e) cc)))).wA A').env=s.env:=by
    have:∀(ks:List Key) (s:S),(Hz K t ks s).env=s.env:=by
     intro ks
     induction ks with
     |nil=>intro s;rfl
     |cons k ks ih=>
      intro s;simp only[Hz];split
      ·exact ih s
      ·split
       ·exact ih _
       ·exact ih s
    exact this ks _
   have hi:=hs i;have e1:S.get ((Hz K t ks ((s.put K (.dead (.arr M e))).put (.l t) (.box (.d (.arr M e) cc)))).wA A') i=(look s.env i).getD .any:=by unfold S.get;rw[zq]
   rw[e1]at hi;show AG Γ ((look (s.env.map fun p=>(p.1,p.2.ren (mvK K t) id)) i).getD .any) _;rw[eR];cases hl:look s.env i with
   |none=>trivial
   |some x=>
    rw[hl]at hi;exact AG.mv hι hi
  ·exact⟨rfl,fun _ _ _ _=>DL.refl _⟩
 ·exact⟨rfl,fun _ _ _ _=>DL.refl _⟩
def T0:Nat:=1000000000000000
mutual
def V.Cl:Sh->V->V
 | .vec (.l a) eb e,x=>(match x with
  | .emp eb' e'=>if eb'=eb/\e'=e then .sr (.l (a+T0)) [] 0 0 none eb e else x
  |x=>x)
 | .agg _ l,x=>(match x with
  | .agg τ xs=>.agg τ (V.FZ l xs)
  |x=>x)
 |_,x=>x
def V.FZ:List Sh->List V->List V
 |s::l,x::xs=>V.Cl s x::V.FZ l xs
 |_,xs=>xs
end
def V.q2p:∀(l:List Sh) (xs:List V),(V.FZ l xs).length=xs.length
 | [],xs=>by simp[V.FZ]
 |s::l,[]=>by simp[V.FZ]
 |s::l,x::xs=>by simp[V.FZ,V.q2p l xs]
def V.Ul (s:Sh) (x:V):(V.Cl s x).ty=x.ty:=by
 unfold V.Cl;split
 ·split
  ·split
   ·rename_i h;obtain⟨rfl,rfl⟩:=h;rfl
   ·rfl
  ·rfl
 ·split <;> rfl
 ·rfl
def V.q2o (s:Sh) (x:V):(V.Cl s x).plain=x.plain:=by
 unfold V.Cl;split
 ·split
  ·split
   ·rfl
   ·rfl
  ·rfl
 ·split <;> rfl
 ·rfl
mutual
def V.q2n:∀(s:Sh) (x:V),(V.Cl s x).Aw=x.Aw
 | .vec (.l a) eb e,x=>by
  simp only[V.Cl];split
  ·split <;> simp[V.Aw]
  ·rfl
 | .agg _ l,x=>by
  simp only[V.Cl];split
  ·simp only[V.Aw];exact V.q2q l _
  ·rfl
 | .vec (.g _) _ _,_| .d _,_| .sl _ _ _,_| .ts _ _,_| .sr _ _ _ _ _,_| .yn _,_| .arr _,_| .as _,_| .fnc _ _,_=>by simp[V.Cl]
def V.q2q:∀(l:List Sh) (xs:List V),V.CC (V.FZ l xs)=V.CC xs
 | [],xs=>by simp[V.FZ]
 |s::l,[]=>by simp[V.FZ]
 |s::l,x::xs=>by simp only[V.FZ,V.CC,V.q2n s x,V.q2q l xs]
end
mutual
def AA.Cl {Γ hm}:∀(s:Sh) (x:V) {p:List Nat} {vs:List Value},AA Γ hm p x vs->AA Γ hm p (V.Cl s x) vs
 | .vec (.l a) eb e,x,p,vs,h=>by
  simp only[V.Cl];split
  ·split
   ·simp only[AA]at h ⊢;obtain⟨a,h⟩:=h;exact .inl ⟨trivial,trivial,a,h⟩
   ·exact h
  ·exact h
 | .agg _ l,x,p,vs,h=>by
  simp only[V.Cl];split
  ·simp only[AA]at h ⊢;exact⟨h.1,h.2.1,by rw[V.q2p];exact h.2.2.1,h.2.2.2.1,AZ.FZ l _ h.2.2.2.2⟩
  ·exact h
 | .vec (.g _) _ _,_,_,_,h| .d _,_,_,_,h| .sl _ _ _,_,_,_,h| .ts _ _,_,_,_,h| .sr _ _ _ _ _,_,_,_,h| .yn _,_,_,_,h| .arr _,_,_,_,h| .as _,_,_,_,h| .fnc _ _,_,_,_,h=>by simpa only[V.Cl]using h
def AZ.FZ {Γ hm}:∀(l:List Sh) (xs:List V) {p:List Nat} {i:Nat} {τ:Ty} {vs:List Value},AZ Γ hm p i τ xs vs->AZ Γ hm p i τ (V.FZ l xs) vs
 | [],xs,_,_,_,_,h=>by simpa only[V.FZ]using h
 |s::l,[],_,_,_,_,h=>by simpa only[V.FZ]using h
 |s::l,x::xs,_,_,_,_,h=>by
  simp only[AZ,V.FZ,V.Ul]at h ⊢;obtain⟨⟨o,f,h1,h2,h3,h4⟩,h5⟩:=h;exact⟨⟨o,f,h1,h2,h3,AA.Cl s x h4⟩,AZ.FZ l xs h5⟩
end
mutual
def V.nP:Sh->V->List (Nat × Ty)
 | .vec (.l a) eb e,x=>(match x with
  | .emp eb' e'=>if eb'=eb/\e'=e then[(a+T0,e)]else[]
  | .ym=>[(a+T0,e)]
  |_=>[])
 | .agg _ l,x=>(match x with
  | .agg _ xs=>V.q2m l xs
  |_=>[])
 |_,_=>[]
def V.q2m:List Sh->List V->List (Nat × Ty)
 |s::l,x::xs=>V.nP s x++V.q2m l xs
 |_,_=>[]
end
def QL:List (Nat × Ty)->S->S
 | [],s=>s
 |(t,e)::l,s=>if(s.obj (.l t)).isNone=true then QL l (s.put (.l t) (.box (.d (.arr 0 e) (.agg []))))else QL l s
def V.Lg (s:Sh) (x:V):V:=
 match s,x with
 | .vec (.l a) eb e,.ym=>.sr (.l (a+T0)) [] 0 0 none eb e
 |s,x=>V.Cl s x
def Uj:List (Nat × Sh)->S->S
 | [],s=>s
 |(i,sh)::l,s=>(match V.nP sh (s.get i)with
  | []=>Uj l s
  |ns=>Uj l (QL ns (s.set (some i) (V.Lg sh (s.get i)))))
def NI:List (Key × OSh)->S->S
 | [],s=>s
 |(k,.box sh)::l,s=>(match s.obj k with
  |some (.box x)=>(match V.nP sh x with
   | []=>NI l s
   |ns=>NI l (QL ns (s.put k (.box (V.Cl sh x)))))
  |_=>NI l s)
 |_::l,s=>NI l s
section
mutual
def V.FB (s:S):V->V
 | .agg τ vs=>.agg τ (V.HJ s vs)
 |x=>CX s x
def V.HJ (s:S):List V->List V
 | []=>[]
 |x::xs=>V.FB s x::V.HJ s xs
end
mutual
def V.Rx:V->List Nat
 | .agg _ vs=>V.Wd vs
 |x=>Fi x
def V.Wd:List V->List Nat
 | []=>[]
 |x::xs=>V.Rx x++V.Wd xs
end
mutual
def V.frz (s:S):Sh->V->V
 | .d _,x=>x.FB s
 | .agg _ l,x=>(match x with
  | .agg τ xs=>.agg τ (V.Ep s l xs)
  |x=>x)
 |_,x=>x
def V.Ep (s:S):List Sh->List V->List V
 |sh::l,x::xs=>V.frz s sh x::V.Ep s l xs
 |_,xs=>xs
end
mutual
def V.JO:Sh->V->List Nat
 | .d _,x=>x.Rx
 | .agg _ l,x=>(match x with
  | .agg _ xs=>V.Vx l xs
  |_=>[])
 |_,_=>[]
def V.Vx:List Sh->List V->List Nat
 |sh::l,x::xs=>V.JO sh x++V.Vx l xs
 |_,_=>[]
end
def AA.TC {Γ Γ'} (p:BI Γ Γ') {q:List Nat} {x vs} (h:AA Γ none q x vs):AA Γ' none q x vs:=AA.BL p (hm:=none) trivial x h
def yH (s:S) (x:V):(CX s x).ty=x.ty/\(CX s x).plain=x.plain:=by
 unfold CX;split
 ·split
  ·split
   ·split
    ·split
     ·exact⟨rfl,rfl⟩
     ·exact⟨rfl,rfl⟩
    ·exact⟨rfl,rfl⟩
   ·exact⟨rfl,rfl⟩
  ·exact⟨rfl,rfl⟩
 ·exact⟨rfl,rfl⟩
def V.yC (s:S) (x:V):(x.FB s).ty=x.ty/\(x.FB s).plain=x.plain:=by cases x <;> simp only[V.FB] <;> first|exact yH s _|exact⟨rfl,rfl⟩
def V.yE (s:S):∀xs:List V,(V.HJ s xs).length=xs.length
 | []=>rfl
 |x::xs=>by simp[V.HJ,V.yE s xs]
def V.cK (s:S) (sh:Sh) (x:V):(V.frz s sh x).ty=x.ty/\(V.frz s sh x).plain=x.plain:=by
 unfold V.frz;split
 ·exact V.yC s x
 ·split <;> exact⟨rfl,rfl⟩
 ·exact⟨rfl,rfl⟩
def V.vI (s:S):∀(l:List Sh) (xs:List V),(V.Ep s l xs).length=xs.length
 | [],xs=>by simp[V.Ep]
 |_::_,[]=>by simp[V.Ep]
 |sh::l,x::xs=>by simp[V.Ep,V.vI s l xs]
section
variable {Γ Γ':G} {s:S} {js:List Nat} (p:BI Γ Γ') (hc:∀(x:V) (v:Value),AG Γ x v->(∀j∈Fi x,j∈js)->AG Γ' (CX s x) v)
include p hc
def AA.CX {x:V} {q:List Nat} {vs} (hx:x.plain=true) (ha:x.ty.isAgg=false) (h:AA Γ none q x vs) (hk:∀j∈Fi x,j∈js):AA Γ' none q (CX s x) vs:=by
 by_cases hn:Fi x=[]
 ·rw[yG (fun j hj=>by rw[hn]at hj;cases hj)];exact h.TC p
 ·cases x <;> (try (exact absurd rfl hn));rename_i k q0 lo n cp eb e;cases k with
  |g k=>exact absurd rfl hn
  |l j=>
   have hv:∃v,vs=[v]/\AG Γ (.sr (.l j) q0 lo n cp eb e) v:=by
    have h':=h;simp only[AA]at h;rcases h with⟨_,_,a,rfl⟩|⟨b,τ0,o,m,cap,_,_,_,⟨a,rfl,_⟩,_⟩
    ·exact⟨_,rfl,(Bf rfl rfl).2 ⟨by simpa only[AA]using h',rfl⟩⟩
    ·exact⟨_,rfl,(Bf rfl rfl).2 ⟨by simpa only[AA]using h',rfl⟩⟩
   obtain⟨v,rfl,hv⟩:=hv;have h2:=hc _ _ hv hk;have h3:=yH s (.sr (.l j) q0 lo n cp eb e);have hvc:v.cells.toList=[v]:=by rcases HW hv with⟨_,_,a,rfl⟩|⟨b,τ0,o,m,cap,a,_,_,_,rfl,_⟩ <;> rfl
   obtain⟨h4,_⟩:=(BZ (by rw[h3.2];rfl)).1 h2;rw[hvc]at h4;exact AA.DW _ h4
mutual
def AA.FB:∀(x:V) {q:List Nat} {vs},AA Γ none q x vs->(∀j∈x.Rx,j∈js)->AA Γ' none q (x.FB s) vs
 | .agg τ xs,q,vs,h,hk=>by
  simp only[V.FB,V.Rx]at hk ⊢;simp only[AA]at h ⊢;exact⟨h.1,h.2.1,by rw[V.yE];exact h.2.2.1,h.2.2.2.1,AZ.HJ xs h.2.2.2.2 hk⟩
 | .any,q,vs,_,_=>by simp only[V.FB,Go.E.CX,AA]
 | .tup _,q,vs,h,_=>by simp only[AA]at h
 | .d τ c,q,vs,h,_=>by simp only[V.FB,Go.E.CX];exact h.TC p
 | .sl _ _ _ _,q,vs,h,hk| .ts _ _ _,q,vs,h,hk| .emp _ _,q,vs,h,hk| .ym,q,vs,h,hk| .ptr _ _ _,q,vs,h,hk| .yn _ _,q,vs,h,hk| .mp _,q,vs,h,hk| .fn _ _,q,vs,h,hk| .top _,q,vs,h,hk=>by
  simp only[V.FB,Go.E.CX];exact h.TC p
 | .sr k q0 lo n cp eb e,q,vs,h,hk=>by
  simp only[V.FB];exact AA.CX p hc rfl rfl h (by simpa only[V.Rx]using hk)
def AZ.HJ:∀(xs:List V) {q:List Nat} {i:Nat} {τ:Ty} {vs:List Value},AZ Γ none q i τ xs vs->(∀j∈V.Wd xs,j∈js)->AZ Γ' none q i τ (V.HJ s xs) vs
 | [],_,_,_,_,_,_=>by simp only[V.HJ,AZ]
 |x::xs,_,_,_,_,h,hk=>by
  simp only[AZ,V.HJ,(V.yC s x).1]at h ⊢;simp only[V.Wd,dy]at hk;obtain⟨⟨o,f,h1,h2,h3,h4⟩,h5⟩:=h;exact⟨⟨o,f,h1,h2,h3,AA.FB x h4 fun j hj=>hk j (.inl hj)⟩,AZ.HJ xs h5 fun j hj=>hk j (.inr hj)⟩
end
mutual
def AA.frz:∀(sh:Sh) (x:V) {q:List Nat} {vs},AA Γ none q x vs->(∀j∈V.JO sh x,j∈js)->AA Γ' none q (V.frz s sh x) vs
 | .d _,x,q,vs,h,hk=>by simp only[V.frz,V.JO]at hk ⊢;exact AA.FB p hc x h hk
 | .agg _ l,x,q,vs,h,hk=>by
  simp only[V.frz,V.JO]at hk ⊢;split
  ·simp only[AA]at h ⊢;exact⟨h.1,h.2.1,by rw[V.vI];exact h.2.2.1,h.2.2.2.1,AZ.Ep l _ h.2.2.2.2 hk⟩
  ·exact h.TC p
 | .sl _ _ _,x,q,vs,h,_| .ts _ _,x,q,vs,h,_| .sr _ _ _ _ _,x,q,vs,h,_| .yn _,x,q,vs,h,_| .arr _,x,q,vs,h,_| .as _,x,q,vs,h,_| .vec _ _ _,x,q,vs,h,_| .fnc _ _,x,q,vs,h,_=>by
  simp only[V.frz];exact h.TC p
def AZ.Ep:∀(l:List Sh) (xs:List V) {q:List Nat} {i:Nat} {τ:Ty} {vs:List Value},AZ Γ none q i τ xs vs->(∀j∈V.Vx l xs,j∈js)->AZ Γ' none q i τ (V.Ep s l xs) vs
 | [],xs,_,_,_,_,h,_=>by simp only[V.Ep];exact AZ.BL p (hm:=none) trivial xs h
 |_::_,[],_,_,_,_,_,_=>by simp only[V.Ep,AZ]
 |sh::l,x::xs,_,_,_,_,h,hk=>by
  simp only[AZ,V.Ep,(V.cK s sh x).1]at h ⊢;simp only[V.Vx,dy]at hk;obtain⟨⟨o,f,h1,h2,h3,h4⟩,h5⟩:=h;exact⟨⟨o,f,h1,h2,h3,AA.frz sh x h4 fun j hj=>hk j (.inl hj)⟩,AZ.Ep l xs h5 fun j hj=>hk j (.inr hj)⟩
end
def AG.frz {sh x v} (h:AG Γ x v) (hk:∀j∈V.JO sh x,j∈js):AG Γ' (V.frz s sh x) v:=by
 by_cases hp:x.plain=true
 ·obtain⟨h1,h2⟩:=(BZ hp).1 h;exact(BZ (by rw[(V.cK s sh x).2];exact hp)).2 ⟨AA.frz p hc sh x h1 hk,by rw[(V.cK s sh x).1];exact h2⟩
 ·have:V.frz s sh x=x:=by cases x <;> simp[V.plain]at hp <;> (unfold V.frz;split <;> rfl)
  rw[this];exact h.BL p
end
def Ia (s:S):List (Nat × Sh)->List Nat
 | []=>[]
 |(i,sh)::l=>V.JO sh (s.get i)++Ia s l
def Ic (s0:S):List (Nat × Sh)->S->S
 | [],s=>s
 |(i,sh)::l,s=>Ic s0 l (match V.JO sh (s0.get i)with
  | []=>s
  |_=>s.set (some i) (V.frz s0 sh (s0.get i)))
def Jp (sh:SSh) (s:S):S:=
 match Ia s sh.env with
 | []=>s
 |js=>Ic s sh.env (Db js s)
def cJ (s0:S):∀(l:List (Nat × Sh)) (s:S),(Ic s0 l s).loc=s.loc/\(Ic s0 l s).tk=s.tk/\(Ic s0 l s).A=s.A
 | [],s=>⟨rfl,rfl,rfl⟩
 |(i,sh)::l,s=>by
  simp only[Ic]
  have:=cJ s0 l (match V.JO sh (s0.get i)with
   | []=>s
   |_=>s.set (some i) (V.frz s0 sh (s0.get i)))
  refine⟨this.1.trans ?_,this.2.1.trans ?_,this.2.2.trans ?_⟩ <;> (split <;> rfl)
def vF {Γ'} {tmps:Array Value} {s0:S} {js:List Nat} (h0:∀i sh,(∀j∈V.JO sh (s0.get i),j∈js)->AG Γ' (V.frz s0 sh (s0.get i)) (tmps.getD i undef)):∀(l:List (Nat × Sh)) (s:S),(∀j∈Ia s0 l,j∈js)->(∀i,AG Γ' (s.get i) (tmps.getD i undef))->∀i,AG Γ' ((Ic s0 l s).get i) (tmps.getD i undef)
 | [],s,_,h=>h
 |(i,sh)::l,s,hk,h=>by
  simp only[Ic];simp only[Ia,dy]at hk;refine vF h0 l _ (fun j hj=>hk j (.inr hj)) fun m=>?_;split
  ·exact h m
  ·rw[Jq];split
   ·rename_i e;cases e;exact h0 i sh fun j hj=>hk j (.inl hj)
   ·exact h m
def q3l {X} {n:Nat} {Γ0 a w sh s} (h:At X n Γ0 s a w):At X n Γ0 (Jp sh s) a w:=by
 unfold Jp;split
 ·exact h
 ·obtain⟨Γ,g1,g3,c,hs,hn,hf,hA⟩:=h;obtain⟨Γ',g,p,c',hcv⟩:=Wf (Ia s sh.env) s c;have hl:=cJ s sh.env (Db (Ia s sh.env) s);have hE:=Ry (Ia s sh.env) s;refine⟨Γ',g1.trans g,g.gl.trans g3,c'.congr (fun k=>?_) (fun t=>?_) (fun t ht=>?_),?_,hn,hf,by rw[hl.2.2,hE.2];exact hA⟩
  ·unfold jj;rw[hl.1,hl.2.2]
  ·unfold uu;rw[hl.2.1]
  ·unfold S.known at ht ⊢;rw[hl.2.1];exact ht
  ·refine vF (js:=Ia s sh.env) (fun i sh' hk=>AG.frz p hcv (hs i) hk) sh.env _ (fun j hj=>hj) fun i=>?_;exact LZ hE.1 (hs.BL p) i
mutual
def V.yD (s:S) (A':Key->Option O):∀x:V,x.FB (s.wA A')=x.FB s
 | .agg τ vs=>by simp only[V.FB];rw[V.yF s A' vs]
 | .d _ _| .sl _ _ _ _| .ts _ _ _| .emp _ _| .ym| .ptr _ _ _| .yn _ _| .mp _| .fn _ _| .top _| .any| .tup _| .sr _ _ _ _ _ _ _=>by simp only[V.FB];exact yI s A' _
def V.yF (s:S) (A':Key->Option O):∀xs:List V,V.HJ (s.wA A') xs=V.HJ s xs
 | []=>rfl
 |x::xs=>by simp only[V.HJ];rw[V.yD s A' x,V.yF s A' xs]
end
mutual
def V.vH (s:S) (A':Key->Option O):∀(sh:Sh) (x:V),V.frz (s.wA A') sh x=V.frz s sh x
 | .d _,x=>by simp only[V.frz];exact V.yD s A' x
 | .agg _ l,x=>by simp only[V.frz];split <;> (try rfl);rw[V.vJ s A' l]
 | .sl _ _ _,x| .ts _ _,x| .sr _ _ _ _ _,x| .yn _,x| .arr _,x| .as _,x| .vec _ _ _,x| .fnc _ _,x=>by simp only[V.frz]
def V.vJ (s:S) (A':Key->Option O):∀(l:List Sh) (xs:List V),V.Ep (s.wA A') l xs=V.Ep s l xs
 | [],xs=>by simp only[V.Ep]
 |_::_,[]=>by simp only[V.Ep]
 |sh::l,x::xs=>by simp only[V.Ep];rw[V.vH s A' sh x,V.vJ s A' l xs]
end
def tD (s:S) (A':Key->Option O):∀l:List (Nat × Sh),Ia (s.wA A') l=Ia s l
 | []=>rfl
 |(i,sh)::l=>by simp only[Ia];rw[tD s A' l];rfl
def vG (s0:S) (A':Key->Option O):∀(l:List (Nat × Sh)) (s:S),Ic (s0.wA A') l (s.wA A')=(Ic s0 l s).wA A'
 | [],_=>rfl
 |(i,sh)::l,s=>by
  simp only[Ic];rw[<-vG s0 A' l];congr 1
  show(match V.JO sh (s0.get i)with
   | []=>s.wA A'
   |_=>(s.wA A').set (some i) (V.frz (s0.wA A') sh (s0.get i)))=_
  rw[V.vH];split <;> rfl
def q6r (sh:SSh) (s:S) (A':Key->Option O):Jp sh (s.wA A')=(Jp sh s).wA A':=by
 unfold Jp;rw[tD];split
 ·rfl
 ·rw[dZ];exact vG s A' sh.env _
end
def Hl {R:Type}:Key->(Key->Option R)->Option R
 | .l 0,K=>K (.l 0)
 | .l (n+1),K=>K (.l (n+1))
 | .g k,K=>Hl k fun k=>K (.g k)
def Kj {R:Type}:∀(k:Key) (K:Key->Option R),Hl k K=K k
 | .l 0,K=>rfl
 | .l (n+1),K=>rfl
 | .g k,K=>by simp only[Hl,Kj k]
mutual
def Hm {R:Type}:V->(V->Option R)->Option R
 | .d τ c,K=>K (.d τ c)
 | .sl eb e cs t,K=>K (.sl eb e cs t)
 | .ts eb e cs,K=>K (.ts eb e cs)
 | .emp eb e,K=>K (.emp eb e)
 | .ym,K=>K .ym
 | .ptr k q τ,K=>Hl k fun k=>K (.ptr k q τ)
 | .yn τ c,K=>K (.yn τ c)
 | .sr k q lo n cp eb e,K=>Hl k fun k=>K (.sr k q lo n cp eb e)
 | .mp k,K=>Hl k fun k=>K (.mp k)
 | .agg τ l,K=>OX l fun l=>K (.agg τ l)
 | .fn f l,K=>K (.fn f l)
 | .tup l,K=>OX l fun l=>K (.tup l)
 | .top τ,K=>K (.top τ)
 | .any,K=>K .any
def OX {R:Type}:List V->(List V->Option R)->Option R
 | [],K=>K []
 |x::l,K=>Hm x fun x=>OX l fun l=>K (x::l)
end
mutual
def RV {R:Type}:∀(x:V) (K:V->Option R),Hm x K=K x
 | .d _ _,_| .sl _ _ _ _,_| .ts _ _ _,_| .emp _ _,_| .ym,_| .yn _ _,_| .fn _ _,_| .top _,_| .any,_=>by simp only[Hm]
 | .ptr k q τ,K=>by simp only[Hm,Kj]
 | .sr k q lo n cp eb e,K=>by simp only[Hm,Kj]
 | .mp k,K=>by simp only[Hm,Kj]
 | .agg τ l,K=>by simp only[Hm,cG l]
 | .tup l,K=>by simp only[Hm,cG l]
def cG {R:Type}:∀(l:List V) (K:List V->Option R),OX l K=K l
 | [],K=>by simp only[OX]
 |x::l,K=>by simp only[OX,RV x,cG l]
end
def Vu {R:Type}:List (Nat × V)->(List (Nat × V)->Option R)->Option R
 | [],K=>K []
 |(i,x)::l,K=>Hm x fun x=>Vu l fun l=>K ((i,x)::l)
def uY {R:Type}:∀(l:List (Nat × V)) (K:List (Nat × V)->Option R),Vu l K=K l
 | [],K=>rfl
 |(i,x)::l,K=>by simp only[Vu,RV,uY l]
def RQ {R:Type}:List (Key × O)->(List (Key × O)->Option R)->Option R
 | [],K=>K []
 |(k,.box x)::l,K=>Hl k fun k=>Hm x fun x=>RQ l fun l=>K ((k,.box x)::l)
 |(k,o)::l,K=>Hl k fun k=>RQ l fun l=>K ((k,o)::l)
def uZ {R:Type}:∀(l:List (Key × O)) (K:List (Key × O)->Option R),RQ l K=K l
 | [],K=>rfl
 |(k,o)::l,K=>by
  cases o <;> simp only[RQ,Kj,RV,uZ l]
def RU {R:Type}:List (Nat × Option Nat)->(List (Nat × Option Nat)->Option R)->Option R
 | [],K=>K []
 |(i,none)::l,K=>RU l fun l=>K ((i,none)::l)
 |(i,some n)::l,K=>RU l fun l=>K ((i,some n)::l)
def vD {R:Type}:∀(l:List (Nat × Option Nat)) (K:List (Nat × Option Nat)->Option R),RU l K=K l
 | [],K=>rfl
 |(i,o)::l,K=>by cases o <;> simp only[RU,vD l]
def frc {R:Type} (s:S) (K:S->Option R):Option R:=
 match s with
 |⟨env,loc,A,tk⟩=>Vu env fun env=>RQ loc fun loc=>RU tk fun tk=>K ⟨env,loc,A,tk⟩
def cH {R:Type} (s:S) (K:S->Option R):frc s K=K s:=by
 unfold frc;simp only[uY,uZ,vD]
def OW {R:Type}:List Cap->(List Cap->Option R)->Option R
 | [],K=>K []
 | .c τ::l,K=>OW l fun l=>K (.c τ::l)
 | .v x::l,K=>Hm x fun x=>OW l fun l=>K (.v x::l)
def cD {R:Type}:∀(l:List Cap) (K:List Cap->Option R),OW l K=K l
 | [],K=>rfl
 | .c τ::l,K=>by simp only[OW,cD l]
 | .v x::l,K=>by simp only[OW,RV,cD l]
mutual
def JN {R:Type}:Sh->(Sh->Option R)->Option R
 | .sr k q cp eb e,K=>Hl k fun k=>K (.sr k q cp eb e)
 | .vec k eb e,K=>Hl k fun k=>K (.vec k eb e)
 | .agg τ l,K=>RT l fun l=>K (.agg τ l)
 | .as v,K=>Hm v fun v=>K (.as v)
 | .d τ,K=>K (.d τ)
 | .sl eb e t,K=>K (.sl eb e t)
 | .ts eb e,K=>K (.ts eb e)
 | .yn τ,K=>K (.yn τ)
 | .arr e,K=>K (.arr e)
 | .fnc f l,K=>OW l fun l=>K (.fnc f l)
def RT {R:Type}:List Sh->(List Sh->Option R)->Option R
 | [],K=>K []
 |x::l,K=>JN x fun x=>RT l fun l=>K (x::l)
end
mutual
def cF {R:Type}:∀(x:Sh) (K:Sh->Option R),JN x K=K x
 | .d _,_| .sl _ _ _,_| .ts _ _,_| .yn _,_| .arr _,_=>by simp only[JN]
 | .sr _ _ _ _ _,K=>by simp only[JN,Kj]
 | .vec _ _ _,K=>by simp only[JN,Kj]
 | .as v,K=>by simp only[JN,RV]
 | .fnc f l,K=>by simp only[JN,cD]
 | .agg τ l,K=>by simp only[JN,vC l]
def vC {R:Type}:∀(l:List Sh) (K:List Sh->Option R),RT l K=K l
 | [],K=>by simp only[RT]
 |x::l,K=>by simp only[RT,cF x,vC l]
end
def Vv {R:Type}:List (Nat × Sh)->(List (Nat × Sh)->Option R)->Option R
 | [],K=>K []
 |(i,x)::l,K=>JN x fun x=>Vv l fun l=>K ((i,x)::l)
def vA {R:Type}:∀(l:List (Nat × Sh)) (K:List (Nat × Sh)->Option R),Vv l K=K l
 | [],K=>rfl
 |(i,x)::l,K=>by simp only[Vv,cF,vA l]
def RR {R:Type}:List (Key × OSh)->(List (Key × OSh)->Option R)->Option R
 | [],K=>K []
 |(k,.box x)::l,K=>Hl k fun k=>JN x fun x=>RR l fun l=>K ((k,.box x)::l)
 |(k,o)::l,K=>Hl k fun k=>RR l fun l=>K ((k,o)::l)
def vB {R:Type}:∀(l:List (Key × OSh)) (K:List (Key × OSh)->Option R),RR l K=K l
 | [],K=>rfl
 |(k,o)::l,K=>by cases o <;> simp only[RR,Kj,cF,vB l]
def RS {R:Type} (s:SSh) (K:SSh->Option R):Option R:=
 match s with
 |⟨env,loc⟩=>Vv env fun env=>RR loc fun loc=>K ⟨env,loc⟩
def cE {R:Type} (s:SSh) (K:SSh->Option R):RS s K=K s:=by
 unfold RS;simp only[vA,vB]
def qH:List V->Bool
 | []=>false
 | .yn _ _::_=>true
 |_::l=>qH l
def Zg:List V->List Cap
 | []=>[]
 | .yn τ _::l=>.c τ::Zg l
 |x::l=>.v x::Zg l
mutual
def V.Uw:V->Sh
 | .d τ _=>(match τ with
  | .ptr=>.as (.d .ptr .nil)
  | .map=>.as (.d .map .nil)
  | .func=>.as (.d .func .nil)
  |τ=>.d τ)
 | .sl eb e _ _=>.d (.slice eb e)
 | .ts eb e _=>.ts eb e
 | .sr k q _ _ cp eb e=>(match q,cp with
  | [],none=>.vec k eb e
  |q,cp=>.sr k q cp.isSome eb e)
 | .yn τ _=>.yn τ
 | .agg τ vs=>.agg τ (V.oI vs)
 | .tup _=>.as .any
 | .fn f vs=>bif qH vs then .fnc f (Zg vs)else .as (.fn f vs)
 |x=>.as x
def V.oI:List V->List Sh
 | []=>[]
 |x::xs=>x.Uw::V.oI xs
end
mutual
def V.Rg:V->List Key
 | .ptr k _ _| .mp k| .sr k _ _ _ _ _ _=>[k]
 | .agg _ vs| .fn _ vs| .tup vs=>V.wQ vs
 |_=>[]
def V.wQ:List V->List Key
 | []=>[]
 |x::xs=>x.Rg++V.wQ xs
end
def O.Rg:O->List Key
 | .box x=>x.Rg
 | .map _ _ _=>[]
 | .it _ _| .dead _=>[]
def Wl:Key->List Key->Bool
 |_,[]=>false
 |k,j::l=>if j=k then true else Wl k l
def Xc (s:S):Nat->List Key->List Key->List Key
 |0,_,acc=>acc
 |_,[],acc=>acc
 |f+1,k::ks,acc=>if Wl k acc=true then Xc s f ks acc else(match s.obj k with
  |some o=>Xc s f (o.Rg++ks) (acc++[k])
  |none=>Xc s f ks acc)
structure Hint where
 live:List Nat
 new:List (Nat × Sh)
 roots:List Key
 obs:List (Key × OSh)
 drop:List Key
 z6E:List Ty:=[]
def tF (s:S):List Nat->List Key
 | []=>[]
 |i::l=>(s.get i).Rg++tF s l
def Yz (s:S):List Nat->List (Nat × Sh)
 | []=>[]
 |i::l=>(match s.get i with
  | .any=>Yz s l
  |x=>(i,x.Uw)::Yz s l)
def OZ (e:Ty):List Ty->Bool
 | []=>false
 |t::l=>if wj t e=true then true else OZ e l
def VT:Key->Nat
 | .l n=>2*n
 | .g k=>2*VT k+1
def V1:Nat:=1000000000000
mutual
def Sh.nQ (ts:List Ty):Nat->Sh->V->Sh
 |b,.vec (.g k) eb e,_=>if OZ e ts=true then .vec (.l (V1+8*VT (.g k)+2)) eb e else .vec (.g k) eb e
 |b,.as v,_=>(match v with
  | .emp eb e=>if OZ e ts=true then .vec (.l b) eb e else .as v
  |v=>.as v)
 |b,.ts eb e,x=>(match x with
  | .emp _ _=>if OZ e ts=true then .vec (.l b) eb e else .ts eb e
  |_=>.ts eb e)
 |b,.agg τ l,x=>(match x with
  | .agg _ xs=>.agg τ (Sh.q2r ts (64*b) l xs)
  |_=>.agg τ l)
 |_,s,_=>s
def Sh.q2r (ts:List Ty):Nat->List Sh->List V->List Sh
 |b,s::l,x::xs=>Sh.nQ ts b s x::Sh.q2r ts (b+1) l xs
 |_,_,_=>[]
end
mutual
def Sh.nR:Sh->List (Key × OSh)
 | .vec (.l a) _ e=>if V1<=a then[(.l a,.box (.arr e))]else[]
 | .agg _ l=>Sh.q2x l
 |_=>[]
def Sh.q2x:List Sh->List (Key × OSh)
 | []=>[]
 |s::l=>s.nR++Sh.q2x l
end
def tH (s:S) (ts:List Ty):List (Nat × Sh)->List (Nat × Sh)
 | []=>[]
 |(i,sh)::l=>(i,sh.nQ ts (V1+8*i+3) (s.get i))::tH s ts l
def Oj (s:S) (ts:List Ty):List (Key × OSh)->List (Key × OSh)
 | []=>[]
 |(k,.box sh)::l=>(match k,sh with
  | .g k,.arr e=>if OZ e ts=true then(.g k,.dead e)::(.l (V1+8*VT (.g k)+2),.box (.arr e))::Oj s ts l else(.g k,.box sh)::Oj s ts l
  |k,sh=>(match s.obj k with
   |some (.box x)=>(k,.box (sh.nQ ts (V1+8*VT k+1) x))::Oj s ts l
   |_=>(k,.box sh)::Oj s ts l))
 |p::l=>p::Oj s ts l
def tI:List (Nat × Sh)->List (Key × OSh)
 | []=>[]
 |(_,sh)::l=>sh.nR++tI l
def eG:List (Key × OSh)->List (Key × OSh)
 | []=>[]
 |(_,.box sh)::l=>sh.nR++eG l
 |_::l=>eG l
def ZC:List (Key × OSh)->List (Key × OSh)->List (Key × OSh)
 | [],acc=>acc
 |(k,o)::l,acc=>if Ks acc k=true then ZC l acc else ZC l (acc++[(k,o)])
def z4E (s:S) (ts:List Ty) (sh:SSh):SSh:=
 match ts with
 | []=>sh
 |ts=>(match tH s ts sh.env,Oj s ts sh.loc with
  |env,loc=>⟨env,ZC (tI env++eG loc) loc⟩)
def KZ (s:S) (h:Hint):List Key->List (Key × OSh)
 | []=>[]
 |k::l=>if Wl k h.drop=true then KZ s h l else if Ks h.obs k=true then KZ s h l else(match s.obj k with
  |some (.box x)=>(k,.box (match x with
    | .d (.arr M e) _=>(match k,M with
     |_,_=>if OZ e h.z6E=true then .arr e else .d (.arr M e))
    | .d τ _=>.d τ
    |x=>(match h.z6E with
     | []=>bif (Bl x).isSome then .d x.ty else x.Dp.Uw
     |_=>x.Uw)))::KZ s h l
  |some (.map kτ vτ _)=>(k,.map kτ vτ)::KZ s h l
  |some (.it _ _)=>(k,.it)::KZ s h l
  |some (.dead (.arr _ e))=>(k,.dead e)::KZ s h l
  |_=>KZ s h l)
def aJ:List (Key × O)->List Key
 | []=>[]
 |(.g k,.dead _)::l=>.g k::aJ l
 |_::l=>aJ l
def fH (h:Hint) (s:S):SSh:=
 z4E s h.z6E ⟨Yz s h.live++h.new,h.obs++KZ s h (Xc s 1000 (tF s h.live++h.roots) []++aJ s.loc)⟩
def MK:List (Key × OSh)->S->S
 | [],s=>s
 |(k,.box _)::l,s=>(match s.obj k with
  |some (.box x)=>MK l (s.put k (.box x.Dp))
  |_=>MK l s)
 |_::l,s=>MK l s
def Jd:List (Nat × Sh)->S->S
 | [],s=>s
 |(i,sh)::l,s=>(match sh with
  | .sl eb e t=>(match s.get i with
   | .ym=>if s.known t=false then Jd l (S.set {s with tk:=(t,some 0)::s.tk} (some i) (.sl eb e [] t))else Jd l s
   | .emp eb' e'=>if eb'=eb/\e'=e/\s.known t=false then Jd l (S.set {s with tk:=(t,some 0)::s.tk} (some i) (.sl eb e [] t))else Jd l s
   |_=>Jd l s)
  |_=>Jd l s)
mutual
def V.un:V->V->List (Nat × Nat)
 | .ptr (.l a) _ _,.ptr (.l b) _ _=>[(b,a)]
 | .mp (.l a),.mp (.l b)=>[(b,a)]
 | .fn _ l,.fn _ l'=>V.uns l l'
 | .tup l,.tup l'=>V.uns l l'
 |_,_=>[]
def V.uns:List V->List V->List (Nat × Nat)
 |x::xs,y::ys=>V.un x y++V.uns xs ys
 |_,_=>[]
end
def Zf:List Cap->List V->List (Nat × Nat)
 | .v y::l,x::xs=>V.un y x++Zf l xs
 | .c _::l,_::xs=>Zf l xs
 |_,_=>[]
mutual
def Sh.un:Sh->V->List (Nat × Nat)
 | .sr (.l a) _ _ _ _,.sr (.l b) _ _ _ _ _ _=>[(b,a)]
 | .vec (.l a) _ _,.sr (.l b) _ _ _ _ _ _=>[(b,a)]
 | .as v,x=>V.un v x
 | .fnc _ l,.fn _ xs=>Zf l xs
 | .agg _ l,.agg _ xs=>Sh.uns l xs
 |_,_=>[]
def Sh.uns:List Sh->List V->List (Nat × Nat)
 |s::l,x::xs=>s.un x++Sh.uns l xs
 |_,_=>[]
end
def nF (s:S):List (Nat × Sh)->List (Nat × Nat)
 | []=>[]
 |(i,sh)::l=>sh.un (s.get i)++nF s l
def Yh (s:S):List (Nat × Sh)->List (Nat × Nat)
 | []=>[]
 |(i,sh)::l=>(match sh,s.get i with
  | .sl _ _ t,.sl _ _ _ t'=>(t',t)::Yh s l
  |_,_=>Yh s l)
def eO:List (Key × OSh)->Key->Option OSh
 | [],_=>none
 |(j,x)::l,k=>if j=k then some x else eO l k
def q2f (s:S) (l:List (Key × OSh)) (b a:Key):List (Nat × Nat):=
 match eO l a,s.obj b with
 |some (.box sh),some (.box x)=>sh.un x
 |_,_=>[]
def unG (s:S) (l0:List (Key × OSh)):List (Key × OSh)->List (Nat × Nat)
 | []=>[]
 |(.g k,_)::l=>q2f s l0 (.g k) (.g k)++unG s l0 l
 |(.l _,_)::l=>unG s l0 l
def Yf (s:S) (l:List (Key × OSh)):Nat->List (Nat × Nat)->List (Nat × Nat)->List (Nat × Nat)
 |0,_,acc=>acc
 |_,[],acc=>acc
 |f+1,(b,a)::todo,acc=>(match look acc b with
  |some _=>Yf s l f todo acc
  |none=>Yf s l f (q2f s l (.l b) (.l a)++todo) ((b,a)::acc))
def QU:List (Nat × Nat)->Bool
 | []=>true
 |(a,b)::l=>bo a b&&QU l
def Nf (l:List (Nat × Nat)) (n:Nat):Nat:=(look l n).getD (n+1000000000)
def Ui (s:S):List (Nat × Sh)->Bool
 | []=>false
 |(i,sh)::l=>(match sh,s.get i with
  | .sl _ _ t,.ym=>s.known t||Ui s l
  | .sl _ _ t,.emp _ _=>s.known t||Ui s l
  |_,_=>Ui s l)
def XX (sh:SSh) (s:S):S:=
 match Yf s sh.loc 1000 (nF s sh.env++unG s sh.loc sh.loc) [],Yh s sh.env with
 |ps,ts=>bif QU ps&&QU ts&& !Ui s sh.env then s
  else bif Js (Nf ps) (Fh s.loc)&&Js (Nf ts) (Fq s.tk)then s.ren (Nf ps) (Nf ts)else s
mutual
def Sh.ad:Sh->V->List (Key × Nat)
 | .vec (.l a) _ _,.sr (.g b) _ _ _ _ _ _=>[(.g b,a+T0)]
 | .agg _ l,.agg _ xs=>Sh.ads l xs
 |_,_=>[]
def Sh.ads:List Sh->List V->List (Key × Nat)
 |s::l,x::xs=>s.ad x++Sh.ads l xs
 |_,_=>[]
end
def oJ (s:S):List (Nat × Sh)->List (Key × Nat)
 | []=>[]
 |(i,sh)::l=>sh.ad (s.get i)++oJ s l
def Ux (s:S):List (Key × OSh)->List (Key × Nat)
 | []=>[]
 |(k,.box sh)::l=>(match s.obj k with
  |some (.box x)=>sh.ad x++Ux s l
  |_=>Ux s l)
 |_::l=>Ux s l
def wR {α:Type}:List (Key × α)->List Key
 | []=>[]
 |(k,_)::l=>k::wR l
def ZE (ks:List Key):List (Key × Nat)->S->S
 | [],s=>s
 |(K,t)::l,s=>ZE ks l (QT K t ks s)
def oZ:List (Key × OSh)->Bool
 | []=>false
 |(_,.box (.arr _))::_=>true
 |_::l=>oZ l
def Yi (sh:SSh) (s:S):S:=
 match oZ sh.loc with
 |false=>s
 |true=>(match ZE (wR sh.loc) (oJ s sh.env++Ux s sh.loc) s with
  |s=>NI sh.loc (Uj sh.env s))
def JG {R:Type} (sh:SSh) (s:S) (K:List C->List Es->Option R):Option R:=
 frc (Jp sh s) fun s=>frc (Yi sh s) fun s=>frc (Jd sh.env (MK sh.loc (XX sh s))) fun s=>VX sh s K
def q4q {R:Type} (sh:SSh) (s:S) (K:List C->List Es->Option R):JG sh s K=VX sh (Jd sh.env (MK sh.loc (XX sh (Yi sh (Jp sh s))))) K:=by
 unfold JG;simp only[cH]
def WkA (s s':S):Prop:=s'.A=s.A/\∀(X:Cx) (n:Nat) (A':Key->Option O),leA s.A A'->DL X n (s.wA A') (s'.wA A')
def WkA.refl (s:S):WkA s s:=⟨rfl,fun _ _ _ _=>DL.refl _⟩
def WkA.trans {a b c} (h:WkA a b) (h':WkA b c):WkA a c:=
 ⟨h'.1.trans h.1,fun X n A' hA=>(h.2 X n A' hA).trans (h'.2 X n A' (by rw[h.1];exact hA))⟩
def Vh:∀(l:List (Key × OSh)) (s:S),WkA s (MK l s)
 | [],s=>WkA.refl s
 |(k,.box _)::l,s=>by
  simp only[MK];split
  ·rename_i x hx;exact WkA.trans (b:=s.put k (.box x.Dp)) ⟨rfl,fun X n A' hA=>z4K (Cs hA hx)⟩ (Vh l _)
  ·exact Vh l s
 |(_,.map _ _)::l,s|(_,.dead _)::l,s|(_,.it)::l,s=>Vh l s
def NG:∀(l:List (Nat × Sh)) (s:S),WkA s (Jd l s)
 | [],s=>WkA.refl s
 |(i,sh)::l,s=>by
  simp only[Jd];split
  ·rename_i eb e t
   have one:∀(hu:s.known t=false) (ht:s.get i= .ym\/s.get i= .emp eb e),WkA s (S.set {s with tk:=(t,some 0)::s.tk} (some i) (.sl eb e [] t)):=fun hu ht=>
    ⟨rfl,fun X n A' hA=>z4N (s:=s.wA A') hu ht⟩
   split
   ·rename_i hx;split
    ·rename_i hu;exact(one hu (.inl hx)).trans (NG l _)
    ·exact NG l s
   ·rename_i eb' e' hx;split
    ·rename_i hu;obtain⟨rfl,rfl,hu⟩:=hu;exact(one hu (.inr hx)).trans (NG l _)
    ·exact NG l s
   ·exact NG l s
  ·exact NG l s
def z0N (sh:SSh) (s:S):WkA s (XX sh s):=by
 unfold XX;dsimp only;generalize Yf s sh.loc 1000 (nF s sh.env++unG s sh.loc sh.loc) []=ps;generalize Yh s sh.env=ts;cases QU ps&&QU ts&& !Ui s sh.env
 ·cases hi:Js (Nf ps) (Fh s.loc)&&Js (Nf ts) (Fq s.tk)
  ·exact WkA.refl s
  ·simp only[bg]at hi;exact⟨rfl,fun X n A' _=>z4M (s:=s.wA A') _ _ hi.1 hi.2⟩
 ·exact WkA.refl s
def oO (ks:List Key):∀(l:List (Key × Nat)) (s:S),WkA s (ZE ks l s)
 | [],s=>WkA.refl s
 |(K,t)::l,s=>WkA.trans (b:=QT K t ks s) (q26 K t ks s) (oO ks l _)
def q3n {X} {n:Nat} {Γ0} {t:Nat} {e a w} {s:S} (ht:s.obj (.l t)=none) (h:At X n Γ0 s a w):At X n Γ0 (s.put (.l t) (.box (.d (.arr 0 e) (.agg [])))) a w:=by
 obtain⟨Γ,g1,g3,c,hs,hn,hf,hA⟩:=h;refine⟨Γ,g1,g3,⟨c.hH,c.hZ,c.hκ,fun j o hj=>?_,fun j hj=>?_,c.Jt (fun j hj=>?_),c.tok,c.zc,c.hgl,c.hoo,c.hσ⟩,hs,hn,hf,hA⟩
 ·rw[DG]at hj;split at hj
  ·rename_i e1;subst e1;cases hj;exact .inl ⟨c.QN ht,e,rfl⟩
  ·exact c.obj j o hj
 ·rw[DG];split
  ·simp
  ·exact c.dom j hj
 ·unfold S.BW at hj ⊢;rw[DG];split
  ·rename_i e1;subst e1;rw[ht]at hj;cases hj
  ·exact hj
def Yk:∀(l:List (Nat × Ty)) (s:S),WkA s (QL l s)
 | [],s=>WkA.refl s
 |(t,e)::l,s=>by
  simp only[QL];split
  ·rename_i h;have h':s.obj (.l t)=none:=by simpa using h
   exact WkA.trans (b:=s.put (.l t) (.box (.d (.arr 0 e) (.agg [])))) ⟨rfl,fun X n A' hA Γ0 a w hat=>q3n (s:=s.wA A') (by rw[LI];exact h') hat⟩ (Yk l _)
  ·exact Yk l s
def AG.Cl {Γ sh x v} (h:AG Γ x v):AG Γ (V.Cl sh x) v:=by
 by_cases hp:x.plain=true
 ·obtain⟨h1,h2⟩:=(BZ hp).1 h;exact(BZ (by rw[V.q2o];exact hp)).2 ⟨AA.Cl sh x h1,by rw[V.Ul];exact h2⟩
 ·have:V.Cl sh x=x:=by cases x <;> simp[V.plain]at hp <;> (unfold V.Cl;split <;> rfl)
  rw[this];exact h
def AG.Lg {Γ sh x v} (h:AG Γ x v):AG Γ (V.Lg sh x) v:=by
 unfold V.Lg;split
 ·have:=FV h;subst this;exact q0Q
 ·exact h.Cl
def nN:∀(l:List (Nat × Sh)) (s:S),WkA s (Uj l s)
 | [],s=>WkA.refl s
 |(i,sh)::l,s=>by
  simp only[Uj];split
  ·exact nN l s
  ·refine WkA.trans (b:=s.set (some i) (V.Lg sh (s.get i))) ⟨rfl,fun X n A' hA Γ0 a w hat=>?_⟩ (WkA.trans (Yk _ _) (nN l _));obtain⟨Γ,g1,g3,c,hs,hn,hf,hA⟩:=hat;refine⟨Γ,g1,g3,show AO Γ w ((s.wA A').set (some i) (V.Lg sh (s.get i))) from Ql c _ _,fun j=>?_,hn,hf,hA⟩;have hj:=hs j;show AG Γ (S.get (S.set (s.wA A') (some i) (V.Lg sh (s.get i))) j) _;rw[Jq];split
   ·rename_i e;cases e;exact AG.Lg hj
   ·exact hj
def Uk:∀(l:List (Key × OSh)) (s:S),WkA s (NI l s)
 | [],s=>WkA.refl s
 |(k,.box sh)::l,s=>by
  simp only[NI];split
  ·rename_i x hx;split
   ·exact Uk l s
   ·refine WkA.trans (b:=s.put k (.box (V.Cl sh x))) ⟨rfl,fun X n A' hA Γ0 a w hat=>?_⟩ (WkA.trans (Yk _ _) (Uk l _));obtain⟨Γ,g1,g3,c,hs,hn,hf,zk⟩:=hat;refine⟨Γ,g1,g3,c.lM (Cs hA hx) (fun yw=>?_) (fun hv=>?_),hs,hn,hf,zk⟩
    ·obtain⟨b,cells,T,h1,h2,h3,h4,h5,h6,h7,h8⟩:=yw;exact⟨b,cells,T,by rw[V.Ul];exact h1,h2,h3,h4,by rw[V.Ul];exact h5,by rw[V.Ul];exact AA.Cl sh x h6,by rw[V.q2o];exact h7,by rw[V.q2n];exact h8⟩
    ·obtain⟨e,rfl⟩:=hv;have:V.Cl sh (.d (.arr 0 e) (.agg []))= .d (.arr 0 e) (.agg []):=by unfold V.Cl;split <;> rfl
     rw[this];exact⟨e,rfl⟩
  ·exact Uk l s
 |(_,.map _ _)::l,s|(_,.dead _)::l,s|(_,.it)::l,s=>Uk l s
def z4D (sh:SSh) (s:S):WkA s (Yi sh s):=by
 unfold Yi;split
 ·exact WkA.refl s
 ·exact((oO _ _ s).trans (nN _ _)).trans (Uk _ _)
def q6q (sh:SSh) (s:S):WkA s (Jp sh s):=by
 refine⟨?_,fun X n A' hA Γ0 a w hat=>?_⟩
 ·unfold Jp;split
  ·rfl
  ·rw[(cJ _ _ _).2.2,(Ry _ _).2]
 ·rw[<-q6r];exact q3l hat
def nbV:V->V
 | .d τ c=>(match τ with
  | .bool=>.d .bool (.bool c.toBool)
  |τ=>.d τ c)
 |x=>x
def nbE:List (Nat × V)->List (Nat × V)
 | []=>[]
 |(i,x)::l=>(i,nbV x)::nbE l
def nbS (s:S):S:={s with env:=nbE s.env}
def q9p {Γ x v} (h:AG Γ x v):AG Γ (nbV x) v:=by
 cases x <;> (try exact h);rename_i τ c;cases τ <;> (try exact h);obtain⟨_,e⟩:=FU h;rw[e]at h;exact h
def yY:∀(l:List (Nat × V)) (i:Nat),look (nbE l) i=(look l i).map nbV
 | [],_=>rfl
 |(j,x)::l,i=>by
  simp only[nbE,look];by_cases e:j=i
  ·rw[if_pos e,if_pos e];rfl
  ·rw[if_neg e,if_neg e];exact yY l i
def y7 (s:S):WkA s (nbS s):=by
 refine⟨rfl,fun X n A' _=>?_⟩;rintro Γ0 a w ⟨Γ,g1,g3,c,hs,hn,hf,hA⟩;refine⟨Γ,g1,g3,c.env _,fun i=>?_,hn,hf,hA⟩;have:=hs i;have e:((nbS s).wA A').get i=nbV ((s.wA A').get i):=by
  show(look (nbE s.env) i).getD .any=nbV ((look s.env i).getD .any);rw[yY];cases look s.env i <;> rfl
 rw[e];exact q9p this
def Gc (sh:SSh) (A:Key->Option O) (ds:List C) (ms:List Es):S:=nbS (Jo sh A ds ms)
def Qj {R:Type} {r:R} {sh:SSh} {s:S} {K:List C->List Es->Option R} (h:JG sh s K=some r):∃ds ms,K ds ms=some r/\WkA s (Gc sh s.A ds ms):=by
 have key:∃ds ms,K ds ms=some r/\WkA s (Jo sh s.A ds ms):=by
  rw[q4q]at h;obtain⟨ds,ms,h1,h2⟩:=q4r h;have h3:=((((q6q sh s).trans (z4D sh _)).trans (z0N sh _)).trans (Vh sh.loc _)).trans (NG sh.env _);refine⟨ds,ms,h1,rfl,fun X n A' hA=>?_⟩;have:=(h3.2 X n A' hA).trans (h2 X n A' (by rw[h3.1];exact hA));exact this
 obtain⟨ds,ms,h1,h2⟩:=key;exact⟨ds,ms,h1,h2.trans (y7 _)⟩
def Sa (j:Nat):List Nat->List Nat
 | []=>[]
 |i::l=>if i=j then Sa j l else i::Sa j l
def fxS (t j:Nat) (s:S):S:=⟨Eh s (Sa t (slotsOf s.env)),GN s.loc (Sa j (Fh s.loc)) s.loc,s.A,DK s (Fq s.tk)⟩
def fxB (t j:Nat) (s:S):Bool:=
 Ka (fxS t j s).loc&&FD (Bb (fxS t j s).loc) (CS (fxS t j s).tk) (fxS t j s).loc&&IV (fxS t j s).loc s.loc&&JC (Bb (fxS t j s).loc) (CS (fxS t j s).tk) (fxS t j s).env&& !(Bb (fxS t j s).loc j)
def bZ (t:Nat) (s:S):S:=
 match s.get t with
 | .ptr (.l j) [] τ=>(match s.obj (.l j)with
  |some (.box x)=>(match Bl x with
   |some cc=>if x.ty=τ/\fxB t j s=true then(fxS t j s).set (some t) (.yn τ cc)else s
   |none=>s)
  |_=>s)
 |_=>s
def Zn (t:Nat) (s:S):S:=
 match s.get t with
 | .ptr k [] _=>(match s.obj k with
  |some (.box x)=>(match x with
   | .d _ _=>s
   |x=>(match Bl x with
    |some c=>s.put k (.box (.d x.ty c))
    |none=>s))
  |_=>s)
 |_=>s
def q31 (t:Nat) (s:S):WkA s (Zn t s):=by
 unfold Zn;split
 ·split
  ·rename_i x hx;split
   ·exact WkA.refl s
   ·split
    ·rename_i c hc;refine⟨rfl,fun X n A' hA Γ0 a w hat=>?_⟩;obtain⟨Γ,g1,g3,cc,hs,hn,hf,zk⟩:=hat;have hin:V.BA x (.d x.ty c):=by cases x <;> first|exact⟨hc,rfl⟩|(simp[Bl]at hc)
     refine⟨Γ,g1,g3,cc.lM (Cs hA hx) (fun yw=>?_) (fun hv=>?_),hs,hn,hf,zk⟩
     ·obtain⟨b,cells,T,h1,h2,h3,h4,h5,h6,h7,h8⟩:=yw;exact⟨b,cells,T,h1,h2,h3,h4,h5,by have:=(AA.BA _ _ hin h6).1;simp only[AA]at this ⊢;exact this,rfl,rfl⟩
     ·obtain⟨e,rfl⟩:=hv;simp only[Bl,Option.some.injEq]at hc;subst hc;exact⟨e,rfl⟩
    ·exact WkA.refl s
  ·exact WkA.refl s
 ·exact WkA.refl s
def dY (t:Nat) (s:S):S:=
 match s.get t with
 | .sr (.l j) [] lo n _ eb e=>(match s.obj (.l j)with
  |some (.box (.d (.arr M e') cc))=>if e'=e then({s with loc:=(.l j,.dead (.arr M e))::s.loc}:S).set (some t) (.d (.slice eb e) (.slice ((cc.elems.drop lo).take n)))else s
  |_=>s)
 |_=>s
def q8l (t:Nat) (s:S):WkA s (dY t s):=by
 unfold dY;split
 ·rename_i j lo n cp eb e hs;split
  ·rename_i M e' cc ho;split
   ·rename_i he;subst he;refine⟨rfl,fun X n' A' hA Γ0 a w hat=>?_⟩;obtain⟨Γ,g1,g3,c,hsl,hn,hf,zk⟩:=hat;obtain⟨Γ',gle,p,c',h⟩:=c.yB (show(s.wA A').obj (.l j)=some (.box (.d (.arr M _) cc)) from ho);have za:=hsl t;rw[show(s.wA A').get t=_ from hs]at za;have hv:=h za;refine⟨Γ',g1.trans gle,gle.gl.trans g3,Ql (s:=(({s with loc:=(.l j,.dead (.arr M _))::s.loc}:S).wA A')) c' (some t) _,fun i=>?_,hn,hf,zk⟩;rw[show((({s with loc:=(.l j,.dead (.arr M _))::s.loc}:S).set (some t) (.d (.slice eb _) (.slice ((cc.elems.drop lo).take n)))).wA A').get i=(({s with loc:=(.l j,.dead (.arr M _))::s.loc}:S).set (some t) (.d (.slice eb _) (.slice ((cc.elems.drop lo).take n)))).get i from rfl,Jq];split
    ·rename_i hi;cases hi;exact hv
    ·exact(hsl i).BL p
   ·exact WkA.refl s
  ·exact WkA.refl s
 ·exact WkA.refl s
def OV:List (Nat × Nat)->S->S
 | [],s=>s
 |(t,m)::l,s=>OV l (if m=6 then bZ t s else if m=16 then Zn t s else if m=17 then dY (t-1000000) s else s)
def q6f (t:Nat) (s:S):WkA s (bZ t s):=by
 unfold bZ;split
 ·rename_i j τ hs;split
  ·rename_i x hx;split
   ·rename_i cc hcc;split
    ·rename_i h;obtain⟨hτ,h⟩:=h;simp only[fxB,bg,Bool.not_eq_true']at h;obtain⟨⟨⟨⟨h1,h2⟩,h3⟩,h4⟩,h5⟩:=h;refine⟨rfl,fun X n A' hA=>?_⟩;have zq:∀l,Eh (s.wA A') l=Eh s l:=by
      intro l
      induction l with
      |nil=>rfl
      |cons i l ih=>simp only[Eh,ih];rfl
     have htk:∀l,DK (s.wA A') l=DK s l:=by
      intro l
      induction l with
      |nil=>rfl
      |cons i l ih=>simp only[DK,ih];rfl
     exact z4L (s:=s.wA A') (s':=(fxS t j s).wA A') hs (Cs hA hx) hcc hτ h5 rfl (Kz (s:=s.wA A') _ h1) h2 (NY h3)
      (by show tkW (s.wA A') (DK s (Fq s.tk));rw[<-htk];exact Yc)
      (by
       have h4':JC (Bb (fxS t j s).loc) (CS (fxS t j s).tk) (Eh (s.wA A') (Sa t (slotsOf s.env)))=true:=by rw[zq];exact h4
       have:=bK h4';rw[zq]at this;exact this)
    ·exact WkA.refl s
   ·exact WkA.refl s
  ·exact WkA.refl s
 ·exact WkA.refl s
def RP:∀(l:List (Nat × Nat)) (s:S),WkA s (OV l s)
 | [],s=>WkA.refl s
 |(t,m)::l,s=>by
  simp only[OV];split
  ·exact(q6f t s).trans (RP l _)
  ·split
   ·exact(q31 t s).trans (RP l _)
   ·split
    ·exact(q8l _ s).trans (RP l _)
    ·exact RP l s
section
abbrev KD (R:Type):=List C->List Es->Option R
def yK {α:Type} (_:String) (a:α):∃b,b=a:=⟨a,rfl⟩
def lid {α:Type} (n:String) (a:α):α:=Classical.choose (yK n a)
def AV {α:Type} (n:String) (a:α):lid n a=a:=Classical.choose_spec (yK n a)
def jn {R:Type}:KD R->(KD R->Option R)->Option R:=lid "" fun k b=>b k
def AQ {R:Type} (k:KD R) (b:KD R->Option R):jn k b=b k:=by unfold jn;rw[AV]
def zG {R:Type}:Nat->(KD R->List C->List Es->Option R)->List C->List Es->Option R
 |0,_,_,_=>none
 |n+1,F,ds,ms=>F (zG n F) ds ms
def Ac {R:Type}:Nat->(KD R->List C->List Es->Option R)->List C->List Es->Option R:=lid "" zG
def zK {R:Type} (F:KD R->List C->List Es->Option R) (ds:List C) (ms:List Es):Ac 0 F ds ms=none:=by unfold Ac;rw[AV];rfl
def Bm {R:Type} (n:Nat) (F:KD R->List C->List Es->Option R) (ds:List C) (ms:List Es):Ac (n+1) F ds ms=F (Ac n F) ds ms:=by unfold Ac;rw[AV];rfl
abbrev Hints:=List (List Nat × Hint)
def MO:Hints->List Nat->Option Hint
 | [],_=>none
 |(q,h)::l,p=>if q=p then some h else MO l p
def exJ {R:Type} (h:Option Hint) (s:S) (K:S->Option R) (body:(S->Option R)->Option R):Option R:=
 match h with
 |none=>body K
 |some h=>RS (fH h s) fun sh=>jn (fun ds ms=>K (Gc sh s.A ds ms)) fun k=>body fun s1=>JG sh s1 k
def Vp {R:Type} {r:R} {h:Option Hint} {s:S} {K:S->Option R} {body:(S->Option R)->Option R} {P:S->Prop} {G:Prop} (hP:∀s1 s2,P s1->WkA s1 s2->P s2) (hA:∀s1,P s1->s1.A=s.A) (hj:exJ h s K body=some r)
  (hb:∀k:S->Option R,body k=some r->(∃s1,k s1=some r/\P s1)\/G):(∃s2,K s2=some r/\P s2)\/G:=by
 unfold exJ at hj;split at hj
 ·exact hb _ hj
 ·rename_i h';rw[cE,AQ]at hj;rcases hb _ hj with⟨s1,h1,h2⟩|hg
  ·obtain⟨ds,ms,h3,h4⟩:=Qj h1;rw[hA s1 h2]at h4;exact .inl ⟨_,h3,hP _ _ h2 h4⟩
  ·exact .inr hg
def Ig:Code->Option (List Code × Nat × Code)
 | .seq a b=>(match a with
  | .label l=>some ([],l,b)
  |a=>(match Ig b with
   |some x=>some (a::x.1,x.2)
   |none=>none))
 |_=>none
def Wv (l:Nat):List Code->Bool
 | []=>true
 |a::as=>(match findLabel a l with
  |some _=>false
  |none=>Wv l as)
def vV:∀(c:Code) {as r} {l:Nat},Ig c=some (as,l,r)->Wv l as=true->findLabel c l=some (.seq .skip r)
 | .seq a b,as,r,l,h,hn=>by
  unfold Ig at h;split at h
  ·cases h;simp[findLabel]
  ·split at h
   ·rename_i x hx;obtain⟨as',l',r'⟩:=x;cases h;simp only[Wv]at hn;simp only[findLabel];cases ha:findLabel a l with
    |some y=>rw[ha]at hn;cases hn
    |none=>rw[ha]at hn;exact vV b hx hn
   ·cases h
 | .skip,_,_,_,h,_| .region _ _ _,_,_,_,h,_| .cond _ _ _,_,_,_,h,_| .block _ _,_,_,_,h,_| .loop _,_,_,_,h,_| .exit _,_,_,_,h,_| .scope _,_,_,_,h,_| .label _,_,_,_,h,_| .goto _,_,_,_,h,_| .ret,_,_,_,h,_| .rangeFunc _ _ _ _,_,_,_,h,_| .refuse _,_,_,_,h,_=>by simp[Ig]at h
def Vq {R:Type} (run:List Nat->Code->S->KE R->Option R):List Code->List Nat->S->(S->Option R)->KE R->Option R
 | [],_,s,k,_=>k s
 |a::l,p,s,k,K=>run (0::p) a s fun e s1=>match e with
  | .normal=>frc s1 fun s1=>Vq run l (1::p) s1 k K
  |e=>K e s1
def exC {R:Type} (X:Cx) (call:Dk R) (ext:DV) (tbl:Nat->List (Nat × Nat)) (hs:Hints) (N:Nat) (n:Nat):Nat->List Nat->Code->S->KE R->Option R
 |0,_,_,_,_=>none
 |f+1,p,c,s,K=>match c with
  | .skip=>K .normal s
  | .region id ops draw=>exJ (MO hs p) (OV (tbl id) s) (fun s=>K .normal s) fun k=>bB X call ext (tbl id) n ops.toList draw (OV (tbl id) s) k
  | .seq a b=>exC X call ext tbl hs N n f (0::p) a s fun e s1=>match e with
    | .normal=>frc s1 fun s1=>exC X call ext tbl hs N n f (1::p) b s1 K
    |e=>K e s1
  | .cond (.tmp t) a b=>exJ (MO hs p) s (fun s=>K .normal s) fun k=>(match s.get t with
    | .d .bool c=>bif c.toBool then exC X call ext tbl hs N n f (2::p) a (s.lit t c true) fun e s1=>(match e with
      | .normal=>k s1
      |e=>K e s1)else exC X call ext tbl hs N n f (3::p) b (s.lit t c false) fun e s1=>(match e with
      | .normal=>k s1
      |e=>K e s1)
    |_=>none)
  | .block id a=>exJ (MO hs p) s (fun s=>K .normal s) fun k=>exC X call ext tbl hs N n f (4::p) a s fun e s1=>match e with
     | .exit i=>if i=id then k s1 else K (.exit i) s1
     | .normal=>k s1
     |e=>K e s1
  | .loop a=>(match MO hs p with
    |none=>RB (exC X call ext tbl hs N n f (5::p) a) (slotsOf s.env) f s K
    |some h=>RS (fH h s) fun sh=>JG sh s fun ds ms=>Ac N (fun rec ds ms=>exC X call ext tbl hs N n f (5::p) a (Gc sh s.A ds ms) fun e s1=>match e with
      | .normal=>JG sh s1 rec
      |e=>K e s1) ds ms)
  | .exit id=>K (.exit id) s
  | .scope a=>(match MO hs p with
    |none=>exC X call ext tbl hs N n f (6::p) a s fun e s1=>match e with
     | .goto _=>none
     |e=>K e s1
    |some h=>(match Ig a with
     |some (as,l,rest)=>if Wv l as=true then Vq (exC X call ext tbl hs N n f) as (6::p) s
       (fun s1=>RS (fH h s1) fun sh=>JG sh s1 fun ds ms=>Ac N (fun rec ds ms=>exC X call ext tbl hs N n f (7::p) rest (Gc sh s1.A ds ms) fun e s2=>match e with
        | .goto l'=>if l'=l then JG sh s2 rec else none
        |e=>K e s2) ds ms)
       (fun e s1=>match e with
        | .goto _=>none
        |e=>K e s1)else none
     |none=>none))
  | .label _=>K .normal s
  | .goto l=>K (.goto l) s
  | .ret=>K .ret s
  |_=>none
def Way (X:Cx) (n:Nat) (c:Code) (s:S) (e:Exit) (s':S):Prop:=
 s'.A=s.A/\∀A',leA s.A A'->∀Ψ:Exit->S->Prop,Ψ e (s'.wA A')->DC X n c (s.wA A') Ψ
def Way.Li {X} {n:Nat} {c s s1 s2 e} (h:Way X n c s e s1) (hw:WkA s1 s2):Way X n c s e s2:=by
 refine⟨hw.1.trans h.1,fun A' hA Ψ hΨ=>?_⟩;refine(h.2 A' hA (fun e1 s3=>e1=e/\s3=s1.wA A') ⟨rfl,rfl⟩).post ?_;rintro e1 s3 ⟨rfl,rfl⟩;exact⟨_,hw.2 X n A' (by rw[h.1];exact hA),hΨ⟩
section
variable {X:Cx} {R:Type} {call:Dk R} {ext:DV} (hP:Aq X.P=true) (hmo:X.P.follows .mixedOrders=true) (hc:Iz X call) (he:IM X ext)
def zI {c:Code} {n:Nat} {sh:SSh} {A0:Key->Option O} {body:S->KE R->Option R} {K:KE R} {r:R} (hb:∀s (K:KE R),body s K=some r->Ll X n c s r K):
  ∀(N:Nat) (ds:List C) (ms:List Es),Ac N (fun rec ds ms=>body (Gc sh A0 ds ms) fun e s1=>match e with
      | .normal=>JG sh s1 rec
      |e=>K e s1) ds ms=some r->∃e s',K e s'=some r/\s'.A=A0/\∀A',leA A0 A'->∀Ψ:Exit->S->Prop,Ψ e (s'.wA A')->∀(Γ0:G) (a:Act) (w:World),At X n Γ0 ((Gc sh A0 ds ms).wA A') a w->Code.rounds X.P c (fun e a w=>∃s',Ψ e s'/\At X n Γ0 s' a w) N a w
 |0,ds,ms,h=>by simp[zK]at h
 |N+1,ds,ms,h=>by
  simp only[Bm]at h;obtain⟨e0,s1,h1,hA1,hD⟩:=hb _ _ h;have z56:∀(hne:e0≠.normal),K e0 s1=some r->∃e s',K e s'=some r/\s'.A=A0/\∀A',leA A0 A'->∀Ψ:Exit->S->Prop,Ψ e (s'.wA A')->∀(Γ0:G) (a:Act) (w:World),At X n Γ0 ((Gc sh A0 ds ms).wA A') a w->Code.rounds X.P c (fun e a w=>∃s',Ψ e s'/\At X n Γ0 s' a w) (N+1) a w:=by
   intro hne h1;refine⟨e0,s1,h1,hA1,fun A' hA Ψ hΨ Γ0 a w hat=>?_⟩;rw[rounds_succ];refine wp_mono (hD A' hA (fun e1 s2=>e1=e0/\s2=s1.wA A') ⟨rfl,rfl⟩ Γ0 a w hat) ?_;rintro e1 a1 w1 ⟨s2,⟨rfl,rfl⟩,z5V⟩;cases e1 with
   |normal=>exact absurd rfl hne
   |exit _|goto _|ret|panic _|outgrown=>exact⟨_,hΨ,z5V⟩
  cases e0 with
  |normal=>
   obtain⟨ds',ms',h3,hw⟩:=Qj h1;rw[show s1.A=A0 from hA1]at hw;obtain⟨e,s',h4,h5,h6⟩:=zI hb N ds' ms' h3;refine⟨e,s',h4,h5,fun A' hA Ψ hΨ Γ0 a w hat=>?_⟩;rw[rounds_succ];refine wp_mono (hD A' hA (fun e1 s2=>e1= .normal/\s2=s1.wA A') ⟨rfl,rfl⟩ Γ0 a w hat) ?_;rintro e1 a1 w1 ⟨s2,⟨rfl,rfl⟩,z5V⟩;exact h6 A' hA Ψ hΨ Γ0 a1 w1 (hw.2 X n A' (by rw[show s1.A=A0 from hA1];exact hA) Γ0 a1 w1 z5V)
  |exit _|goto _|ret|panic _|outgrown=>exact z56 (by simp) h1
def tU {n:Nat} {r run} (zi:∀p c s (K:KE R),run p c s K=some r->Ll X n c s r K):∀(as:List Code) (p:List Nat) (s:S) (k:S->Option R) (K:KE R),Vq run as p s k K=some r->
  (∃s1,k s1=some r/\s1.A=s.A/\∀c l rest,Ig c=some (as,l,rest)->∀A',leA s.A A'->∀Ψ:Exit->S->Prop,DC X n rest (s1.wA A') Ψ->DC X n c (s.wA A') Ψ)\/
  (∃e s1,e≠.normal/\K e s1=some r/\s1.A=s.A/\∀c l rest,Ig c=some (as,l,rest)->∀A',leA s.A A'->∀Ψ:Exit->S->Prop,Ψ e (s1.wA A')->DC X n c (s.wA A') Ψ)
 | [],p,s,k,K,h=>by
  refine .inl ⟨s,h,rfl,fun c l rest hc A' hA Ψ hd=>?_⟩;cases c <;> simp only[Ig,reduceCtorEq]at hc;rename_i a b;split at hc
  ·cases hc;exact EU (rK hd)
  ·split at hc
   ·cases hc
   ·cases hc
 |a::as,p,s,k,K,h=>by
  simp only[Vq]at h;obtain⟨e,s1,h1,a1,d1⟩:=zi _ _ _ _ h;have inv:∀c l rest,Ig c=some (a::as,l,rest)->∃b,c= .seq a b/\Ig b=some (as,l,rest):=by
   intro c l rest hc;cases c <;> simp only[Ig,reduceCtorEq]at hc;split at hc
   ·cases hc
   ·split at hc
    ·rename_i x hx;obtain⟨x1,x2⟩:=x;cases hc;exact⟨_,rfl,hx⟩
    ·cases hc
  cases e with
  |normal=>
   rcases tU zi as (1::p) s1 k K (by dsimp only at h1;rw[cH]at h1;exact h1)with⟨s2,h2,a2,d2⟩|⟨e,s2,hne,h2,a2,d2⟩
   ·refine .inl ⟨s2,h2,a2.trans a1,fun c l rest hc A' hA Ψ hd=>?_⟩;obtain⟨b,rfl,hb⟩:=inv c l rest hc;exact EU (d1 A' hA _ (d2 b l rest hb A' (by rw[a1];exact hA) Ψ hd))
   ·refine .inr ⟨e,s2,hne,h2,a2.trans a1,fun c l rest hc A' hA Ψ hd=>?_⟩;obtain⟨b,rfl,hb⟩:=inv c l rest hc;exact EU (d1 A' hA _ (d2 b l rest hb A' (by rw[a1];exact hA) Ψ hd))
  |exit _|goto _|ret|panic _|outgrown=>
   refine .inr ⟨_,s1,by simp,h1,a1,fun c l rest hc A' hA Ψ hd=>?_⟩;obtain⟨b,rfl,hb⟩:=inv c l rest hc;exact EU (d1 A' hA _ hd)
def Ends (X:Cx) (n:Nat) (l:Nat) (rest:Code) (sh:SSh) (A0:Key->Option O) (e:Exit) (s':S):Nat->List C->List Es->Prop
 |0,_,_=>False
 |m+1,ds,ms=>∃e2 s2,Way X n rest (Gc sh A0 ds ms) e2 s2/\((e2= .goto l/\∃ds' ms',WkA s2 (Gc sh A0 ds' ms')/\Ends X n l rest sh A0 e s' m ds' ms')\/((∀l',e2≠.goto l')/\e2=e/\s2=s'))
def q1r {n l:Nat} {rest:Code} {sh:SSh} {A0:Key->Option O} {body:S->KE R->Option R} {K:KE R} {r:R} (hb:∀s (K:KE R),body s K=some r->Ll X n rest s r K):
  ∀(N:Nat) (ds:List C) (ms:List Es),Ac N (fun rec ds ms=>body (Gc sh A0 ds ms) fun e s2=>match e with
      | .goto l'=>if l'=l then JG sh s2 rec else none
      |e=>K e s2) ds ms=some r->∃e s',K e s'=some r/\s'.A=A0/\(∀l',e≠.goto l')/\Ends X n l rest sh A0 e s' N ds ms
 |0,ds,ms,h=>by simp[zK]at h
 |N+1,ds,ms,h=>by
  rw[Bm]at h;obtain⟨e0,s1,h1,a1,d1⟩:=hb _ _ h;have a1:s1.A=A0:=a1;cases e0 with
  |goto l'=>
   dsimp only at h1;by_cases hl:l'=l
   ·rw[if_pos hl]at h1;subst hl;obtain⟨ds',ms',h2,hw⟩:=Qj h1;rw[a1]at hw;obtain⟨e,s',h3,h4,h5,h6⟩:=q1r hb N ds' ms' h2;exact⟨e,s',h3,h4,h5,_,s1,⟨a1,d1⟩,.inl ⟨rfl,ds',ms',hw,h6⟩⟩
   ·rw[if_neg hl]at h1;cases h1
  |normal|exit _|ret|panic _|outgrown=>
   exact⟨_,s1,h1,a1,by simp,_,s1,⟨a1,d1⟩,.inr ⟨by simp,rfl,rfl⟩⟩
def z3J {n l:Nat} {c rest sh A0 e} {s':S} (hf:findLabel c l=some (.seq .skip rest)) {N:Nat} {ds ms} (hE:Ends X n l rest sh A0 e s' N ds ms) {A'} (hA:leA A0 A') {s0}
  (first:∀Ψ:Exit->S->Prop,DC X n rest ((Gc sh A0 ds ms).wA A') Ψ->DC X n c s0 Ψ) {Ψ:Exit->S->Prop} (hΨ:Ψ e (s'.wA A')):DC X n (.scope c) s0 Ψ:=by
 have pass:∀i:{x:Nat × List C × List Es // Ends X n l rest sh A0 e s' x.1 x.2.1 x.2.2},DC X n rest ((Gc sh A0 i.1.2.1 i.1.2.2).wA A') fun e2 s2=>match e2 with
   | .goto l'=>l'=l/\∃j:{x:Nat × List C × List Es // Ends X n l rest sh A0 e s' x.1 x.2.1 x.2.2},DL X n s2 ((Gc sh A0 j.1.2.1 j.1.2.2).wA A')/\j.1.1<i.1.1
   |e2=>Ψ e2 s2:=by
  rintro⟨⟨m,ds,ms⟩,h⟩;cases m with
  |zero=>exact h.elim
  |succ m=>
   obtain⟨e2,s2,hw,h1⟩:=h;refine hw.2 A' hA _ ?_;rcases h1 with⟨rfl,ds',ms',hwk,hE'⟩|⟨hne,rfl,rfl⟩
   ·exact⟨rfl,⟨⟨m,ds',ms'⟩,hE'⟩,hwk.2 X n A' (by rw[hw.1];exact hA),Nat.lt_succ_self m⟩
   ·cases e2 with
    |goto l'=>exact absurd rfl (hne l')
    |normal|exit _|ret|panic _|outgrown=>exact hΨ
 refine q4F l hf (fun i=>(Gc sh A0 i.1.2.1 i.1.2.2).wA A') (fun i=>i.1.1) ?_ (fun i=>EU (Ns (pass i)));refine first _ ((pass ⟨⟨N,ds,ms⟩,hE⟩).post ?_)
 intro e2 s2 h;refine⟨s2,DL.refl _,?_⟩;cases e2 with
 |goto l'=>exact⟨h.1,h.2.choose,h.2.choose_spec.1⟩
 |normal|exit _|ret|panic _|outgrown=>exact h
include hP hmo hc he
def tT {tbl:Nat->List (Nat × Nat)} {hs:Hints} {N n:Nat} {r:R}:∀(f:Nat) (p:List Nat) (c:Code) (s:S) (K:KE R),exC X call ext tbl hs N n f p c s K=some r->Ll X n c s r K
 |0,p,c,s,K,h=>by simp[exC]at h
 |f+1,p,c,s,K,h=>by
  have IH:=tT (tbl:=tbl) (hs:=hs) (N:=N) (n:=n) (r:=r) f;cases c with
  |skip=>exact⟨_,_,h,rfl,fun A' hA Ψ hΨ=>Ns hΨ⟩
  |region id ops draw=>
   simp only[exC]at h;have hw:=RP (tbl id) s;have:=Vp (P:=fun s1=>Way X n (.region id ops draw) (OV (tbl id) s) .normal s1) (G:=False) (fun s1 s2 h1 h2=>h1.Li h2) (fun s1 h=>h.1) h fun k hk=>by
    obtain⟨s',h1,h2,h3⟩:=q5M hP hmo hc he (id:=id) hk;refine .inl ⟨s',h1,h2,fun A' hA Ψ hΨ=>?_⟩;have:=h3 A' hA Ψ hΨ;simpa using this
   rcases this with⟨s2,h1,h2⟩|h
   ·exact⟨_,s2,h1,h2.1.trans hw.1,fun A' hA Ψ hΨ=>DC.Li (hw.2 X n A' hA) (h2.2 A' (by rw[hw.1];exact hA) Ψ hΨ)⟩
   ·exact h.elim
  |seq c1 c2=>
   simp only[exC]at h;obtain⟨e0,s1,h1,a1,d1⟩:=IH _ c1 s _ h;cases e0 with
   |normal=>
    obtain⟨e2,s2,h2,a2,d2⟩:=IH (1::p) c2 s1 K (by dsimp only at h1;rw[cH]at h1;exact h1);exact⟨e2,s2,h2,a2.trans a1,fun A' hA Ψ hΨ=>EU (d1 A' hA _ (d2 A' (by rw[a1];exact hA) Ψ hΨ))⟩
   |exit _|goto _|ret|panic _|outgrown=>exact⟨_,s1,h1,a1,fun A' hA Ψ hΨ=>EU (d1 A' hA _ hΨ)⟩
  |cond t c1 c2=>
   cases t with
   |tmp t=>
    simp only[exC]at h;have:=Vp (P:=fun s1=>Way X n (.cond (.tmp t) c1 c2) s .normal s1) (G:=Ll X n (.cond (.tmp t) c1 c2) s r K) (fun s1 s2 h1 h2=>h1.Li h2) (fun s1 h=>h.1) h fun k hk=>by
     split at hk
     ·rename_i v hv;cases hb:v.toBool with
      |true=>
       rw[hb]at hk;simp only[cond_true]at hk;rw[eB hv hb]at hk;obtain⟨e2,s2,h2,a2,d2⟩:=IH _ c1 s _ hk;have w2:Way X n (.cond (.tmp t) c1 c2) s e2 s2:=⟨a2,fun A' hA Ψ hΨ=>rI hv (fun _=>d2 A' hA Ψ hΨ) (fun h=>by rw[hb]at h;cases h)⟩;cases e2 with
       |normal=>exact .inl ⟨s2,h2,w2⟩
       |exit _|goto _|ret|panic _|outgrown=>exact .inr ⟨_,s2,h2,w2⟩
      |false=>
       rw[hb]at hk;simp only[cond_false]at hk;rw[eB hv hb]at hk;obtain⟨e2,s2,h2,a2,d2⟩:=IH _ c2 s _ hk;have w2:Way X n (.cond (.tmp t) c1 c2) s e2 s2:=⟨a2,fun A' hA Ψ hΨ=>rI hv (fun h=>by rw[hb]at h;cases h) (fun _=>d2 A' hA Ψ hΨ)⟩;cases e2 with
       |normal=>exact .inl ⟨s2,h2,w2⟩
       |exit _|goto _|ret|panic _|outgrown=>exact .inr ⟨_,s2,h2,w2⟩
     ·cases hk
    rcases this with⟨s2,h1,h2⟩|h
    ·exact⟨_,s2,h1,h2⟩
    ·exact h
   |const _|global _|func _=>simp[exC]at h
  |block id c1=>
   simp only[exC]at h;have:=Vp (P:=fun s1=>Way X n (.block id c1) s .normal s1) (G:=Ll X n (.block id c1) s r K) (fun s1 s2 h1 h2=>h1.Li h2) (fun s1 h=>h.1) h fun k hk=>by
    obtain⟨e0,s1,h1,a1,d1⟩:=IH _ c1 s _ hk;cases e0 with
    |exit i=>
     dsimp only at h1;by_cases hi:i=id
     ·rw[if_pos hi]at h1;refine .inl ⟨s1,h1,a1,fun A' hA Ψ hΨ=>VY (d1 A' hA _ ?_)⟩;simp only;rw[if_pos hi];exact hΨ
     ·rw[if_neg hi]at h1;refine .inr ⟨_,s1,h1,a1,fun A' hA Ψ hΨ=>VY (d1 A' hA _ ?_)⟩;simp only;rw[if_neg hi];exact hΨ
    |normal=>exact .inl ⟨s1,h1,a1,fun A' hA Ψ hΨ=>VY (d1 A' hA _ hΨ)⟩
    |goto _|ret|panic _|outgrown=>exact .inr ⟨_,s1,h1,a1,fun A' hA Ψ hΨ=>VY (d1 A' hA _ hΨ)⟩
   rcases this with⟨s2,h1,h2⟩|h
   ·exact⟨_,s2,h1,h2⟩
   ·exact h
  |loop c1=>
   simp only[exC]at h;split at h
   ·obtain⟨e,s',h1,h2,h3⟩:=sR (fun s K h=>IH _ c1 s K h) f s K h;exact⟨e,s',h1,h2,fun A' hA Ψ hΨ Γ0 a w hat=>wp_loop_rounds f (h3 A' hA Ψ hΨ Γ0 a w hat)⟩
   ·rename_i hh;rw[cE]at h;obtain⟨ds,ms,h1,hw⟩:=Qj h;obtain⟨e,s',h4,h5,h6⟩:=zI (c:=c1) (body:=exC X call ext tbl hs N n f (5::p) c1) (fun s K h=>IH _ c1 s K h) N ds ms h1;exact⟨e,s',h4,h5,fun A' hA Ψ hΨ Γ0 a w hat=>wp_loop_rounds N (h6 A' hA Ψ hΨ Γ0 a w (hw.2 X n A' hA Γ0 a w hat))⟩
  |exit id=>exact⟨_,_,h,rfl,fun A' hA Ψ hΨ=>q4D hΨ⟩
  |scope c1=>
   simp only[exC]at h;split at h
   ·obtain⟨e0,s1,h1,a1,d1⟩:=IH _ c1 s _ h;cases e0 with
    |goto i=>cases h1
    |normal|exit _|ret|panic _|outgrown=>exact⟨_,s1,h1,a1,fun A' hA Ψ hΨ=>rL (d1 A' hA _ hΨ)⟩
   ·rename_i hh _;split at h
    ·rename_i as l rest hd;simp only[ax]at h;obtain⟨hnl,h⟩:=h;rcases tU (fun p c s K h=>IH p c s K h) as _ s _ _ h with⟨s1,h1,a1,d1⟩|⟨e,s1,hne,h1,a1,d1⟩
     ·rw[cE]at h1;obtain⟨ds,ms,h2,hw⟩:=Qj h1;obtain⟨e,s',h3,h4,h5,h6⟩:=q1r (rest:=rest) (body:=exC X call ext tbl hs N n f (7::p) rest) (fun s K h=>IH _ rest s K h) N ds ms h2;refine⟨e,s',h3,h4.trans a1,fun A' hA Ψ hΨ=>?_⟩;exact z3J (vV _ hd hnl) h6 (by rw[a1];exact hA) (fun Ψ' hd'=>d1 c1 l rest hd A' hA Ψ' (DC.Li (hw.2 X n A' (by rw[a1];exact hA)) hd')) hΨ
     ·cases e with
      |goto i=>cases h1
      |normal|exit _|ret|panic _|outgrown=>exact⟨_,s1,h1,a1,fun A' hA Ψ hΨ=>rL (d1 c1 l rest hd A' hA _ hΨ)⟩
    ·cases h
  |label _=>exact⟨_,_,h,rfl,fun A' hA Ψ hΨ=>rK hΨ⟩
  |goto _=>exact⟨_,_,h,rfl,fun A' hA Ψ hΨ=>q4E hΨ⟩
  |ret=>exact⟨_,_,h,rfl,fun A' hA Ψ hΨ=>MG hΨ⟩
  |rangeFunc _ _ _ _=>simp[exC]at h
  |refuse _=>simp[exC]at h
end
def exF {R:Type} (X:Cx) (ov:OvK R) (ext:DV) (tbl:FuncId->Nat->List (Nat × Nat)) (hs:FuncId->Hints) (N fuel:Nat):Nat->Dk R
 |0,_,_,_,_=>none
 |d+1,f,xs,A,K=>match ov f with
  |some g=>g xs A K
  |none=>(match X.P.funcs[f]? with
   |some fn=>(match fn.body with
    |some c=>if xs.length<=fn.ntmps then exJ (MO (hs f) [9]) (kf xs A) (fun s=>sT X fn s K) fun k=>exC X (exF X ov ext tbl hs N fuel d) ext (tbl f) (hs f) N fn.ntmps fuel [] c (nbS (kf xs A)) fun e s=>(match e with
       | .normal=>k s
       | .ret=>k s
       |_=>none)else none
    |none=>none)
   |none=>none)
section
variable {X:Cx} {R:Type} {ov:OvK R} {ext:DV} (hP:Aq X.P=true) (hmo:X.P.follows .mixedOrders=true) (hov:Yx X ov) (he:IM X ext)
include hP hmo hov he
def Vo {tbl:FuncId->Nat->List (Nat × Nat)} {hs:FuncId->Hints} {N fuel:Nat}:∀d,Iz X (exF X ov ext tbl hs N fuel d)
 |0=>by intro f xs A K r h;simp[exF]at h
 |d+1=>by
  intro f xs A K r h;simp only[exF]at h;split at h
  ·rename_i g hg;exact hov f g hg xs A K r h
  split at h
  ·rename_i fn hf;split at h
   ·rename_i c hb;simp only[ax]at h;obtain⟨hl,h⟩:=h;have:=Vp (P:=fun s1=>∃e:Exit,(e= .normal\/e= .ret)/\Way X fn.ntmps c (kf xs A) e s1) (G:=False) (fun s1 s2 ⟨e,h1,h2⟩ h3=>⟨e,h1,h2.Li h3⟩) (fun s1 ⟨e,_,h⟩=>h.1) h fun k hk=>by
     obtain⟨e,s',h1,h2⟩:=tT hP hmo (Vo d) he fuel [] c (nbS (kf xs A)) _ hk;have h2:Way X fn.ntmps c (kf xs A) e s':=⟨h2.1,fun A' hA Ψ hΨ=>DC.Li ((y7 (kf xs A)).2 X fn.ntmps A' hA) (h2.2 A' hA Ψ hΨ)⟩;cases e with
     |normal=>exact .inl ⟨s',h1,_,.inl rfl,h2⟩
     |ret=>exact .inl ⟨s',h1,_,.inr rfl,h2⟩
     |exit _|goto _|panic _|outgrown=>cases h1
    rcases this with⟨s',h1,e,he',h2,h3⟩|h
    ·obtain⟨v,L,h4,h5⟩:=q5N h1;refine⟨v,L,aI hP hf hb rfl hl fun A' hA=>?_,h4⟩;exact h3 A' hA (fun e s'=>(e= .normal\/e= .ret)/\Jb X fn A' v L s') ⟨he',h5 A' (by rw[h2];exact hA)⟩
    ·exact h.elim
   ·cases h
  ·cases h
end
end
def IJ (a b k:Key):Key:=if k=a then b else if k=b then a else k
def QI (a b k:Key):IJ a b (IJ a b k)=k:=by
 unfold IJ;by_cases h1:k=a
 ·subst h1;rw[if_pos rfl];by_cases h2:b=k
  ·rw[if_pos h2];exact h2
  ·rw[if_neg h2,if_pos rfl]
 ·rw[if_neg h1];by_cases h2:k=b
  ·subst h2;rw[if_pos rfl,if_pos rfl]
  ·rw[if_neg h2,if_neg h1,if_neg h2]
def swU (a b:Key):Key->Key
 | .g k=>.g (IJ a b k)
 | .l n=>.l n
def Jc (a b k:Key):swU a b (swU a b k)=k:=by cases k <;> simp[swU,QI]
def Tip.lG (ρ:Key->Key):Tip->Tip
 | .tok t=>.tok t
 | .home k p=>.home (ρ k) p
def G.perm (Γ:G) (ρ:Key->Key):G:={Γ with ι:=fun k=>Γ.ι (ρ k),κ:=fun b=>(Γ.κ b).map fun p=>(p.1.lG ρ,p.2)}
def FQ (a b:Key) (A:Key->Option O):Key->Option O:=fun k=>(A (IJ a b k)).map (wc (swU a b))
def z0G (a b:Key) (A:Key->Option O):FQ a b (FQ a b A)=A:=by
 funext k;unfold FQ;rw[QI];cases A k with
 |none=>rfl
 |some o=>simp[O.KH _ _ (Jc a b)]
def PQ (a b:Key) (L:List (Key × O)):List (Key × O):=L.map fun p=>(swU a b p.1,p.2.ren (swU a b))
def zA (a b:Key):∀(L:List (Key × O)) (k:Key),AR (PQ a b L) k=(AR L (swU a b k)).map (wc (swU a b))
 | [],_=>rfl
 |(j,o)::L,k=>by
  show(if swU a b j=k then some (o.ren (swU a b))else AR (PQ a b L) k)=(if j=swU a b k then some o else AR L (swU a b k)).map (wc (swU a b));by_cases h:j=swU a b k
  ·have:swU a b j=k:=by rw[h,Jc]
   rw[if_pos this,if_pos h];rfl
  ·have:swU a b j≠k:=fun e=>h (by rw[<-e,Jc]);rw[if_neg this,if_neg h];exact zA a b L k
def AO.perm {Γ:G} {w} {s s':S} {ρ} (c:AO Γ w s) (hρ:∀k,ρ (ρ k)=k) (ho:∀k,s'.obj k=(s.obj (ρ k)).map (wc ρ)) (hl:∀t,s'.live t=s.live t) (hk:∀t,s.known t=true->s'.known t=true):AO (Γ.perm ρ) w s':=by
 have pr:∀hm,GY Γ (Γ.perm ρ) ρ hm:=fun hm=>⟨gu _,fun k x h=>by simp[G.perm,hρ,h],fun _ _ h=>h,fun k b p sz _ h=>⟨by simp[G.perm,h,Tip.lG],rfl⟩⟩;have hd:∀k,s.BW (ρ k)=true->s'.BW k=true:=fun k h=>by
  unfold S.BW at h ⊢;rw[ho];cases hs:s.obj (ρ k)with
  |none=>rw[hs]at h;cases h
  |some o=>rw[hs]at h;simpa[Nt,O.UD]using h
 refine⟨c.hH,c.hZ,fun b o sz h=>?_,fun k o h=>?_,fun k h=>?_,fun k k' b τ τ' h1 h2=>?_,fun t L h=>?_,fun t ht=>hk t (c.zc t ht),c.hgl,c.hoo,c.hσ⟩
 ·cases hb:Γ.κ b with
  |none=>simp[G.perm,hb]at h
  |some p=>
   obtain⟨t,sz'⟩:=p;simp[G.perm,hb]at h;obtain⟨rfl,rfl⟩:=h;obtain⟨a1,a2,arr,T,a3,a4,a5⟩:=c.hκ b t sz' hb
   exact⟨a1,a2,arr,T,a3,a4,by cases t with
    |tok=>trivial
    |home _ p=>cases p <;> exact a5⟩
 ·rw[ho]at h;cases hs:s.obj (ρ k)with
  |none=>rw[hs]at h;cases h
  |some o0=>
   rw[hs]at h;cases h;refine(c.obj (ρ k) o0 hs).imp (fun h=>⟨h.1,O.Yl h.2⟩) fun yw=>?_
   have:=Own.ren (pr _) (w':=w) (fun hd b τ hb=>by
    obtain⟨e1,e2,_⟩:=c.ES hb hs hd;exact⟨rfl,e1,e2⟩) (Nat.le_refl _) yw
   rw[hρ]at this;exact this
 ·rw[ho];have:=c.dom (ρ k) h;cases hs:s.obj (ρ k)with
  |none=>exact absurd hs this
  |some o=>simp
 ·refine(c.inj (ρ k) (ρ k') b τ τ' h1 h2).imp (fun e=>by rw[<-hρ k,e,hρ]) (And.imp (Or.imp (hd k) (hd k')) id)
 ·rw[hl]at h;obtain⟨x,h1,h2⟩:=c.tok t L h;refine⟨x,h1,fun b pos sz hx=>?_⟩;obtain⟨h3,h4⟩:=h2 b pos sz hx;exact⟨h3,by simp[G.perm,h4,Tip.lG]⟩
def CP (a b:Key) (x:V):V:=x.ren (swU a b) id
def lH (a b:Key) (x:V):CP a b (CP a b x)=x:=V.KH _ _ (Jc a b) x
def z2S (a b:Key) (n:Nat) (x:V):(CP a b x).DK n=x.DK n:=by cases x <;> simp[CP,qn,V.DK]
def z2Q (a b:Key) (n:Nat) (x:V):(CP a b x).slot n=CP a b (x.slot n):=by cases x <;> simp[CP,qn,V.slot]
def Yd (a b:Key):∀(n:Nat) (xs:List V),Fs n (xs.map (CP a b))=Fs n xs
 |_,[]=>rfl
 |n,x::xs=>by simp only[ed,Fs,z2S,Yd a b (n+1) xs]
def mN (a b:Key):∀(n:Nat) (xs:List V),CW n (xs.map (CP a b))=(CW n xs).map (CP a b)
 |_,[]=>rfl
 |n,x::xs=>by simp only[ed,CW,z2Q,mN a b (n+1) xs]
def q0L (a b:Key):∀(xs:List V),V.Ck (swU a b) id xs=xs.map (CP a b)
 | []=>rfl
 |x::xs=>by simp only[V.Ck,ed,q0L a b xs];rfl
def lI (a b:Key) (xs:List V):CP a b (.tup xs)= .tup (xs.map (CP a b)):=by simp only[CP,qn,q0L]
def z2R (a b:Key) (n:Nat) (x:V):(CP a b x).CV n=CP a b (x.CV n):=by
 cases x with
 |tup xs=>rw[lI];simp only[V.CV];rw[mN,lI]
 |ym=>rfl
 |d|sl|ts|emp|ptr|yn|sr|mp|agg|fn|top|any=>simp[CP,qn,V.CV,V.slot]
def q0J (a b:Key) (n:Nat) (x:V):(CP a b x).tkR n=x.tkR n:=by
 cases x with
 |tup xs=>rw[lI];simp only[V.tkR];exact Yd a b n xs
 |ym=>rfl
 |d|sl|ts|emp|ptr|yn|sr|mp|agg|fn|top|any=>simp[CP,qn,V.tkR,V.DK]
def O.z0c (a b:Key) {o:O} (h:o.ok BQ BQ=true):(o.ren (swU a b)).ok BQ BQ=true:=by
 have key:(∀x:V,x.ok BQ BQ=true->(x.ren (swU a b) id).ok BQ BQ=true):=by
  intro x
  induction x using V.rec (motive_2:=fun xs=>ry BQ BQ xs=true->ry BQ BQ (V.Ck (swU a b) id xs)=true)with
  |ptr k q τ=>intro h;cases k <;> simp[ve,qn,swU,BQ]at h ⊢
  |sr k q lo n cp eb e=>intro h;cases k <;> simp[ve,qn,swU,BQ]at h ⊢
  |mp k=>intro h;cases k <;> simp[ve,qn,swU,BQ]at h ⊢
  |sl=>intro h;simp[ve,BQ]at h
  |agg τ vs ih=>intro h;simp only[ve,qn]at h ⊢;exact ih h
  |fn f vs ih=>intro h;simp only[ve,qn]at h ⊢;exact ih h
  |tup vs ih=>intro h;simp only[ve,qn]at h ⊢;exact ih h
  |nil=>simp only[V.Ck,ry]
  |cons x xs ih1 ih2 h=>
   simp only[ry,bg]at h;simp only[V.Ck,ry,bg];exact⟨ih1 h.1,ih2 h.2⟩
  |_=>intro _;simp only[qn,ve]
 cases o with
 |box x=>exact key x h
 |map kτ vτ es=>
  simp only[wc,O.ok]at h ⊢
  induction es with
  |nil=>rfl
  |cons c es ih=>
   simp only[V.DH,bg]at h;simp only[ed,V.DH,bg];exact⟨key _ h.1,ih h.2⟩
 |it=>rfl
 |dead=>rfl
def Bg.swap {X f} {xs:List V} {A v L} (a b:Key) (D:Bg X f xs A v L):
  Bg X f (xs.map (CP a b)) (FQ a b A) (CP a b v) (PQ a b L):=by
 intro A' Γ w args hA hgl ⟨c,hok⟩ hlen hr;have hxs:(xs.map (CP a b)).map (CP a b)=xs:=by
  rw[pe];exact(vb (g:=id) fun x _=>lH a b x).trans (List.map_id _)
 have hA':∀k o,A k=some o->FQ a b A' k=some o:=by
  intro k o h;have h1:FQ a b A (IJ a b k)=some (o.ren (swU a b)):=by simp[FQ,QI,h]
  have h2:=hA _ _ h1;simp[FQ,h2,O.KH _ _ (Jc a b)]
 have yr:∀k,jj (kf xs (FQ a b A')) k=(jj (kf (xs.map (CP a b)) A') (swU a b k)).map (wc (swU a b)):=by
  intro k;cases k with
  |l n=>rfl
  |g k=>simp[kf,jj,Bt,AR,swU,FQ]
 have c1:=c.perm (s':=kf xs (FQ a b A')) (Jc a b) yr (fun t=>by simp only[kf,uu,Yd]) (fun t h=>by simpa only[kf,S.known,Yd]using h);have z7U:AOk (FQ a b A'):=by
  intro k o h;unfold FQ at h;cases hk:A' (IJ a b k)with
  |none=>rw[hk]at h;cases h
  |some o0=>rw[hk]at h;cases h;exact O.z0c a b (hok _ _ hk)
 have pr:GY Γ (Γ.perm (swU a b)) (swU a b) none:=⟨gu _,fun k x h=>by simp[G.perm,Jc,h],fun _ _ h=>h,fun k _ _ _ h=>by cases h⟩;refine(D (FQ a b A') (Γ.perm (swU a b)) w args hA' hgl ⟨c1,z7U⟩ (by simpa using hlen) fun i x u hx hu=>?_).mono ?_
 ·have h1:(CW 1000 (xs.map (CP a b)))[i]? =some (CP a b x):=by rw[mN,List.getElem?_map,hx];rfl
  have:=(hr i _ u h1 hu).ren (θ:=id) pr (fun _ _ h=>h);have e:qn (swU a b) id (CP a b x)=x:=lH a b x
  rwa [e]at this
 ·rintro e w' ⟨u,Γ',rfl,gle,c',hu⟩;have z5X:∀k,jj (S.fin (CP a b v) (PQ a b L) A') k=(jj (S.fin v L (FQ a b A')) (swU a b k)).map (wc (swU a b)):=by
   intro k;simp only[S.fin,jj,Bt,zA];cases hl:AR L (swU a b k)with
   |some o=>rfl
   |none=>
    cases k with
    |l n=>rfl
    |g k=>
     simp only[Option.map_none,swU,FQ,QI];cases A' k with
     |none=>rfl
     |some o=>simp[O.KH _ _ (Jc a b)]
  have c2:=c'.perm (s':=S.fin (CP a b v) (PQ a b L) A') (Jc a b) z5X (fun t=>by simp only[S.fin,uu,q0J]) (fun t h=>by simpa only[S.fin,S.known,q0J]using h);have pr':GY Γ' (Γ'.perm (swU a b)) (swU a b) none:=⟨gu _,fun k x h=>by simp[G.perm,Jc,h],fun _ _ h=>h,fun k _ _ _ h=>by cases h⟩;refine⟨u,Γ'.perm (swU a b),rfl,⟨gle.H,gle.Z,gle.ZH,fun k x h=>?_,gle.gl,gle.oo,gle.σ,fun k h=>?_⟩,c2,?_⟩
  ·refine gle.g (IJ a b k) x ?_;show Γ.ι (swU a b (.g (IJ a b k)))=some x;simp[swU,QI,h]
  ·refine gle.gn (IJ a b k) ?_;show Γ.ι (swU a b (.g (IJ a b k)))=none;simp[swU,QI,h]
  ·rw[z2R];exact hu.ren (θ:=id) pr' (fun _ _ h=>h)
mutual
def Sh.fit {R:Type}:Sh->V->(List C->Option R)->Option R
 | .d τ,x,K=>(match x with
  | .d τ' c=>if τ'=τ then K [c]else none
  |_=>none)
 | .sl _ _ _,_,_=>none
 | .ts eb e,x,K=>(match x with
  | .ts eb' e' cs=>if eb'=eb/\e'=e then K [.slice cs]else none
  |_=>none)
 | .sr k q cp eb e,x,K=>(match x with
  | .sr k' q' lo n cp' eb' e'=>if k'=k/\q'=q/\eb'=eb/\e'=e then(match cp,cp' with
   |false,none=>K [.int lo,.int n]
   |true,some c=>K [.int lo,.int n,.int c]
   |_,_=>none)else none
  |_=>none)
 | .yn τ,x,K=>(match x with
  | .yn τ' c=>if τ'=τ then K [c]else none
  |_=>none)
 | .arr e,x,K=>(match x with
  | .d (.arr n e') c=>if e'=e then(if n=c.elems.length then K [c]else none)else none
  |_=>none)
 | .agg τ l,x,K=>(match x with
  | .agg τ' vs=>if τ'=τ then Sh.fits l vs K else none
  |_=>none)
 | .as v,x,K=>if V.same x v=true then K []else none
 | .vec k eb e,x,K=>(match x with
  | .sr k' q' lo n cp' eb' e'=>if k'=k/\q'=[]/\lo=0/\cp'.isNone=true/\eb'=eb/\e'=e then K [.int n]else none
  |_=>none)
 | .fnc f l,x,K=>(match x with
  | .fn f' vs=>if f'=f then IW l vs K else none
  |_=>none)
def Sh.fits {R:Type}:List Sh->List V->(List C->Option R)->Option R
 | [],[],K=>K []
 |s::l,x::xs,K=>s.fit x fun d1=>Sh.fits l xs fun d2=>K (d1++d2)
 |_,_,_=>none
end
mutual
def Sh.uR {R:Type} {r}:∀(s:Sh) (x:V) {K:List C->Option R},s.fit x K=some r->∃ds,K ds=some r/\ds.length=s.many/\s.fill 0 ds=x
 | .d τ,x,K,h=>by
  cases x <;> simp only[Sh.fit,reduceCtorEq,ax]at h;obtain⟨rfl,h⟩:=h;exact⟨_,h,by simp[Sh.many],by simp[Sh.fill,dk]⟩
 | .sl _ _ _,x,K,h=>by simp[Sh.fit]at h
 | .ts eb e,x,K,h=>by
  cases x <;> simp only[Sh.fit,reduceCtorEq,ax]at h;obtain⟨⟨rfl,rfl⟩,h⟩:=h;exact⟨_,h,by simp[Sh.many],by simp[Sh.fill,dk,C.elems]⟩
 | .sr k q cp eb e,x,K,h=>by
  cases x <;> simp only[Sh.fit,reduceCtorEq,ax]at h;obtain⟨⟨rfl,rfl,rfl,rfl⟩,h⟩:=h;split at h
  ·exact⟨_,h,by simp[Sh.many],by simp[Sh.fill,dk,ao]⟩
  ·exact⟨_,h,by simp[Sh.many],by simp[Sh.fill,dk,ao]⟩
  ·cases h
 | .yn τ,x,K,h=>by
  cases x <;> simp only[Sh.fit,reduceCtorEq,ax]at h;obtain⟨rfl,h⟩:=h;exact⟨_,h,by simp[Sh.many],by simp[Sh.fill,dk]⟩
 | .arr e,x,K,h=>by
  simp only[Sh.fit]at h;split at h
  ·simp only[ax]at h;obtain⟨rfl,h1,h⟩:=h;subst h1;exact⟨_,h,by simp[Sh.many],by simp[Sh.fill,dk]⟩
  ·cases h
 | .agg τ l,x,K,h=>by
  cases x <;> simp only[Sh.fit,reduceCtorEq,ax]at h;obtain⟨rfl,h⟩:=h;obtain⟨ds,h1,h2,h3⟩:=Sh.bX l _ h;exact⟨ds,h1,by simpa only[Sh.many]using h2,by simp only[Sh.fill];rw[h3]⟩
 | .as v,x,K,h=>by
  simp only[Sh.fit,ax]at h;obtain⟨h1,h⟩:=h;have:=V.YP _ _ h1;subst this;exact⟨_,h,by simp[Sh.many],by simp only[Sh.fill]⟩
 | .vec k eb e,x,K,h=>by
  cases x <;> simp only[Sh.fit,reduceCtorEq,ax]at h;obtain⟨⟨rfl,rfl,rfl,hc,rfl,rfl⟩,h⟩:=h;rename_i cp _ _;cases cp with
  |some c=>cases hc
  |none=>exact⟨_,h,by simp[Sh.many],by simp[Sh.fill,dk,ao]⟩
 | .fnc f l,x,K,h=>by
  cases x <;> simp only[Sh.fit,reduceCtorEq,ax]at h;obtain⟨rfl,h⟩:=h;obtain⟨ds,h1,h2,h3⟩:=VO l _ h;exact⟨ds,h1,by simpa only[Sh.many]using h2,by simp only[Sh.fill,h3]⟩
def Sh.bX {R:Type} {r}:∀(l:List Sh) (xs:List V) {K:List C->Option R},Sh.fits l xs K=some r->∃ds,K ds=some r/\ds.length=Sh.HN l/\Sh.Dq l 0 ds=xs
 | [],xs,K,h=>by
  cases xs <;> simp only[Sh.fits,reduceCtorEq]at h;exact⟨_,h,by simp[Sh.HN],by simp[Sh.Dq]⟩
 |s::l,[],K,h=>by simp[Sh.fits]at h
 |s::l,x::xs,K,h=>by
  simp only[Sh.fits]at h;obtain⟨d1,h1,h2,h3⟩:=Sh.uR s x h;obtain⟨d2,h5,h6,h7⟩:=Sh.bX l xs h1;refine⟨_,h5,by simp[Sh.HN,h2,h6],?_⟩;have e1:s.fill 0 (d1++d2)=s.fill 0 d1:=Sh.Kh s 0 0 _ _ fun j hj=>Jl (by omega);have e2:Sh.Dq l s.many (d1++d2)=Sh.Dq l 0 d2:=Sh.RO l _ 0 _ _ fun j hj=>by
   rw[MH (by omega),h2];congr 1;omega
  simp only[Sh.Dq,cq,e1,e2];rw[h3,h7]
end
def Ki {R:Type} (A:Key->Option O):List (Key × OSh)->(List C->List Es->Option R)->Option R
 | [],K=>K [] []
 |(k,.box sh)::l,K=>(match A k with
  |some (.box x)=>sh.fit x fun d1=>Ki A l fun d2 m2=>K (d1++d2) m2
  |_=>none)
 |(k,.map kτ vτ)::l,K=>(match A k with
  |some (.map kτ' vτ' es)=>if kτ'=kτ/\vτ'=vτ then(if BV vτ es=true then Ki A l fun d2 m2=>K d2 (unE es::m2)else none)else none
  |_=>none)
 |_::_,_=>none
def bW {R:Type} {r A}:∀(l:List (Key × OSh)) {K:List C->List Es->Option R},Ki A l K=some r->
  ∃ds ms,K ds ms=some r/\ds.length=FC l/\∀k o,AR (BS l 0 0 ds ms) k=some o->A k=some o
 | [],K,h=>⟨[],[],h,rfl,fun k o h=>by simp[BS,AR]at h⟩
 |(j,.box sh)::l,K,h=>by
  simp only[Ki]at h;split at h
  ·rename_i x hx;obtain⟨d1,h1,h2,h3⟩:=Sh.uR sh x h;obtain⟨d2,ms,h4,h5,h6⟩:=bW l h1;refine⟨_,ms,h4,by simp[FC,h2,h5],fun k o hk=>?_⟩;have e1:sh.fill 0 (d1++d2)=sh.fill 0 d1:=Sh.Kh sh 0 0 _ _ fun j hj=>Jl (by omega);have e2:BS l sh.many 0 (d1++d2) ms=BS l 0 0 d2 ms:=JV l _ 0 0 _ _ _ fun j hj=>by
    rw[MH (by omega),h2];congr 1;omega
   simp only[BS,cq,e1,e2,h3,AR]at hk;split at hk
   ·rename_i e;subst e;cases hk;exact hx
   ·exact h6 k o hk
  ·cases h
 |(j,.map kτ vτ)::l,K,h=>by
  simp only[Ki]at h;split at h
  ·rename_i kτ' vτ' es hx;simp only[ax]at h;obtain⟨⟨rfl,rfl⟩,hd,h⟩:=h;obtain⟨d2,ms,h4,h5,h6⟩:=bW l h;refine⟨_,_,h4,by simp[FC,h5],fun k o hk=>?_⟩;simp only[BS,SB,AR]at hk;split at hk
   ·rename_i e;subst e;cases hk;rw[show dm (unE es::ms) 0=unE es from rfl,aF hd];exact hx
   ·exact h6 k o hk
  ·cases h
 |(_,.dead _)::l,K,h=>by simp[Ki]at h
 |(_,.it)::l,K,h=>by simp[Ki]at h
mutual
def Sh.unP:Sh->V->List (Key × Key)
 | .as (.ptr (.g a) _ _),.ptr (.g b) _ _=>[(a,b)]
 | .as (.mp (.g a)),.mp (.g b)=>[(a,b)]
 | .sr (.g a) _ _ _ _,.sr (.g b) _ _ _ _ _ _=>[(a,b)]
 | .vec (.g a) _ _,.sr (.g b) _ _ _ _ _ _=>[(a,b)]
 | .agg _ l,.agg _ xs=>Sh.Yg l xs
 |_,_=>[]
def Sh.Yg:List Sh->List V->List (Key × Key)
 |s::l,x::xs=>s.unP x++Sh.Yg l xs
 |_,_=>[]
end
def CI:List (Key × Key)->Key->Key
 | [],k=>k
 |(a,b)::l,k=>CI l (IJ a b k)
def YY (zr:List (Key × OSh)) (A:Key->Option O):Nat->List (Key × Key)->List (Key × Key)->List Key->List (Key × Key)
 |0,_,sw,_=>sw
 |_,[],sw,_=>sw
 |f+1,(a,b)::todo,sw,seen=>if Wl a seen=true then YY zr A f todo sw seen else
   (match CI sw b with
   |b'=>YY zr A f ((match eO zr a,A b with
     |some (.box sh),some (.box x)=>sh.unP x
     |_,_=>[])++todo) (if a=b' then sw else sw++[(a,b')]) (a::seen))
def mV:List (Key × Key)->List V->List V
 | [],xs=>xs
 |(a,b)::l,xs=>mV l (xs.map (CP a b))
def swA:List (Key × Key)->(Key->Option O)->Key->Option O
 | [],A=>A
 |(a,b)::l,A=>swA l (FQ a b A)
def nI:List (Key × Key)->V->V
 | [],x=>x
 |(a,b)::l,x=>CP a b (nI l x)
def nH:List (Key × Key)->List (Key × O)->List (Key × O)
 | [],x=>x
 |(a,b)::l,x=>PQ a b (nH l x)
def Bg.sws {X f}:∀(sw:List (Key × Key)) {xs:List V} {A:Key->Option O} {v:V} {L:List (Key × O)},Bg X f (mV sw xs) (swA sw A) v L->Bg X f xs A (nI sw v) (nH sw L)
 | [],xs,A,v,L,h=>h
 |(a,b)::l,xs,A,v,L,h=>by
  have h1:=(Bg.sws l h).swap a b;have hxs:(xs.map (CP a b)).map (CP a b)=xs:=by
   rw[pe];exact(vb (g:=id) fun x _=>lH a b x).trans (List.map_id _)
  rw[hxs,z0G]at h1;exact h1
def iH (args:List Sh) (zr:List (Key × OSh)) {R:Type} (p:List C->List Es->(V->List (Key × O)->Option R)->Option R):OvG R:=fun xs A K=>
 match YY zr A 1000 (Sh.Yg args xs) [] []with
 |sw=>Sh.fits args (mV sw xs) fun d1=>Ki (swA sw A) zr fun d2 ms=>p (d1++d2) ms fun v L=>K (nI sw v) (nH sw L)
def z0P {X f args zr} {R:Type} {p}
  (hp:∀ds ms (K:V->List (Key × O)->Option R) r,p ds ms K=some r->∃v L,Bg X f (Sh.Dq args 0 ds) (AR (BS zr (Sh.HN args) 0 ds ms)) v L/\K v L=some r):GOk X f (iH args zr p):=by
 intro xs A Kr r hr;unfold iH at hr;dsimp only at hr;generalize YY zr A 1000 (Sh.Yg args xs) [] []=sw at hr;obtain⟨d1,h1,h2,h3⟩:=Sh.bX args _ hr;obtain⟨d2,ms,h4,h5,h6⟩:=bW zr h1;obtain⟨v,L,h7,h8⟩:=hp _ _ _ _ h4;refine⟨_,_,Bg.sws sw (v:=v) (L:=L) ?_,h8⟩;have e1:Sh.Dq args 0 (d1++d2)=Sh.Dq args 0 d1:=Sh.RO args 0 0 _ _ fun j hj=>Jl (by omega);have e2:BS zr (Sh.HN args) 0 (d1++d2) ms=BS zr 0 0 d2 ms:=JV zr _ 0 0 _ _ _ fun j hj=>by
  rw[MH (by omega),h2];congr 1;omega
 rw[e1,h3,e2]at h7;exact h7.mono h6
def Vr:List (Nat × (List V->Option V))->DV
 | [],_=>none
 |(i,g)::l,f=>bif bo f i then some g else Vr l f
def KY (X:Cx):List (Nat × (List V->Option V))->Prop
 | []=>True
 |p::l=>(∀xs v,p.2 xs=some v->NR X p.1 xs v)/\KY X l
def tX {X}:∀{l:List (Nat × (List V->Option V))},KY X l->IM X (Vr l)
 | [],_=>fun f g xs v h _=>by cases h
 |(i,g0)::l,h=>fun f g xs v hf hv=>by
  simp only[Vr]at hf;cases hb:bo f i with
  |true=>
   rw[hb,cond_true]at hf;cases hf;obtain rfl:=fk hb;exact h.1 xs v hv
  |false=>
   rw[hb,cond_false]at hf;exact tX h.2 f g xs v hf hv
def KY.append {X}:∀{l m:List (Nat × (List V->Option V))},KY X l->KY X m->KY X (l++m)
 | [],_,_,h=>h
 |_::_,_,h,h'=>⟨h.1,h.2.append h'⟩
end Go.E
