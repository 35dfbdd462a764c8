/-
Runs of Go code over abstract data are sound, part 7.
Conditions: none.
-/
import Derived.Test.YtgdonkaoajbclaaGreatDoorEf
set_option linter.all false
noncomputable section
set_option maxRecDepth 100000
set_option maxHeartbeats 4000000
open Bool renaming and_eq_true->az,true_and->qp
open Go.E.C renaming toInt->aj
open Go.E.Hp renaming le_refl->gq
open Go.E.O renaming ren->wb
open Go.E.S renaming live->uq,obj->jj,start->kc
open Go.E.Ty renaming beq->wi,beq_iff->qz
open Go.E.V renaming ok->va,oks->rv,ren->qm
open List renaming find?_some->rq,getD_eq_getElem?_getD->bh,map_congr_left->uz,map_cons->dy,map_map->pc,mem_append->dw,mem_cons->fz,mem_of_find?_eq_some->sk
open Nat renaming add_assoc->fy,add_comm->qv,add_zero->iw,beq->bw,eq_of_beq_eq_true->fj,zero_add->cm
open Option renaming ite_none_right_eq_some->au,ne_none_iff_exists'->rj
namespace Go.E
open Go
def Bg (f:Nat->Nat):Key->Key
 | .l n=>.l (f n)| .g k=>.g k
def S.ren (s:S) (f g:Nat->Nat):S:=
 ⟨s.env.map fun p=>(p.1,p.2.ren (Bg f) g),s.loc.map fun p=>(Bg f p.1,p.2.ren (Bg f)),s.A,s.tk.map fun p=>(g p.1,p.2)⟩
def Fq:List (Key × O)->List Nat
 | []=>[]|(.l n,_)::l=>n::Fq l|(.g _,_)::l=>Fq l
def Fz:List (Nat × Option Nat)->List Nat
 | []=>[]|(t,_)::l=>t::Fz l
def Jy (f:Nat->Nat) (l:List Nat):Bool:=l.all fun a=>l.all fun b=> !(bw (f a) (f b))||bw a b
def wV {f} {l:List Nat} (h:Jy f l=true) {a b:Nat} (ha:a∈l) (hb:b∈l) (e:f a=f b):a=b:=by simp only[Jy,List.all_eq_true]at h;have:=h a ha b hb;rw[e,Nat.beq_refl]at this;simpa[Nat.beq_eq]using this
def Rm:∀{l:List (Key × O)} {n:Nat},AR l (.l n)≠none->n∈Fq l
 | [],_,h=>by simp[AR]at h
 |(.l m,o)::l,n,h=>by simp only[AR]at h;simp only[Fq,fz];by_cases e:m=n;{exact .inl e.symm};{rw[if_neg (by intro e';cases e';exact e rfl)]at h;exact .inr (Rm h)}
 |(.g m,o)::l,n,h=>by simp only[AR]at h;rw[if_neg (by intro e';cases e')]at h;exact Rm (l:=l) h
def eZ {f}:∀{l:List (Key × O)} {k':Key} {o':O},AR (l.map fun p=>(Bg f p.1,p.2.ren (Bg f))) k'=some o'->∃k o,Bg f k=k'/\AR l k=some o/\o'=o.ren (Bg f)
 | [],_,_,h=>by simp[AR]at h
 |(j,p)::l,k',o',h=>by simp only[dy,AR]at h;by_cases e:Bg f j=k';{rw[if_pos e]at h;cases h;exact⟨j,p,e,by simp[AR],rfl⟩};{rw[if_neg e]at h;obtain⟨k,o,h1,h2,h3⟩:=eZ h;refine⟨k,o,h1,?_,h3⟩;simp only[AR];rw[if_neg (fun e'=>e (by rw[e'];exact h1))];exact h2}
def SH {f}:∀{l:List (Key × O)} {k:Key},AR (l.map fun p=>(Bg f p.1,p.2.ren (Bg f))) (.g k)=(AR l (.g k)).map fun o=>o.ren (Bg f)
 | [],_=>rfl|(.l m,p)::l,k=>by simp only[dy,AR,Bg];rw[if_neg (by intro e;cases e),if_neg (by intro e;cases e)];exact SH
 |(.g m,p)::l,k=>by simp only[dy,AR,Bg];by_cases e:Key.g m= .g k;{rw[if_pos e,if_pos e];rfl};{rw[if_neg e,if_neg e];exact SH}
def zQ {g:Nat->Nat}:∀{l:List (Nat × Option Nat)} {u:Nat} {x:Option Nat},look (l.map fun p=>(g p.1,p.2)) u=some x->∃t,g t=u/\look l t=some x/\t∈Fz l
 | [],_,_,h=>by simp[look]at h
 |(j,p)::l,u,x,h=>by simp only[dy,look]at h;by_cases e:g j=u;{rw[if_pos e]at h;cases h;exact⟨j,e,by simp[look],by simp[Fz]⟩};{rw[if_neg e]at h;obtain⟨t,h1,h2,h3⟩:=zQ h;refine⟨t,h1,?_,by simp[Fz,h3]⟩;simp only[look];rw[if_neg (fun e'=>e (by rw[e'];exact h1))];exact h2}
def xM {g:Nat->Nat}:∀{l:List (Nat × Option Nat)} {t:Nat},t∈Fz l->(look (l.map fun p=>(g p.1,p.2)) (g t)).isSome=true
 | [],_,h=>by simp[Fz]at h
 |(j,p)::l,t,h=>by simp only[Fz,fz]at h;simp only[dy,look];by_cases e:g j=g t;{rw[if_pos e];rfl};{rw[if_neg e];rcases h with h|h;{subst h;exact absurd rfl e};{exact xM h}}
def q2g:∀{l:List (Nat × Option Nat)} {t:Nat},(look l t).isSome=true->t∈Fz l
 | [],_,h=>by simp[look]at h
 |(j,p)::l,t,h=>by simp only[look]at h;simp only[Fz,fz];by_cases e:j=t;{exact .inl e.symm};{rw[if_neg e]at h;exact .inr (q2g h)}
def fD {f:V->V}:∀(l:List (Nat × V)) (i:Nat),look (l.map fun p=>(p.1,f p.2)) i=(look l i).map f
 | [],_=>rfl|(j,x)::l,i=>by simp only[dy,look];by_cases e:j=i;{rw[if_pos e,if_pos e];rfl};{rw[if_neg e,if_neg e];exact fD l i}
theorem q6U (s:S) (f g:Nat->Nat) (i:Nat):(s.ren f g).get i=(s.get i).ren (Bg f) g:=by unfold S.get S.ren;rw[fD];cases look s.env i <;> rfl
mutual
def V.UH {f g}:∀(x:V),x.ok BS BS=true->x.ren (Bg f) g=x
 | .sl _ _ _ t,h=>by simp[va,BS]at h
 | .ptr (.l k) _ _,h| .mp (.l k),h| .sr (.l k) _ _ _ _ _ _,h=>by simp[va,BS]at h
 | .agg _ vs,h| .fn _ vs,h| .tup vs,h=>by simp only[va]at h;simp only[qm,V.q02 vs h]
 | .ptr (.g _) _ _,_| .mp (.g _),_| .sr (.g _) _ _ _ _ _ _,_| .d _ _,_| .ts _ _ _,_| .emp _ _,_| .ym,_| .yn _ _,_| .top _,_| .any,_=>by simp[qm,Bg]
def V.q02 {f g}:∀(xs:List V),rv BS BS xs=true->V.Cr (Bg f) g xs=xs
 | [],_=>rfl|x::xs,h=>by simp only[rv,az]at h;simp only[V.Cr,V.UH x h.1,V.q02 xs h.2]
end
def uF {f}:∀{es:List (C × V)},V.DP BS BS es=true->es.map (fun c=>(c.1,c.2.ren (Bg f) id))=es
 | [],_=>rfl|x::xs,h=>by simp only[V.DP,az]at h;simp only[dy,V.UH x.2 h.1,uF h.2]
def O.UH {f} {o:O} (h:o.ok BS BS=true):o.ren (Bg f)=o:=by
 cases o with
 |box x=>simp only[wb];rw[V.UH x h]|map kτ vτ es=>simp only[wb];rw[uF h]|it=>rfl|dead=>rfl
def Tip.ren (f g:Nat->Nat):Tip->Tip
 | .tok t=>.tok (g t)| .home k p=>.home (Bg f k) p
def G.FZ (Γ:G) (s:S) (f g:Nat->Nat):G:=
 {Γ with
  ι:=fun k=>match k with| .g k=>Γ.ι (.g k)| .l m=>match(Fq s.loc).find? (fun n=>decide (f n=m))with|some n=>Γ.ι (.l n)|none=>none
  τ:=fun u=>match(Fz s.tk).find? (fun t=>decide (g t=u))with|some t=>Γ.τ t|none=>none
  κ:=fun b=>(Γ.κ b).map fun p=>(p.1.ren f g,p.2)}
def vC {f} {l:List Nat} (h:Jy f l=true) {n:Nat} (hn:n∈l):l.find? (fun a=>decide (f a=f n))=some n:=by
 cases hf:l.find? (fun a=>decide (f a=f n))with
 |none=>
  have:=List.find?_eq_none.1 hf n hn;simp at this
 |some a=>
  have h1:=rq hf;have h2:=sk hf;rw[wV h h2 hn (by simpa using h1)]
def gM {s:S} {n:Nat}:s.obj (.l n)=AR s.loc (.l n):=by unfold jj Bx;cases AR s.loc (.l n) <;> rfl
def z5b {X:Cx} {n:Nat} {s:S} (f g:Nat->Nat) (hf:Jy f (Fq s.loc)=true) (hg:Jy g (Fz s.tk)=true):DS X n s (s.ren f g):=by
 rintro Γ0 a w ⟨Γ,g1,g3,c,hs,hn,hfr,hA⟩
 have lin:∀m x,Γ.ι (.l m)=some x->m∈Fq s.loc:=fun m x h=>Rm (by
  have:=c.dom (.l m) (by rw[h];simp)
  rwa [gM]at this)
 have tin:∀t x,Γ.τ t=some x->t∈Fz s.tk:=fun t x h=>q2g (c.zc t (by rw[h];simp));have ιl:∀m,m∈Fq s.loc->(Γ.FZ s f g).ι (.l (f m))=Γ.ι (.l m):=fun m hm=>by simp only[G.FZ,vC hf hm]
 have z7W:∀k,s.obj k≠none->Γ.ι k=none->(Γ.FZ s f g).ι (Bg f k)=none:=by
  intro k ho hn;cases k with
  |g k=>exact hn|l m=>
   have hm:m∈Fq s.loc:=Rm (by rw[<-gM];exact ho);exact(ιl m hm).trans hn
 have ιk:∀k x,Γ.ι k=some x->(Γ.FZ s f g).ι (Bg f k)=some x:=by
  intro k x h;cases k with
  |g k=>exact h|l m=>exact(ιl m (lin m x h)).trans h
 have τk:∀t x,Γ.τ t=some x->(Γ.FZ s f g).τ (g t)=some x:=by intro t x h;simp only[G.FZ,vC hg (tin t x h)];exact h
 have back:∀k' x,(Γ.FZ s f g).ι k'=some x->∃k,Bg f k=k'/\Γ.ι k=some x:=by
  intro k' x h;cases k' with
  |g k=>exact⟨.g k,rfl,h⟩|l m=>
   simp only[G.FZ]at h;split at h;{rename_i n' hfd;exact⟨.l n',by simp only[Bg];rw[show f n'=m by simpa using rq hfd],h⟩};{cases h}
 have pr:∀hm,Gf Γ (Γ.FZ s f g) (Bg f) hm:=fun hm=>⟨gq _,ιk,fun _ _ h=>h,fun k b p sz _ hk=>⟨by simp[G.FZ,hk,Tip.ren],rfl⟩⟩;have z7E:∀k x,Γ.ι k=some x->(s.ren f g).obj (Bg f k)≠none:=by
  intro k x h1;cases k with
  |l m=>
   have hm:=lin m x h1;show jj (s.ren f g) (.l (f m))≠none;rw[gM];intro z7X;have key:∀{l:List (Key × O)},m∈Fq l->AR (l.map fun p=>(Bg f p.1,p.2.ren (Bg f))) (.l (f m))≠none:=by
    intro l
    induction l with
    |nil=>intro h;simp[Fq]at h|cons p l ih=>
     obtain⟨j,o⟩:=p;intro h;simp only[dy,AR];by_cases e:Bg f j= .l (f m);{rw[if_pos e];simp}
     ·rw[if_neg e];cases j with
      |g j=>exact ih (by simpa[Fq]using h)|l j=>
       simp only[Fq,fz]at h;rcases h with rfl|h;{exact absurd rfl e};{exact ih h}
   exact key hm z7X
  |g k=>
   have h2:=c.dom (.g k) (by rw[h1];simp);show jj (s.ren f g) (.g k)≠none;unfold jj Bx at h2 ⊢;rw[show AR (s.ren f g).loc (.g k)=_ from SH];cases hl:AR s.loc (.g k)with
   |none=>rw[hl]at h2;exact h2|some o=>simp
 have ze:∀k x,Γ.ι k=some x->s.Bb k=true->(s.ren f g).Bb (Bg f k)=true:=by
  intro k x h1 hd;cases ho':(s.ren f g).obj (Bg f k)with
  |none=>exact absurd ho' (z7E k x h1)|some o1=>
   rw[Ed ho'];cases hl:AR (s.ren f g).loc (Bg f k)with
   |some o2=>
    have e:o2=o1:=by unfold jj Bx at ho';rw[hl]at ho';exact Option.some.inj ho'
    subst e;obtain⟨k2,o,h2,h3,rfl⟩:=eZ hl;have hk:k2=k:=by
     cases k with
     |g k=>cases k2 with|g k2=>simpa[Bg]using h2|l m2=>simp[Bg]at h2
     |l m=>cases k2 with
      |g k2=>simp[Bg]at h2|l m2=>
       simp only[Bg,Key.l.injEq]at h2;rw[wV hf (Rm (by rw[h3];simp)) (lin m x h1) h2]
    subst hk;rw[O.UG];rw[Ed (XC h3)]at hd;exact hd
   |none=>
    cases k with
    |l m=>unfold jj Bx at ho';rw[show Bg f (.l m)= .l (f m) from rfl]at ho' hl;rw[hl]at ho';cases ho'
    |g k=>
     have h0:AR s.loc (.g k)=none:=by
      have:=SH (f:=f) (l:=s.loc) (k:=k);rw[show AR (s.loc.map _) (.g k)=none from hl]at this;cases hx:AR s.loc (.g k)with
      |none=>rfl|some y=>rw[hx]at this;cases this
     have e1:(s.ren f g).obj (.g k)=s.A k:=by unfold jj Bx;rw[show AR (s.ren f g).loc (.g k)=none from hl];rfl
     have e2:s.obj (.g k)=s.A k:=by unfold jj Bx;rw[h0]
     rw[Ed (e2.trans (e1.symm.trans ho'))]at hd;exact hd
 refine⟨Γ.FZ s f g,⟨g1.H,g1.Z,g1.ZH,g1.g,g1.gl,g1.oo,g1.σ,g1.gn⟩,g3,?_,fun i=>?_,hn,hfr,hA⟩
 ·refine⟨c.hH,c.hZ,fun b o sz h=>?_,fun k' o' h=>?_,fun k' h=>?_,fun k k' b τ τ' h1 h2=>?_,fun u L h=>?_,fun u h=>?_,c.hgl,c.hoo,c.hσ⟩
  ·cases hk:Γ.κ b with
   |none=>simp[G.FZ,hk]at h|some p=>
    obtain⟨t,sz'⟩:=p;simp[G.FZ,hk]at h;obtain⟨a1,a2,arr,T,a3,a4,a5⟩:=c.hκ b t sz' hk;rw[<-h.2,<-h.1];exact⟨a1,a2,arr,T,a3,a4,by cases t with|tok=>trivial|home _ p=>cases p <;> exact a5⟩
  ·have own:∀k o,s.obj k=some o->((Γ.FZ s f g).ι (Bg f k)=none/\(o.ren (Bg f)).Jl)\/Own (Γ.FZ s f g) w (Bg f k) (o.ren (Bg f)):=fun k o ho=>
    (c.obj k o ho).imp (fun h=>⟨z7W k (by rw[ho];simp) h.1,O.Yr h.2⟩) fun yw=>Own.ren (pr _) (fun hd b τ hb=>by
     obtain⟨e1,e2,_⟩:=c.Eb hb ho hd;exact⟨rfl,e1,e2⟩) (Nat.le_refl _) yw
   unfold jj Bx at h;cases hl:AR (s.ren f g).loc k' with
   |some o1=>
    rw[hl]at h;cases h;obtain⟨k,o,h1,h2,rfl⟩:=eZ hl;rw[<-h1];exact own k o (XC h2)
   |none=>
    rw[hl]at h;cases k' with
    |l m=>cases h
    |g k=>
     have h':s.A k=some o':=h;have h0:AR s.loc (.g k)=none:=by
      have:=SH (f:=f) (l:=s.loc) (k:=k);rw[show AR (s.loc.map _) (.g k)=none from hl]at this;cases hx:AR s.loc (.g k)with
      |none=>rfl|some y=>rw[hx]at this;cases this
     have:=own (.g k) o' (by simp[jj,Bx,h0,h']);rw[O.UH (hA k o' h')]at this;exact this
  ·obtain⟨x,hx⟩:=rj.1 h;obtain⟨k,rfl,h1⟩:=back k' x hx;exact z7E k x h1
  ·obtain⟨k0,rfl,h3⟩:=back k _ h1;obtain⟨k1,rfl,h4⟩:=back k' _ h2;exact(c.inj _ _ _ _ _ h3 h4).imp (fun e=>by rw[e]) (And.imp (Or.imp (ze _ _ h3) (ze _ _ h4)) id)
  ·unfold uq EA at h;cases hl:look (s.ren f g).tk u with
   |none=>simp[hl]at h|some x=>
    cases x with
    |none=>simp[hl]at h|some M=>
     simp[hl]at h;subst h;obtain⟨t,rfl,h2,h3⟩:=zQ hl;obtain⟨x,a1,a2⟩:=c.tok t M (by simp[uq,EA,h2]);refine⟨x,τk t _ a1,fun b pos sz hx=>?_⟩;obtain⟨a3,a4⟩:=a2 b pos sz hx;exact⟨a3,by simp[G.FZ,a4,Tip.ren]⟩
  ·obtain⟨x,hx⟩:=rj.1 h;simp only[G.FZ]at hx;split at hx
   ·rename_i t hfd;have e:g t=u:=by simpa using rq hfd
    rw[<-e];exact xM (sk hfd)
   ·cases hx
 ·rw[q6U];exact AG.ren (pr none) τk (hs i)
def dk (ds:List C) (i:Nat):C:=ds.getD i .nil
abbrev Es:=List (C × C)
def dm (ms:List Es) (i:Nat):Es:=ms.getD i []
inductive Cap where
 |c (τ:Ty)|v (x:V)
 deriving Inhabited
def JM:List Cap->Nat
 | []=>0| .c _::l=>JM l+1| .v _::l=>JM l
def GH:List Cap->Nat->List C->List V
 | [],_,_=>[]| .c τ::l,i,ds=>.yn τ (dk ds i)::GH l (i+1) ds| .v x::l,i,ds=>x::GH l i ds
inductive Sh where
 |d (τ:Ty)|sl (eb:Nat) (e:Ty) (t:Nat)|ts (eb:Nat) (e:Ty)|sr (k:Key) (q:List Nat) (cp:Bool) (eb:Nat) (e:Ty)|yn (τ:Ty)|arr (e:Ty)|agg (τ:Ty) (l:List Sh)|as (v:V)|vec (k:Key) (eb:Nat) (e:Ty)|fnc (f:FuncId) (l:List Cap)
 deriving Inhabited
inductive OSh where
 |box (x:Sh)|map (kτ vτ:Ty)|dead (e:Ty)|it
 deriving Inhabited
structure SSh where
 env:List (Nat × Sh)
 loc:List (Key × OSh)
mutual
def Sh.many:Sh->Nat
 | .sr _ _ cp _ _=>bif cp then 3 else 2| .agg _ l=>Sh.HU l| .as _=>0| .fnc _ l=>JM l|_=>1
def Sh.HU:List Sh->Nat
 | []=>0|s::l=>s.many+Sh.HU l
end
mutual
def Sh.fill:Sh->Nat->List C->V
 | .d τ,i,ds=>.d τ (dk ds i)| .sl eb e t,i,ds=>.sl eb e (dk ds i).elems t| .ts eb e,i,ds=>.ts eb e (dk ds i).elems| .sr k q cp eb e,i,ds=>.sr k q (dk ds i).toInt.toNat (dk ds (i+1)).toInt.toNat (bif cp then some (dk ds (i+2)).toInt.toNat else none) eb e| .yn τ,i,ds=>.yn τ (dk ds i)| .arr e,i,ds=>.d (.arr (dk ds i).elems.length e) (dk ds i)| .agg τ l,i,ds=>.agg τ (Sh.Dw l i ds)| .as v,_,_=>v| .vec k eb e,i,ds=>.sr k [] 0 (dk ds i).toInt.toNat none eb e| .fnc f l,i,ds=>.fn f (GH l i ds)
def Sh.Dw:List Sh->Nat->List C->List V
 | [],_,_=>[]|s::l,i,ds=>s.fill i ds::Sh.Dw l (i+s.many) ds
end
mutual
def V.same:V->V->Bool
 | .emp a e,.emp b f=>decide (a=b)&&wi e f| .ym,.ym=>true| .ptr k q τ,.ptr k' q' τ'=>decide (k=k')&&decide (q=q')&&wi τ τ'| .mp k,.mp k'=>decide (k=k')| .any,.any=>true| .top τ,.top τ'=>wi τ τ'| .fn f l,.fn f' l'=>decide (f=f')&&V.NB l l'| .tup l,.tup l'=>V.NB l l'| .d τ c,.d τ' c'=>wi τ τ'&&C.beq c c'|_,_=>false
def V.NB:List V->List V->Bool
 | [],[]=>true|x::xs,y::ys=>V.same x y&&V.NB xs ys|_,_=>false
end
mutual
def V.YU:∀(x y:V),V.same x y=true->x=y
 | .emp a e,y,h=>by cases y <;> simp only[V.same,az,decide_eq_true_eq,qz,reduceCtorEq]at h;obtain⟨rfl,rfl⟩:=h;rfl
 | .ym,y,h=>by cases y <;> simp only[V.same,reduceCtorEq]at h;rfl
 | .ptr k q τ,y,h=>by cases y <;> simp only[V.same,az,decide_eq_true_eq,qz,reduceCtorEq]at h;obtain⟨⟨rfl,rfl⟩,rfl⟩:=h;rfl
 | .mp k,y,h=>by cases y <;> simp only[V.same,decide_eq_true_eq,reduceCtorEq]at h;subst h;rfl
 | .any,y,h=>by cases y <;> simp only[V.same,reduceCtorEq]at h;rfl
 | .top τ,y,h=>by cases y <;> simp only[V.same,qz,reduceCtorEq]at h;subst h;rfl
 | .fn f l,y,h=>by cases y <;> simp only[V.same,az,decide_eq_true_eq,reduceCtorEq]at h;obtain⟨rfl,h⟩:=h;rw[V.mK l _ h]
 | .tup l,y,h=>by cases y <;> simp only[V.same,reduceCtorEq]at h;rw[V.mK l _ h]
 | .d τ c,y,h=>by cases y <;> simp only[V.same,az,qz,C.beq_iff,reduceCtorEq]at h;obtain⟨rfl,rfl⟩:=h;rfl
 | .sl _ _ _ _,y,h=>by cases y <;> simp[V.same]at h
 | .ts _ _ _,y,h=>by cases y <;> simp[V.same]at h
 | .yn _ _,y,h=>by cases y <;> simp[V.same]at h
 | .sr _ _ _ _ _ _ _,y,h=>by cases y <;> simp[V.same]at h
 | .agg _ _,y,h=>by cases y <;> simp[V.same]at h
def V.mK:∀(xs ys:List V),V.NB xs ys=true->xs=ys
 | [],ys,h=>by cases ys <;> simp[V.NB]at h;rfl
 |x::xs,ys,h=>by
  cases ys with
  |nil=>simp[V.NB]at h|cons y ys=>
   simp only[V.NB,az]at h;rw[V.YU x y h.1,V.mK xs ys h.2]
end
def aF {R:Type} (τ:Ty) (x:V) (K:List C->Option R):Option R:=
 match x with
 | .ym=>(match τ with| .slice _ _=>K [.slice []]|_=>none)|x=>(match Bp x with|some c=>if x.ty=τ then K [c]else none|none=>none)
def Ie {R:Type}:List Cap->List V->(List C->Option R)->Option R
 | [],[],K=>K []| .c τ::l,x::xs,K=>(match x with| .yn τ' c=>if τ'=τ then Ie l xs fun ds=>K (c::ds)else none|_=>none)| .v y::l,x::xs,K=>if V.same x y=true then Ie l xs K else none|_,_,_=>none
def VS:∀(l:List Cap) (i i':Nat) (ds ds':List C),(∀j,j<JM l->dk ds (i+j)=dk ds' (i'+j))->GH l i ds=GH l i' ds'
 | [],_,_,_,_,_=>by simp only[GH]
 | .c τ::l,i,i',ds,ds',h=>by
  simp only[GH,JM]at h ⊢;have h0:=h 0 (by omega);simp only[iw]at h0
  rw[h0,VS l (i+1) (i'+1) ds ds' fun j hj=>by
   have:=h (1+j) (by omega)
   rwa [<-fy,<-fy]at this]
 | .v x::l,i,i',ds,ds',h=>by simp only[GH,JM]at h ⊢;rw[VS l i i' ds ds' h]
def VR {R:Type} {r}:∀(l:List Cap) (xs:List V) {K:List C->Option R},Ie l xs K=some r->∃ds,K ds=some r/\ds.length=JM l/\GH l 0 ds=xs
 | [],[],K,h=>⟨[],by simpa only[Ie]using h,by simp[JM],by simp[GH]⟩| [],_::_,K,h=>by simp[Ie]at h
 | .c _::_,[],K,h=>by simp[Ie]at h
 | .v _::_,[],K,h=>by simp[Ie]at h
 | .c τ::l,x::xs,K,h=>by simp only[Ie]at h;split at h;{simp only[au]at h;obtain⟨rfl,h⟩:=h;obtain⟨ds,h1,h2,h3⟩:=VR l xs h;refine⟨_,h1,by simp[JM,h2],?_⟩;rename_i c;simp only[GH,cm];rw[VS l 1 0 (c::ds) ds fun j _=>by unfold dk;simp[qv 1 j],h3];rfl};{cases h}
 | .v y::l,x::xs,K,h=>by simp only[Ie,au]at h;obtain⟨h0,h⟩:=h;have:=V.YU _ _ h0;subst this;obtain⟨ds,h1,h2,h3⟩:=VR l xs h;exact⟨ds,h1,by simp only[JM];exact h2,by simp only[GH];rw[h3]⟩
mutual
def Sh.coe {R:Type}:Sh->V->(List C->Option R)->Option R
 | .d τ,x,K=>aF τ x K| .sl eb e t,x,K=>(match x with| .sl eb' e' cs t'=>if eb'=eb/\e'=e/\t'=t then K [.slice cs]else none|_=>none)| .ts eb e,x,K=>(match x with| .ts eb' e' cs=>if eb'=eb/\e'=e then K [.slice cs]else none|_=>none)| .sr k q cp eb e,x,K=>(match x with| .sr k' q' lo n cp' eb' e'=>if k'=k/\q'=q/\eb'=eb/\e'=e then(match cp,cp' with|false,none=>K [.int lo,.int n]|true,some c=>K [.int lo,.int n,.int c]|_,_=>none)else none|_=>none)| .yn τ,x,K=>(match x with| .yn τ' c=>if τ'=τ then K [c]else none|_=>none)| .arr e,x,K=>(match x with| .d (.arr n e') c=>if e'=e then(if n=c.elems.length then K [c]else none)else none|_=>none)| .agg τ l,x,K=>(match x with| .agg τ' vs=>if τ'=τ then Sh.Ns l vs K else none|_=>none)| .as v,x,K=>if V.same x v=true then K []else none| .vec k eb e,x,K=>(match x with| .sr k' q' lo n cp' eb' e'=>if k'=k/\q'=[]/\lo=0/\cp'.isNone=true/\eb'=eb/\e'=e then K [.int n]else none|_=>none)| .fnc f l,x,K=>(match x with| .fn f' vs=>if f'=f then Ie l vs K else none|_=>none)
def Sh.Ns {R:Type}:List Sh->List V->(List C->Option R)->Option R
 | [],[],K=>K []|s::l,x::xs,K=>if(match x with| .ym=>true|_=>false)=false then s.coe x fun d1=>Sh.Ns l xs fun d2=>K (d1++d2)else none|_,_,_=>none
end
def Jr {a b:List C} {j:Nat} (h:j<a.length):dk (a++b) j=dk a j:=by unfold dk;rw[bh,bh,List.getElem?_append_left h]
def MM {a b:List C} {j:Nat} (h:a.length<=j):dk (a++b) j=dk b (j-a.length):=by unfold dk;rw[bh,bh,List.getElem?_append_right h]
mutual
def Sh.Kn:∀(s:Sh) (i i':Nat) (ds ds':List C),(∀j,j<s.many->dk ds (i+j)=dk ds' (i'+j))->s.fill i ds=s.fill i' ds'
 | .d τ,i,i',ds,ds',h=>by simp only[Sh.fill];have:=h 0 (by simp[Sh.many]);simp only[iw]at this;rw[this]
 | .sl eb e t,i,i',ds,ds',h=>by simp only[Sh.fill];have:=h 0 (by simp[Sh.many]);simp only[iw]at this;rw[this]
 | .ts eb e,i,i',ds,ds',h=>by simp only[Sh.fill];have:=h 0 (by simp[Sh.many]);simp only[iw]at this;rw[this]
 | .sr k q cp eb e,i,i',ds,ds',h=>by
  simp only[Sh.fill];have h0:=h 0 (by cases cp <;> simp[Sh.many]);have h1:=h 1 (by cases cp <;> simp[Sh.many]);simp only[iw]at h0;rw[h0,h1];cases cp with
  |false=>rfl|true=>rw[h 2 (by simp[Sh.many])]
 | .yn τ,i,i',ds,ds',h=>by simp only[Sh.fill];have:=h 0 (by simp[Sh.many]);simp only[iw]at this;rw[this]
 | .arr e,i,i',ds,ds',h=>by simp only[Sh.fill];have:=h 0 (by simp[Sh.many]);simp only[iw]at this;rw[this]
 | .agg τ l,i,i',ds,ds',h=>by simp only[Sh.fill];rw[Sh.RT l i i' ds ds' (by simpa only[Sh.many]using h)]
 | .as v,_,_,_,_,_=>by simp only[Sh.fill]
 | .vec k eb e,i,i',ds,ds',h=>by simp only[Sh.fill];have:=h 0 (by simp[Sh.many]);simp only[iw]at this;rw[this]
 | .fnc f l,i,i',ds,ds',h=>by simp only[Sh.fill];rw[VS l i i' ds ds' (by simpa only[Sh.many]using h)]
def Sh.RT:∀(l:List Sh) (i i':Nat) (ds ds':List C),(∀j,j<Sh.HU l->dk ds (i+j)=dk ds' (i'+j))->Sh.Dw l i ds=Sh.Dw l i' ds'
 | [],_,_,_,_,_=>by simp only[Sh.Dw]
 |s::l,i,i',ds,ds',h=>by
  simp only[Sh.Dw];simp only[Sh.HU]at h
  rw[Sh.Kn s i i' ds ds' (fun j hj=>h j (by omega)),Sh.RT l (i+s.many) (i'+s.many) ds ds' (fun j hj=>by
   have:=h (s.many+j) (by omega)
   rwa [<-fy,<-fy]at this)]
end
def q4O {R:Type} {r:R} {τ:Ty} {x:V} {K:List C->Option R} (h:aF τ x K=some r):∃c,K [c]=some r/\V.BB x (.d τ c)/\(x≠.ym->(V.d τ c).ty=x.ty):=by
 cases x <;> simp only[aF]at h
 case ym=>
  split at h;{exact⟨_,h,by simp[V.BB],fun h=>absurd rfl h⟩};{cases h}
 all_goals
  split at h;{rename_i c hc;simp only[au]at h;obtain⟨h1,h⟩:=h;refine⟨c,h,?_,fun _=>h1.symm⟩;simp only[V.BB];exact⟨hc,h1⟩};{cases h}
mutual
def Sh.aH {R:Type} {r:R}:∀(s:Sh) (x:V) {K:List C->Option R},s.coe x K=some r->∃ds,K ds=some r/\ds.length=s.many/\V.BB x (s.fill 0 ds)/\(x≠.ym->(s.fill 0 ds).ty=x.ty)
 | .d τ,x,K,h=>by simp only[Sh.coe]at h;obtain⟨c,h1,h2,h3⟩:=q4O h;exact⟨[c],h1,by simp[Sh.many],by simp only[Sh.fill];exact h2,by simp only[Sh.fill];exact h3⟩
 | .sl eb e t,x,K,h=>by cases x <;> simp only[Sh.coe,reduceCtorEq,au]at h;obtain⟨⟨rfl,rfl,rfl⟩,h⟩:=h;exact⟨_,h,by simp[Sh.many],by simp[Sh.fill,dk,C.elems,V.BB],fun _=>rfl⟩
 | .ts eb e,x,K,h=>by cases x <;> simp only[Sh.coe,reduceCtorEq,au]at h;obtain⟨⟨rfl,rfl⟩,h⟩:=h;exact⟨_,h,by simp[Sh.many],by simp[Sh.fill,dk,C.elems,V.BB],fun _=>rfl⟩
 | .sr k q cp eb e,x,K,h=>by cases x <;> simp only[Sh.coe,reduceCtorEq,au]at h;obtain⟨⟨rfl,rfl,rfl,rfl⟩,h⟩:=h;split at h;{exact⟨_,h,by simp[Sh.many],by simp[Sh.fill,dk,aj,V.BB],fun _=>rfl⟩};{exact⟨_,h,by simp[Sh.many],by simp[Sh.fill,dk,aj,V.BB],fun _=>rfl⟩};{cases h}
 | .yn τ,x,K,h=>by cases x <;> simp only[Sh.coe,reduceCtorEq,au]at h;obtain⟨rfl,h⟩:=h;exact⟨_,h,by simp[Sh.many],by simp[Sh.fill,dk,V.BB],fun _=>rfl⟩
 | .arr e,x,K,h=>by simp only[Sh.coe]at h;split at h;{simp only[au]at h;obtain⟨rfl,h1,h⟩:=h;subst h1;exact⟨_,h,by simp[Sh.many],by simp[Sh.fill,dk,V.BB,Bp,V.ty],fun _=>rfl⟩};{cases h}
 | .agg τ l,x,K,h=>by cases x <;> simp only[Sh.coe,reduceCtorEq,au]at h;obtain⟨rfl,h⟩:=h;obtain⟨ds,h1,h2,h3⟩:=Sh.rN l _ h;exact⟨ds,h1,by simpa only[Sh.many]using h2,by simp only[Sh.fill,V.BB];exact⟨trivial,h3⟩,fun _=>rfl⟩
 | .as v,x,K,h=>by simp only[Sh.coe,au]at h;obtain⟨h1,h⟩:=h;have:=V.YU _ _ h1;subst this;exact⟨_,h,by simp[Sh.many],by simp only[Sh.fill];exact V.MU _,fun _=>by simp only[Sh.fill]⟩
 | .vec k eb e,x,K,h=>by
  cases x <;> simp only[Sh.coe,reduceCtorEq,au]at h;obtain⟨⟨rfl,rfl,rfl,hc,rfl,rfl⟩,h⟩:=h;rename_i cp _ _;cases cp with
  |some c=>cases hc
  |none=>exact⟨_,h,by simp[Sh.many],by simp[Sh.fill,dk,aj,V.BB],fun _=>rfl⟩
 | .fnc f l,x,K,h=>by cases x <;> simp only[Sh.coe,reduceCtorEq,au]at h;obtain⟨rfl,h⟩:=h;obtain⟨ds,h1,h2,h3⟩:=VR l _ h;exact⟨ds,h1,by simpa only[Sh.many]using h2,by simp only[Sh.fill,V.BB,h3],fun _=>rfl⟩
def Sh.rN {R:Type} {r}:∀(l:List Sh) (xs:List V) {K:List C->Option R},Sh.Ns l xs K=some r->∃ds,K ds=some r/\ds.length=Sh.HU l/\V.Fp xs (Sh.Dw l 0 ds)
 | [],xs,K,h=>by cases xs <;> simp only[Sh.Ns,reduceCtorEq]at h;exact⟨_,h,by simp[Sh.HU],by simp[Sh.Dw,V.Fp]⟩
 |s::l,[],K,h=>by simp[Sh.Ns]at h
 |s::l,x::xs,K,h=>by
  simp only[Sh.Ns,au]at h;obtain⟨hn,h⟩:=h;obtain⟨d1,h1,h2,h3,h4⟩:=Sh.aH s x h;obtain⟨d2,h5,h6,h7⟩:=Sh.rN l xs h1;refine⟨_,h5,by simp[Sh.HU,h2,h6],?_⟩;have e1:s.fill 0 (d1++d2)=s.fill 0 d1:=Sh.Kn s 0 0 _ _ fun j hj=>Jr (by omega);have e2:Sh.Dw l s.many (d1++d2)=Sh.Dw l 0 d2:=Sh.RT l _ 0 _ _ fun j hj=>by rw[MM (by omega),h2];congr 1;omega
  simp only[Sh.Dw,V.Fp,cm,e1,e2];exact⟨h3,h4 (by intro e;subst e;simp at hn),h7⟩
end
def JS:List (Nat × Sh)->Nat
 | []=>0|(_,s)::l=>s.many+JS l
def GM:List (Nat × Sh)->Nat->List C->List (Nat × V)
 | [],_,_=>[]|(j,s)::l,i,ds=>(j,s.fill i ds)::GM l (i+s.many) ds
def GN:List (Nat × Sh)->Nat->List C->List (Nat × Option Nat)
 | [],_,_=>[]|(_,s)::l,i,ds=>(match s with| .sl _ _ t=>(t,some (dk ds i).elems.length)::GN l (i+s.many) ds|_=>GN l (i+s.many) ds)
def FJ:List (Key × OSh)->Nat
 | []=>0|(_,.box s)::l=>s.many+FJ l|(_,.map _ _)::l=>FJ l|(_,.dead _)::l=>1+FJ l|(_,.it)::l=>2+FJ l
def dE (τ:Ty) (l:Es):List (C × V):=l.map fun p=>(p.1,.d τ p.2)
def isD (τ:Ty):V->Bool
 | .d τ' _=>decide (τ'=τ)|_=>false
def unV:V->C
 | .d _ c=>c|_=>.nil
def BO (τ:Ty):List (C × V)->Bool
 | []=>true|(_,v)::es=>isD τ v&&BO τ es
def unE (es:List (C × V)):Es:=es.map fun p=>(p.1,unV p.2)
def aP {τ}:∀{es:List (C × V)},BO τ es=true->dE τ (unE es)=es
 | [],_=>rfl|(k,v)::es,h=>by simp only[BO,az]at h;have:=aP h.2;simp only[dE,unE,dy,pc]at this ⊢;rw[this];cases v <;> simp only[isD,reduceCtorEq,decide_eq_true_eq]at h <;> first|exact h.1.elim|(rw[h.1];rfl)
def Cu (τ:Ty):∀(l:Es),BO τ (dE τ l)=true
 | []=>rfl|(k,v)::l=>by have:=Cu τ l;simp only[dE,dy,BO,isD,decide_true,qp]at this ⊢;exact this
def Dn (τ:Ty) (l:Es):unE (dE τ l)=l:=by
 induction l with
 |nil=>rfl|cons p l ih=>simp only[dE,unE,dy,unV]at ih ⊢;rw[ih]
def pJ (τ:Ty):∀m:Es,DT τ (dE τ m)=true
 | []=>rfl|_::m=>by have:=pJ τ m;have h:wi τ τ=true:=(qz τ τ).2 rfl;simp only[dE,dy,DT,h,qp]at this ⊢;exact this
def BX:List (Key × OSh)->Nat->Nat->List C->List Es->List (Key × O)
 | [],_,_,_,_=>[]|(k,.box s)::l,i,j,ds,ms=>(k,.box (s.fill i ds))::BX l (i+s.many) j ds ms|(k,.map kτ vτ)::l,i,j,ds,ms=>(k,.map kτ vτ (dE vτ (dm ms j)))::BX l i (j+1) ds ms|(k,.dead e)::l,i,j,ds,ms=>(k,.dead (.arr (dk ds i).toInt.toNat e))::BX l (i+1) j ds ms|(k,.it)::l,i,j,ds,ms=>(k,.it (dk ds i).toStr (dk ds (i+1)).toInt.toNat)::BX l (i+2) j ds ms
def Ju (sh:SSh) (A:Key->Option O) (ds:List C) (ms:List Es):S:=
 ⟨GM sh.env 0 ds,BX sh.loc (JS sh.env) 0 ds ms,A,GN sh.env 0 ds⟩
def nN (s:S) (sh:Sh) (d:List C):Bool:=
 match sh with
 | .sl _ _ t=>(match EA s.tk t with|some L=>bw L (dk d 0).elems.length|none=>false)|_=>true
def Vn {R:Type} (s:S):List (Nat × Sh)->(List C->Option R)->Option R
 | [],K=>K []|(j,sh)::l,K=>sh.coe (s.get j) fun d1=>if(sh.fill 0 d1).ty.isAgg=(s.get j).ty.isAgg then(bif nN s sh d1 then Vn s l fun d2=>K (d1++d2)else none)else none
def xA:V->Bool
 | .ym=>true|_=>false
def Ja {R:Type} (s:S):List (Key × OSh)->(List C->List Es->Option R)->Option R
 | [],K=>K [] []|(k,.box sh)::l,K=>(match s.obj k with|some (.box x)=>if xA x=false then sh.coe x fun d1=>if(sh.fill 0 d1).plain=true/\(sh.fill 0 d1).Ay=true then Ja s l fun d2 m2=>K (d1++d2) m2 else none else none|_=>none)|(k,.map kτ vτ)::l,K=>(match s.obj k with|some (.map kτ' vτ' es)=>if kτ'=kτ/\vτ'=vτ then(if BO vτ es=true then Ja s l fun d2 m2=>K d2 (unE es::m2)else none)else none|_=>none)|(k,.dead e)::l,K=>(match s.obj k with|some o=>(match o.ty with| .arr M e'=>if e'=e then Ja s l fun d2 m2=>K (.int M::d2) m2 else none|_=>none)|_=>none)|(k,.it)::l,K=>(match s.obj k with|some (.it x p)=>Ja s l fun d2 m2=>K (.str x:: .int p::d2) m2|_=>none)
def Np (f g:Nat->Bool):List Cap->Bool
 | []=>true| .c _::l=>Np f g l| .v x::l=>x.ok f g&&Np f g l
def Zl {f g}:∀(l:List Cap) (i:Nat) (ds:List C),Np f g l=true->rv f g (GH l i ds)=true
 | [],_,_,_=>rfl| .c _::l,i,ds,h=>by simp only[Np]at h;simp only[GH,rv,va,qp];exact Zl l _ _ h
 | .v x::l,i,ds,h=>by simp only[Np,az]at h;simp only[GH,rv,az];exact⟨h.1,Zl l _ _ h.2⟩
mutual
def Sh.okB (f g:Nat->Bool):Sh->Bool
 | .sl _ _ t=>g t| .sr (.l k) _ _ _ _=>f k| .vec (.l k) _ _=>f k| .agg _ l=>Sh.XI f g l| .as v=>v.ok f g| .fnc _ l=>Np f g l|_=>true
def Sh.XI (f g:Nat->Bool):List Sh->Bool
 | []=>true|s::l=>s.okB f g&&Sh.XI f g l
end
mutual
def Sh.OW {f g}:∀(s:Sh) (i:Nat) (ds:List C),s.okB f g=true->(s.fill i ds).ok f g=true
 | .sl _ _ t,_,_,h=>by simpa only[Sh.fill,va,Sh.okB]using h
 | .sr (.l k) _ _ _ _,_,_,h=>by simpa only[Sh.fill,va,Sh.okB]using h
 | .sr (.g k) _ _ _ _,_,_,h=>by simp only[Sh.fill,va]
 | .vec (.l k) _ _,_,_,h=>by simpa only[Sh.fill,va,Sh.okB]using h
 | .vec (.g k) _ _,_,_,h=>by simp only[Sh.fill,va]
 | .agg _ l,_,_,h=>by simp only[Sh.fill,va,Sh.okB]at h ⊢;exact Sh.uZ l _ _ h
 | .as v,_,_,h=>by simpa only[Sh.fill,Sh.okB]using h
 | .fnc _ l,i,ds,h=>by simp only[Sh.fill,va,Sh.okB]at h ⊢;exact Zl l i ds h
 | .d _,_,_,_| .ts _ _,_,_,_| .yn _,_,_,_| .arr _,_,_,_=>by simp only[Sh.fill,va]
def Sh.uZ {f g}:∀(l:List Sh) (i:Nat) (ds:List C),Sh.XI f g l=true->rv f g (Sh.Dw l i ds)=true
 | [],_,_,_=>rfl|s::l,i,ds,h=>by simp only[Sh.XI,az]at h;simp only[Sh.Dw,rv,az];exact⟨Sh.OW s _ _ h.1,Sh.uZ l _ _ h.2⟩
end
def OSh.okB (f g:Nat->Bool):OSh->Bool
 | .box s=>s.okB f g| .map _ _=>true| .dead _| .it=>true
def Ky:List (Key × OSh)->Key->Bool
 | [],_=>false|(j,_)::l,k=>if j=k then true else Ky l k
def WJ (l:List (Key × OSh)) (n:Nat):Bool:=Ky l (.l n)
def MR:List (Nat × Sh)->Nat->Bool
 | [],_=>false|(_,.sl _ _ t)::l,u=>if t=u then true else MR l u|_::l,u=>MR l u
def Nb (L:List (Key × OSh)):List (Key × O)->Bool
 | []=>true|(.g k,_)::l=>Ky L (.g k)&&Nb L l|(.l _,_)::l=>Nb L l
def Oo (f g:Nat->Bool):List (Key × OSh)->Bool
 | []=>true|(_,o)::l=>o.okB f g&&Oo f g l
def Vo (f g:Nat->Bool):List (Nat × Sh)->Bool
 | []=>true|(_,s)::l=>s.okB f g&&Vo f g l
def okS (sh:SSh) (loc:List (Key × O)):Bool:=
 Oo (WJ sh.loc) (MR sh.env) sh.loc&&Nb sh.loc loc&&Vo (WJ sh.loc) (MR sh.env) sh.env
def WN:∀(l:List (Key × OSh)) (i j:Nat) (ds:List C) (ms:List Es) (k:Key),(AR (BX l i j ds ms) k).isSome=Ky l k
 | [],_,_,_,_,_=>rfl|(n,.box s)::l,i,j,ds,ms,k=>by simp only[BX,AR,Ky];split;{rfl};{exact WN l _ _ _ _ _}
 |(n,.map _ _)::l,i,j,ds,ms,k|(n,.dead _)::l,i,j,ds,ms,k|(n,.it)::l,i,j,ds,ms,k=>by simp only[BX,AR,Ky];split;{rfl};{exact WN l _ _ _ _ _}
def q63 (l:List (Key × OSh)) (i j:Nat) (ds:List C) (ms:List Es):Bf (BX l i j ds ms)=WJ l:=by funext n;exact WN l i j ds ms (.l n)
def wM:∀(l:List (Nat × Sh)) (i:Nat) (ds:List C),CV (GN l i ds)=MR l
 | [],_,_=>rfl|(_,s)::l,i,ds=>by have ih:=wM l (i+s.many) ds;funext u;have ih:=congrFun ih u;unfold CV at ih ⊢;cases s <;> simp only[GN,MR,look] <;> (try exact ih);split;{rfl};{exact ih}
def Wi {f g}:∀(l:List (Key × OSh)) (i j:Nat) (ds:List C) (ms:List Es),Oo f g l=true->FK f g (BX l i j ds ms)=true
 | [],_,_,_,_,_=>rfl|(n,.box s)::l,i,j,ds,ms,h=>by simp only[Oo,az]at h;simp only[BX,FK,az,O.okB,O.ok];exact⟨Sh.OW s _ _ h.1,Wi l _ _ _ _ h.2⟩
 |(n,.map _ vτ)::l,i,j,ds,ms,h=>by simp only[Oo,az]at h;simp only[BX,FK,az,O.okB,O.ok];exact⟨by rw[pJ vτ _,Bool.or_true],Wi l _ _ _ _ h.2⟩
 |(n,.dead _)::l,i,j,ds,ms,h|(n,.it)::l,i,j,ds,ms,h=>by simp only[Oo,az]at h;simp only[BX,FK,az,O.okB,O.ok];exact⟨trivial,Wi l _ _ _ _ h.2⟩
def tV {f g}:∀(l:List (Nat × Sh)) (i:Nat) (ds:List C),Vo f g l=true->JJ f g (GM l i ds)=true
 | [],_,_,_=>rfl|(n,s)::l,i,ds,h=>by simp only[Vo,az]at h;simp only[GM,JJ,az];exact⟨Sh.OW s _ _ h.1,tV l _ _ h.2⟩
def ZN {L} {i j:Nat} {ds ms}:∀{l:List (Key × O)},Nb L l=true->Ic (BX L i j ds ms) l=true
 | [],_=>rfl|(.g k,_)::l,h=>by simp only[Nb,az]at h;simp only[Ic,az,WN];exact⟨h.1,ZN h.2⟩
 |(.l _,_)::l,h=>by simp only[Nb]at h;simp only[Ic];exact ZN h
def Va {R:Type} (sh:SSh) (s:S) (K:List C->List Es->Option R):Option R:=
 Vn s sh.env fun d1=>Ja s sh.loc fun d2 ms=>if okS sh s.loc=true then K (d1++d2) ms else none
def bM:∀(l:List (Nat × Sh)) (i i':Nat) (ds ds':List C),(∀j,j<JS l->dk ds (i+j)=dk ds' (i'+j))->GM l i ds=GM l i' ds'
 | [],_,_,_,_,_=>rfl|(n,s)::l,i,i',ds,ds',h=>by
  simp only[JS]at h;simp only[GM]
  rw[Sh.Kn s i i' ds ds' (fun j hj=>h j (by omega)),bM l (i+s.many) (i'+s.many) ds ds' (fun j hj=>by
   have:=h (s.many+j) (by omega)
   rwa [<-fy,<-fy]at this)]
def bO:∀(l:List (Nat × Sh)) (i i':Nat) (ds ds':List C),(∀j,j<JS l->dk ds (i+j)=dk ds' (i'+j))->GN l i ds=GN l i' ds'
 | [],_,_,_,_,_=>rfl|(n,s)::l,i,i',ds,ds',h=>by
  simp only[JS]at h;simp only[GN]
  have e:=bO l (i+s.many) (i'+s.many) ds ds' (fun j hj=>by
   have:=h (s.many+j) (by omega)
   rwa [<-fy,<-fy]at this)
  cases s <;> simp only at e ⊢ <;> (try exact e);have h0:=h 0 (by simp only[Sh.many];omega);simp only[iw]at h0;rw[e,h0]
def Jb:∀(l:List (Key × OSh)) (i i' m:Nat) (ds ds':List C) (ms:List Es),(∀j,j<FJ l->dk ds (i+j)=dk ds' (i'+j))->BX l i m ds ms=BX l i' m ds' ms
 | [],_,_,_,_,_,_,_=>rfl|(n,.box s)::l,i,i',m,ds,ds',ms,h=>by
  simp only[FJ]at h;simp only[BX]
  rw[Sh.Kn s i i' ds ds' (fun j hj=>h j (by omega)),Jb l (i+s.many) (i'+s.many) m ds ds' ms (fun j hj=>by
   have:=h (s.many+j) (by omega)
   rwa [<-fy,<-fy]at this)]
 |(n,.map _ _)::l,i,i',m,ds,ds',ms,h=>by simp only[FJ]at h;simp only[BX];rw[Jb l i i' (m+1) ds ds' ms h]
 |(n,.dead e)::l,i,i',m,ds,ds',ms,h=>by
  simp only[FJ]at h;simp only[BX];have h0:=h 0 (by omega);simp only[iw]at h0
  rw[h0,Jb l (i+1) (i'+1) m ds ds' ms (fun j hj=>by
   have:=h (1+j) (by omega)
   rwa [<-fy,<-fy]at this)]
 |(n,.it)::l,i,i',m,ds,ds',ms,h=>by
  simp only[FJ]at h;simp only[BX];have h0:=h 0 (by omega);have h1:=h 1 (by omega);simp only[iw]at h0
  rw[h0,h1,Jb l (i+2) (i'+2) m ds ds' ms (fun j hj=>by
   have:=h (2+j) (by omega)
   rwa [<-fy,<-fy]at this)]
def SG:∀(l:List (Key × OSh)) (i m:Nat) (ds:List C) (e:Es) (ms:List Es),BX l i (m+1) ds (e::ms)=BX l i m ds ms
 | [],_,_,_,_,_=>rfl|(n,.box s)::l,i,m,ds,e,ms=>by simp only[BX];rw[SG l]
 |(n,.map _ _)::l,i,m,ds,e,ms=>by simp only[BX];rw[SG l];rfl
 |(n,.dead _)::l,i,m,ds,e,ms|(n,.it)::l,i,m,ds,e,ms=>by simp only[BX];rw[SG l]
def tR {R:Type} {r s}:∀(l:List (Nat × Sh)) {K:List C->Option R},Vn s l K=some r->
  ∃ds,K ds=some r/\ds.length=JS l/\(∀f g,JJ f g (GM l 0 ds)=true->Hs f g s (GM l 0 ds))/\tkW s (GN l 0 ds)
 | [],K,h=>⟨[],h,rfl,fun _ _ _=>trivial,trivial⟩|(n,sh)::l,K,h=>by
  simp only[Vn]at h;obtain⟨d1,h1,h2,h3,h4⟩:=Sh.aH sh _ h;simp only[au]at h1;obtain⟨h5,h1⟩:=h1;cases htk:nN s sh d1 with
  |false=>rw[htk]at h1;cases h1
  |true=>
   rw[htk,cond_true]at h1;obtain⟨d2,h6,h7,h8,h9⟩:=tR l h1;have e1:sh.fill 0 (d1++d2)=sh.fill 0 d1:=Sh.Kn sh 0 0 _ _ fun j hj=>Jr (by omega);have sft:∀j,dk (d1++d2) (sh.many+j)=dk d2 (0+j):=fun j=>by rw[MM (by omega),h2];congr 1;omega
   have e2:GM l sh.many (d1++d2)=GM l 0 d2:=bM l _ 0 _ _ fun j hj=>sft j;have e3:GN l sh.many (d1++d2)=GN l 0 d2:=bO l _ 0 _ _ fun j hj=>sft j;refine⟨_,h6,by simp[JS,h2,h7],fun f g hok=>?_,?_⟩;{simp only[GM,cm,e1,e2,JJ,az]at hok ⊢;exact⟨h3,hok.1,.inr h5,h8 f g hok.2⟩};{simp only[GN,cm];cases sh <;> simp only[e3] <;> (try exact h9);simp only[nN]at htk;simp only[Sh.many]at h2;rw[Jr (by omega)];refine⟨?_,h9⟩;split at htk;{rename_i L hL;have:=fj htk;show s.live _=some _;rw[<-this];exact hL};{cases htk}}
def q2o {s:S} {A'}:∀{l:List (Nat × Option Nat)},tkW s l->tkW (s.wA A') l
 | [],_=>trivial|(_,_)::_,h=>⟨h.1,q2o h.2⟩
def tY {f g} {s:S} {A'}:∀{l:List (Nat × V)},Hs f g s l->Hs f g (s.wA A') l
 | [],_=>trivial|(_,_)::_,h=>⟨h.1,h.2.1,h.2.2.1,tY h.2.2.2⟩
def q4Q {R:Type} {r:R} {sh:SSh} {s:S} {K:List C->List Es->Option R} (h:Va sh s K=some r):
  ∃ds ms,K ds ms=some r/\∀(X:Cx) (n:Nat) (A':Key->Option O),leA s.A A'->DS X n (s.wA A') ((Ju sh s.A ds ms).wA A'):=by
 unfold Va at h;obtain⟨d1,h1,h2,h3,h4⟩:=tR _ h;have det:∃d2 ms,K (d1++d2) ms=some r/\okS sh s.loc=true/\d2.length=FJ sh.loc/\∀A',leA s.A A'->Ft (s.wA A') (BX sh.loc 0 0 d2 ms):=by
  -- what is read does not lean on A'
  have gen:∀(l:List (Key × OSh)) {K:List C->List Es->Option R},Ja s l K=some r->∃ds ms,K ds ms=some r/\ds.length=FJ l/\∀A',leA s.A A'->Ft (s.wA A') (BX l 0 0 ds ms):=by
   intro l
   induction l with
   |nil=>intro K h;exact⟨[],[],h,rfl,fun _ _=>trivial⟩|cons p l ih=>
    obtain⟨k,o⟩:=p;intro K h;cases o with
    |box sh=>
     simp only[Ja]at h;split at h
     ·rename_i x hx;simp only[au]at h;obtain⟨h0,h⟩:=h;obtain⟨d1,h1,h2,h3,h4⟩:=Sh.aH sh _ h;simp only[au]at h1;obtain⟨h5,h1⟩:=h1;obtain⟨d2,ms,h6,h7,h8⟩:=ih h1;have e1:sh.fill 0 (d1++d2)=sh.fill 0 d1:=Sh.Kn sh 0 0 _ _ fun j hj=>Jr (by omega);have e2:BX l sh.many 0 (d1++d2) ms=BX l 0 0 d2 ms:=Jb l _ 0 0 _ _ _ fun j hj=>by rw[MM (by omega),h2];congr 1;omega
      refine⟨_,_,h6,by simp[FJ,h2,h7],fun A' hA=>?_⟩;simp only[BX,cm,e1,e2,Ft];rw[Cy hA hx];exact⟨⟨h3,h4 (by intro e;subst e;simp[xA]at h0),h5.1,h5.2⟩,h8 A' hA⟩
     ·cases h
    |map kτ vτ=>
     simp only[Ja]at h;split at h;{rename_i kτ' vτ' es hx;simp only[au]at h;obtain⟨⟨rfl,rfl⟩,hd,h⟩:=h;obtain⟨d2,ms,h6,h7,h8⟩:=ih h;refine⟨_,_,h6,by simp[FJ,h7],fun A' hA=>?_⟩;simp only[BX,Ft,SG];rw[Cy hA hx];exact⟨⟨rfl,rfl,(aP hd).symm⟩,h8 A' hA⟩};{cases h}
    |dead e=>
     simp only[Ja]at h;split at h
     ·rename_i o hx;split at h
      ·rename_i M e' ht;simp only[au]at h;obtain⟨rfl,h⟩:=h;obtain⟨d2,ms,h6,h7,h8⟩:=ih h;have e2:BX l 1 0 (.int M::d2) ms=BX l 0 0 d2 ms:=Jb l _ 0 0 _ _ _ fun j hj=>by unfold dk;simp[qv 1 j]
       refine⟨_,_,h6,by simp[FJ,h7,qv],fun A' hA=>?_⟩;simp only[BX,cm,e2,Ft];rw[Cy hA hx];refine⟨?_,h8 A' hA⟩;have:(dk (C.int M::d2) 0).toInt.toNat=M:=by simp[dk,aj]
       rw[this];cases o <;> exact ht.symm
      ·cases h
     ·cases h
    |it=>
     simp only[Ja]at h;split at h
     ·rename_i x p hx;obtain⟨d2,ms,h6,h7,h8⟩:=ih h;have e2:BX l 2 0 (.str x:: .int p::d2) ms=BX l 0 0 d2 ms:=Jb l _ 0 0 _ _ _ fun j hj=>by unfold dk;simp[qv 2 j]
      refine⟨_,_,h6,by simp[FJ,h7];omega,fun A' hA=>?_⟩;simp only[BX,cm,e2,Ft];rw[Cy hA hx];refine⟨?_,h8 A' hA⟩;have e3:(dk (C.str x::C.int p::d2) 0).toStr=x:=by simp[dk,C.toStr]
      have e4:(dk (C.str x::C.int p::d2) 1).toInt.toNat=p:=by simp[dk,aj]
      rw[e3,e4];exact⟨rfl,rfl⟩
     ·cases h
  obtain⟨d2,ms,h5,h6,h7⟩:=gen _ h1;simp only[au]at h5;exact⟨d2,ms,h5.2,h5.1,h6,h7⟩
 obtain⟨d2,ms,h5,h6,h7,h8⟩:=det;refine⟨d1++d2,ms,h5,fun X n A' hA=>?_⟩;have e1:GM sh.env 0 (d1++d2)=GM sh.env 0 d1:=bM _ 0 0 _ _ fun j hj=>Jr (by omega);have e2:GN sh.env 0 (d1++d2)=GN sh.env 0 d1:=bO _ 0 0 _ _ fun j hj=>Jr (by omega);have e3:BX sh.loc (JS sh.env) 0 (d1++d2) ms=BX sh.loc 0 0 d2 ms:=Jb _ _ 0 0 _ _ _ fun j hj=>by rw[MM (by omega),h2];congr 1;omega
 simp only[okS,az]at h6;have hL:Bf (Ju sh s.A (d1++d2) ms).loc=WJ sh.loc:=q63 ..;have hT:CV (Ju sh s.A (d1++d2) ms).tk=MR sh.env:=wM ..;refine q2X rfl ?_ ?_ (Na (ZN h6.1.2)) ?_ ?_;{show Ft (s.wA A') (BX sh.loc (JS sh.env) 0 (d1++d2) ms);rw[e3];exact h8 A' hA};{show FK (Bf (Ju sh s.A (d1++d2) ms).loc) (CV (Ju sh s.A (d1++d2) ms).tk) _=true;rw[hL,hT];exact Wi _ _ _ _ _ h6.1.1};{show tkW (s.wA A') (GN sh.env 0 (d1++d2));rw[e2];exact q2o h4};{show Hs (Bf (Ju sh s.A (d1++d2) ms).loc) (CV (Ju sh s.A (d1++d2) ms).tk) (s.wA A') (GM sh.env 0 (d1++d2));refine tY ?_;rw[hL,hT,e1];exact h3 _ _ (tV _ _ _ h6.2)}
def AQ.lW {Γ w} {s:S} (c:AQ Γ w s) {k x x'} (h:s.obj k=some (.box x)) (h1:Own Γ w k (.box x)->Own Γ w k (.box x')) (h2:(O.box x).Jl->(O.box x').Jl):AQ Γ w (s.put k (.box x')):=by refine⟨c.hH,c.hZ,c.hκ,fun j o hj=>?_,fun j hj=>?_,c.Jz (fun j hj=>?_),c.tok,c.zc,c.hgl,c.hoo,c.hσ⟩;{rw[DN]at hj;split at hj;{rename_i e;subst e;cases hj;exact(c.obj _ _ h).imp (fun h=>⟨h.1,h2 h.2⟩) h1};{exact c.obj j o hj}};{rw[DN];split;{simp};{exact c.dom j hj}};{unfold S.Bb at hj ⊢;rw[DN];split;{rename_i e;subst e;rw[h]at hj;cases hj};{exact hj}}
def mvK (K:Key) (t:Nat) (k:Key):Key:=if k=K then .l t else k
def AtE (X:Cx) (n:Nat) (Γ0:G) (K:Key) (t:Nat) (s:S) (a:Act) (w:World):Prop:=
 ∃Γ,GLe Γ0 Γ/\Γ.gl=X.gl/\AQ Γ w s/\GD Γ s a.tmps/\a.tmps.size=n/\a.defers=[]/\AOk s.A/\∀x,Γ.ι K=some x->Γ.ι (.l t)=some x
def v8 {Γ:G} {K} {t:Nat} (h:∀x,Γ.ι K=some x->Γ.ι (.l t)=some x) {hm} (hn:hm≠some K):Gf Γ Γ (mvK K t) hm:=
 ⟨gq _,fun k x hk=>by
  unfold mvK;split;{rename_i e;subst e;exact h x hk}
  ·exact hk,fun _ _ h=>h,fun k b p sz e hk=>by
  have:mvK K t k=k:=by unfold mvK;split;{rename_i e2;subst e2;exact absurd e hn};{rfl}
  rw[this];exact⟨hk,rfl⟩⟩
def AG.mv {Γ:G} {K} {t:Nat} (h:∀x,Γ.ι K=some x->Γ.ι (.l t)=some x) {x:V} {v} (hr:AG Γ x v):AG Γ (x.ren (mvK K t) id) v:=
 AG.ren (v8 h (by simp)) (fun _ _ h=>h) hr
def IJ (K:Key) (t:Nat):List Key->S->S
 | [],s=>s|k::ks,s=>if k=K\/k= .l t then IJ K t ks s else(match s.obj k with|some (.box x)=>IJ K t ks (s.put k (.box (x.ren (mvK K t) id)))|_=>IJ K t ks s)
def YJ (K:Key) (t:Nat):∀(ks:List Key) (s:S),(IJ K t ks s).A=s.A
 | [],_=>rfl|k::ks,s=>by simp only[IJ];split;{exact YJ K t ks s};{split;{exact YJ K t ks _};{exact YJ K t ks s}}
def WkE (K:Key) (t:Nat) (s s':S):Prop:=s'.A=s.A/\∀(X:Cx) (n:Nat) (A':Key->Option O),leA s.A A'->∀(Γ0:G) (a:Act) (w:World),AtE X n Γ0 K t (s.wA A') a w->AtE X n Γ0 K t (s'.wA A') a w
def WkE.refl {K} {t:Nat} (s:S):WkE K t s s:=⟨rfl,fun _ _ _ _ _ _ _ h=>h⟩
def WkE.trans {K} {t:Nat} {a b c} (h:WkE K t a b) (h':WkE K t b c):WkE K t a c:=
 ⟨h'.1.trans h.1,fun X n A' hA Γ0 ac w hat=>h'.2 X n A' (by rw[h.1];exact hA) Γ0 ac w (h.2 X n A' hA Γ0 ac w hat)⟩
def q3J {X} {n:Nat} {Γ0 K} {t:Nat} {a w} {s:S} {k} {x:V} (hk:¬(k=K\/k= .l t)) (hx:s.obj k=some (.box x)) (h:AtE X n Γ0 K t s a w):AtE X n Γ0 K t (s.put k (.box (x.ren (mvK K t) id))) a w:=by
 obtain⟨Γ,g1,g3,c,hs,hn,hf,hA,hι⟩:=h;have hkK:(some k:Option Key)≠some K:=fun e=>hk (.inl (by cases e;rfl));refine⟨Γ,g1,g3,c.lW hx (fun yw=>?_) (fun hv=>?_),hs,hn,hf,hA,hι⟩
 ·obtain⟨b,cells,T,h1,h2,h3,h4,h5,h6,h7,h8⟩:=yw;have hmv:mvK K t k=k:=by unfold mvK;rw[if_neg (fun e=>hk (.inl e))]
  have:=AA.Bg (θ:=id) (v8 hι hkK) h8 h6;simp only[Option.map_some,hmv]at this;exact⟨b,cells,T,by rw[V.Iu];exact h1,h2,h3,h4,by rw[V.Iu];exact h5,by rw[V.Iu];exact this,by rw[V.lT];exact h7,by rw[V.YE];exact h8⟩
 ·obtain⟨e,rfl⟩:=hv;exact⟨e,by simp[qm]⟩
def YK (K:Key) (t:Nat):∀(ks:List Key) (s:S),WkE K t s (IJ K t ks s)
 | [],s=>WkE.refl s|k::ks,s=>by simp only[IJ];split;{exact YK K t ks s};{rename_i hk;split;{rename_i x hx;exact WkE.trans (b:=s.put k (.box (x.ren (mvK K t) id))) ⟨rfl,fun X n A' hA Γ0 a w h=>q3J (s:=s.wA A') hk (Cy hA hx) h⟩ (YK K t ks _)};{exact YK K t ks s}}
def QY (K:Key) (t:Nat) (ks:List Key) (s:S):S:=
 match s.obj K with
 |some (.box (.d (.arr M e) cc))=>if(s.obj (.l t)).isNone=true then
   {IJ K t ks ((s.put K (.dead (.arr M e))).put (.l t) (.box (.d (.arr M e) cc)))with env:=s.env.map fun p=>(p.1,p.2.ren (mvK K t) id)} else s
 |_=>s
def q3u {X} {n:Nat} {Γ0 K} {t:Nat} {a w} {s:S} {M:Nat} {e cc} (hK:s.obj K=some (.box (.d (.arr M e) cc))) (ht:s.obj (.l t)=none) (h:At X n Γ0 s a w):
  AtE X n Γ0 K t ((s.put K (.dead (.arr M e))).put (.l t) (.box (.d (.arr M e) cc))) a w:=by
 obtain⟨Γ,g1,g3,c,hs,hn,hf,hA⟩:=h;have yr:∀j,jj ((s.put K (.dead (.arr M e))).put (.l t) (.box (.d (.arr M e) cc))) j=jj {s with loc:=(Key.l t,O.box (.d (.arr M e) cc))::(K,O.dead (.arr M e))::s.loc} j:=fun j=>by rw[DN,DN,show jj {s with loc:=(Key.l t,O.box (.d (.arr M e) cc))::(K,O.dead (.arr M e))::s.loc} j=jj {({s with loc:=(K,O.dead (.arr M e))::s.loc}:S)with loc:=(Key.l t,O.box (.d (.arr M e) cc))::({s with loc:=(K,O.dead (.arr M e))::s.loc}:S).loc} j from rfl,CX,CX]
 rcases c.obj K _ hK with⟨h1,h2⟩|yw
 · -- without a block
  refine⟨Γ,g1,g3,⟨c.hH,c.hZ,c.hκ,fun j o hj=>?_,fun j hj=>?_,c.Jz (fun j hj=>?_),c.tok,c.zc,c.hgl,c.hoo,c.hσ⟩,hs,hn,hf,hA,fun x hx=>by rw[h1]at hx;cases hx⟩;{rw[DN]at hj;split at hj;{rename_i e1;subst e1;cases hj;exact .inl ⟨c.QR ht,h2⟩};{rw[DN]at hj;split at hj;{rename_i e1;subst e1;cases hj;exact .inl ⟨h1,trivial⟩};{exact c.obj j o hj}}};{rw[DN];split;{simp};{rw[DN];split;{simp};{exact c.dom j hj}}};{unfold S.Bb at hj ⊢;rw[DN];split;{rename_i e1;subst e1;rw[ht]at hj;cases hj};{rw[DN];split;{rfl};{exact hj}}}
 ·obtain⟨b,cells,T,e1,e2,e3,e4,e5,e6,e7,e8⟩:=yw;have hx0:AA Γ none [] (.d (.arr M e) cc) (chunk cells.toList 0 (V.d (.arr M e) cc).ty.size):=by simp only[AA]at e6 ⊢;exact e6
  obtain⟨k1,k2,k3⟩:=c.q0Y (w':=w) (j:=.l t) (x':=.d (.arr M e) cc) hK rfl e1 ht e4 (fun _ _=>rfl) rfl rfl e5 hx0 e7 e8 (fun arr T' fr h=>by rw[e4]at h;cases h;rfl);have hkt:K≠.l t:=fun e=>by rw[e,ht]at hK;cases hK
  refine⟨_,g1.trans k3,by rw[k3.gl];exact g3,k1.congr yr (fun _=>rfl) (fun _ h=>h),hs.BN k2,hn,hf,hA,fun x hx=>?_⟩;have:Γ.ι K=some x:=by simpa[G.Bt,Db,hkt]using hx
  rw[e1]at this;cases this;simp[G.Bt,Db,V.ty]
theorem q3t (K:Key) (t:Nat) (ks:List Key) (s:S):(QY K t ks s).A=s.A/\∀(X:Cx) (n:Nat) (A':Key->Option O),leA s.A A'->DS X n (s.wA A') ((QY K t ks s).wA A'):=by
 unfold QY;split
 ·rename_i M e cc hK;split
  ·rename_i ht;have ht':s.obj (.l t)=none:=by simpa using ht
   refine⟨YJ K t ks _,fun X n A' hA Γ0 a w hat=>?_⟩;have h1:=q3u (s:=s.wA A') (Cy hA hK) (by rw[LN];exact ht') hat;obtain⟨_,h2⟩:=YK K t ks ((s.put K (.dead (.arr M e))).put (.l t) (.box (.d (.arr M e) cc)));obtain⟨Γ,g1,g3,c,hs,hn,hf,zk,hι⟩:=h2 X n A' hA Γ0 a w h1;refine⟨Γ,g1,g3,c.congr (fun _=>rfl) (fun _=>rfl) (fun _ h=>h),fun i=>?_,hn,hf,zk⟩;have zq:((IJ K t ks ((s.put K (.dead (.arr M e))).put (.l t) (.box (.d (.arr M e) cc)))).wA A').env=s.env:=by
    have:∀(ks:List Key) (s:S),(IJ K t ks s).env=s.env:=by
     intro ks
     induction ks with
     |nil=>intro s;rfl|cons k ks ih=>
      intro s;simp only[IJ];split;{exact ih s};{split;{exact ih _};{exact ih s}}
    exact this ks _
   have hi:=hs i;have e1:S.get ((IJ K t ks ((s.put K (.dead (.arr M e))).put (.l t) (.box (.d (.arr M e) cc)))).wA A') i=(look s.env i).getD .any:=by unfold S.get;rw[zq]
   rw[e1]at hi;show AG Γ ((look (s.env.map fun p=>(p.1,p.2.ren (mvK K t) id)) i).getD .any) _;rw[fD];cases hl:look s.env i with
   |none=>trivial|some x=>
    rw[hl]at hi;exact AG.mv hι hi
  ·exact⟨rfl,fun _ _ _ _=>DS.refl _⟩
 ·exact⟨rfl,fun _ _ _ _=>DS.refl _⟩
def T0:Nat:=1000000000000000
mutual
def V.Cs:Sh->V->V
 | .vec (.l a) eb e,x=>(match x with| .emp eb' e'=>if eb'=eb/\e'=e then .sr (.l (a+T0)) [] 0 0 none eb e else x|x=>x)| .agg _ l,x=>(match x with| .agg τ xs=>.agg τ (V.Fg l xs)|x=>x)|_,x=>x
def V.Fg:List Sh->List V->List V
 |s::l,x::xs=>V.Cs s x::V.Fg l xs|_,xs=>xs
end
def V.q2I:∀(l:List Sh) (xs:List V),(V.Fg l xs).length=xs.length
 | [],xs=>by simp[V.Fg]
 |s::l,[]=>by simp[V.Fg]
 |s::l,x::xs=>by simp[V.Fg,V.q2I l xs]
def V.Ut (s:Sh) (x:V):(V.Cs s x).ty=x.ty:=by unfold V.Cs;split;{split;{split;{rename_i h;obtain⟨rfl,rfl⟩:=h;rfl};{rfl}};{rfl}};{split <;> rfl};{rfl}
def V.q2H (s:Sh) (x:V):(V.Cs s x).plain=x.plain:=by unfold V.Cs;split;{split;{split;{rfl};{rfl}};{rfl}};{split <;> rfl};{rfl}
mutual
def V.q2G:∀(s:Sh) (x:V),(V.Cs s x).Ay=x.Ay
 | .vec (.l a) eb e,x=>by simp only[V.Cs];split;{split <;> simp[V.Ay]};{rfl}
 | .agg _ l,x=>by simp only[V.Cs];split;{simp only[V.Ay];exact V.q2J l _};{rfl}
 | .vec (.g _) _ _,_| .d _,_| .sl _ _ _,_| .ts _ _,_| .sr _ _ _ _ _,_| .yn _,_| .arr _,_| .as _,_| .fnc _ _,_=>by simp[V.Cs]
def V.q2J:∀(l:List Sh) (xs:List V),V.CF (V.Fg l xs)=V.CF xs
 | [],xs=>by simp[V.Fg]
 |s::l,[]=>by simp[V.Fg]
 |s::l,x::xs=>by simp only[V.Fg,V.CF,V.q2G s x,V.q2J l xs]
end
mutual
def AA.Cs {Γ hm}:∀(s:Sh) (x:V) {p:List Nat} {vs:List Value},AA Γ hm p x vs->AA Γ hm p (V.Cs s x) vs
 | .vec (.l a) eb e,x,p,vs,h=>by simp only[V.Cs];split;{split;{simp only[AA]at h ⊢;obtain⟨a,h⟩:=h;exact .inl ⟨trivial,trivial,a,h⟩};{exact h}};{exact h}
 | .agg _ l,x,p,vs,h=>by simp only[V.Cs];split;{simp only[AA]at h ⊢;exact⟨h.1,h.2.1,by rw[V.q2I];exact h.2.2.1,h.2.2.2.1,Aa.Fg l _ h.2.2.2.2⟩};{exact h}
 | .vec (.g _) _ _,_,_,_,h| .d _,_,_,_,h| .sl _ _ _,_,_,_,h| .ts _ _,_,_,_,h| .sr _ _ _ _ _,_,_,_,h| .yn _,_,_,_,h| .arr _,_,_,_,h| .as _,_,_,_,h| .fnc _ _,_,_,_,h=>by simpa only[V.Cs]using h
def Aa.Fg {Γ hm}:∀(l:List Sh) (xs:List V) {p:List Nat} {i:Nat} {τ:Ty} {vs:List Value},Aa Γ hm p i τ xs vs->Aa Γ hm p i τ (V.Fg l xs) vs
 | [],xs,_,_,_,_,h=>by simpa only[V.Fg]using h
 |s::l,[],_,_,_,_,h=>by simpa only[V.Fg]using h
 |s::l,x::xs,_,_,_,_,h=>by simp only[Aa,V.Fg,V.Ut]at h ⊢;obtain⟨⟨o,f,h1,h2,h3,h4⟩,h5⟩:=h;exact⟨⟨o,f,h1,h2,h3,AA.Cs s x h4⟩,Aa.Fg l xs h5⟩
end
mutual
def V.oA:Sh->V->List (Nat × Ty)
 | .vec (.l a) eb e,x=>(match x with| .emp eb' e'=>if eb'=eb/\e'=e then[(a+T0,e)]else[]| .ym=>[(a+T0,e)]|_=>[])| .agg _ l,x=>(match x with| .agg _ xs=>V.q2F l xs|_=>[])|_,_=>[]
def V.q2F:List Sh->List V->List (Nat × Ty)
 |s::l,x::xs=>V.oA s x++V.q2F l xs|_,_=>[]
end
def QP:List (Nat × Ty)->S->S
 | [],s=>s|(t,e)::l,s=>if(s.obj (.l t)).isNone=true then QP l (s.put (.l t) (.box (.d (.arr 0 e) (.agg []))))else QP l s
def V.Ll (s:Sh) (x:V):V:=
 match s,x with
 | .vec (.l a) eb e,.ym=>.sr (.l (a+T0)) [] 0 0 none eb e|s,x=>V.Cs s x
def Uq:List (Nat × Sh)->S->S
 | [],s=>s|(i,sh)::l,s=>(match V.oA sh (s.get i)with| []=>Uq l s|ns=>Uq l (QP ns (s.set (some i) (V.Ll sh (s.get i)))))
def NK:List (Key × OSh)->S->S
 | [],s=>s|(k,.box sh)::l,s=>(match s.obj k with|some (.box x)=>(match V.oA sh x with| []=>NK l s|ns=>NK l (QP ns (s.put k (.box (V.Cs sh x)))))|_=>NK l s)|_::l,s=>NK l s
section
mutual
def V.FI (s:S):V->V
 | .agg τ vs=>.agg τ (V.HQ s vs)|x=>Ca s x
def V.HQ (s:S):List V->List V
 | []=>[]|x::xs=>V.FI s x::V.HQ s xs
end
mutual
def V.SD:V->List Nat
 | .agg _ vs=>V.Wg vs|x=>Fs x
def V.Wg:List V->List Nat
 | []=>[]|x::xs=>V.SD x++V.Wg xs
end
mutual
def V.frz (s:S):Sh->V->V
 | .d _,x=>x.FI s| .agg _ l,x=>(match x with| .agg τ xs=>.agg τ (V.FA s l xs)|x=>x)|_,x=>x
def V.FA (s:S):List Sh->List V->List V
 |sh::l,x::xs=>V.frz s sh x::V.FA s l xs|_,xs=>xs
end
mutual
def V.JU:Sh->V->List Nat
 | .d _,x=>x.SD| .agg _ l,x=>(match x with| .agg _ xs=>V.WC l xs|_=>[])|_,_=>[]
def V.WC:List Sh->List V->List Nat
 |sh::l,x::xs=>V.JU sh x++V.WC l xs|_,_=>[]
end
def AA.TG {Γ Γ'} (p:BI Γ Γ') {q:List Nat} {x vs} (h:AA Γ none q x vs):AA Γ' none q x vs:=AA.BN p (hm:=none) trivial x h
def yU (s:S) (x:V):(Ca s x).ty=x.ty/\(Ca s x).plain=x.plain:=by
 unfold Ca;split;{split;{split;{split;{split;{exact⟨rfl,rfl⟩};{exact⟨rfl,rfl⟩}};{exact⟨rfl,rfl⟩}};{exact⟨rfl,rfl⟩}};{exact⟨rfl,rfl⟩}};{exact⟨rfl,rfl⟩}
def V.yO (s:S) (x:V):(x.FI s).ty=x.ty/\(x.FI s).plain=x.plain:=by cases x <;> simp only[V.FI] <;> first|exact yU s _|exact⟨rfl,rfl⟩
def V.yQ (s:S):∀xs:List V,(V.HQ s xs).length=xs.length
 | []=>rfl|x::xs=>by simp[V.HQ,V.yQ s xs]
def V.cR (s:S) (sh:Sh) (x:V):(V.frz s sh x).ty=x.ty/\(V.frz s sh x).plain=x.plain:=by unfold V.frz;split;{exact V.yO s x};{split <;> exact⟨rfl,rfl⟩};{exact⟨rfl,rfl⟩}
def V.vX (s:S):∀(l:List Sh) (xs:List V),(V.FA s l xs).length=xs.length
 | [],xs=>by simp[V.FA]
 |_::_,[]=>by simp[V.FA]
 |sh::l,x::xs=>by simp[V.FA,V.vX s l xs]
section
variable {Γ Γ':G} {s:S} {js:List Nat} (p:BI Γ Γ') (hc:∀(x:V) (v:Value),AG Γ x v->(∀j∈Fs x,j∈js)->AG Γ' (Ca s x) v)
include p hc
def AA.Ca {x:V} {q:List Nat} {vs} (hx:x.plain=true) (ha:x.ty.isAgg=false) (h:AA Γ none q x vs) (hk:∀j∈Fs x,j∈js):AA Γ' none q (Ca s x) vs:=by
 by_cases hn:Fs x=[];{rw[yS (fun j hj=>by rw[hn]at hj;cases hj)];exact h.TG p}
 ·cases x <;> (try (exact absurd rfl hn));rename_i k q0 lo n cp eb e;cases k with
  |g k=>exact absurd rfl hn|l j=>
   have hv:∃v,vs=[v]/\AG Γ (.sr (.l j) q0 lo n cp eb e) v:=by have h':=h;simp only[AA]at h;rcases h with⟨_,_,a,rfl⟩|⟨b,τ0,o,m,cap,_,_,_,⟨a,rfl,_⟩,_⟩;{exact⟨_,rfl,(Bi rfl rfl).2 ⟨by simpa only[AA]using h',rfl⟩⟩};{exact⟨_,rfl,(Bi rfl rfl).2 ⟨by simpa only[AA]using h',rfl⟩⟩}
   obtain⟨v,rfl,hv⟩:=hv;have h2:=hc _ _ hv hk;have h3:=yU s (.sr (.l j) q0 lo n cp eb e);have hvc:v.cells.toList=[v]:=by rcases Hc hv with⟨_,_,a,rfl⟩|⟨b,τ0,o,m,cap,a,_,_,_,rfl,_⟩ <;> rfl
   obtain⟨h4,_⟩:=(Bd (by rw[h3.2];rfl)).1 h2;rw[hvc]at h4;exact AA.Dd _ h4
mutual
def AA.FI:∀(x:V) {q:List Nat} {vs},AA Γ none q x vs->(∀j∈x.SD,j∈js)->AA Γ' none q (x.FI s) vs
 | .agg τ xs,q,vs,h,hk=>by simp only[V.FI,V.SD]at hk ⊢;simp only[AA]at h ⊢;exact⟨h.1,h.2.1,by rw[V.yQ];exact h.2.2.1,h.2.2.2.1,Aa.HQ xs h.2.2.2.2 hk⟩
 | .any,q,vs,_,_=>by simp only[V.FI,Go.E.Ca,AA]
 | .tup _,q,vs,h,_=>by simp only[AA]at h
 | .d τ c,q,vs,h,_=>by simp only[V.FI,Go.E.Ca];exact h.TG p
 | .sl _ _ _ _,q,vs,h,hk| .ts _ _ _,q,vs,h,hk| .emp _ _,q,vs,h,hk| .ym,q,vs,h,hk| .ptr _ _ _,q,vs,h,hk| .yn _ _,q,vs,h,hk| .mp _,q,vs,h,hk| .fn _ _,q,vs,h,hk| .top _,q,vs,h,hk=>by simp only[V.FI,Go.E.Ca];exact h.TG p
 | .sr k q0 lo n cp eb e,q,vs,h,hk=>by simp only[V.FI];exact AA.Ca p hc rfl rfl h (by simpa only[V.SD]using hk)
def Aa.HQ:∀(xs:List V) {q:List Nat} {i:Nat} {τ:Ty} {vs:List Value},Aa Γ none q i τ xs vs->(∀j∈V.Wg xs,j∈js)->Aa Γ' none q i τ (V.HQ s xs) vs
 | [],_,_,_,_,_,_=>by simp only[V.HQ,Aa]
 |x::xs,_,_,_,_,h,hk=>by simp only[Aa,V.HQ,(V.yO s x).1]at h ⊢;simp only[V.Wg,dw]at hk;obtain⟨⟨o,f,h1,h2,h3,h4⟩,h5⟩:=h;exact⟨⟨o,f,h1,h2,h3,AA.FI x h4 fun j hj=>hk j (.inl hj)⟩,Aa.HQ xs h5 fun j hj=>hk j (.inr hj)⟩
end
mutual
def AA.frz:∀(sh:Sh) (x:V) {q:List Nat} {vs},AA Γ none q x vs->(∀j∈V.JU sh x,j∈js)->AA Γ' none q (V.frz s sh x) vs
 | .d _,x,q,vs,h,hk=>by simp only[V.frz,V.JU]at hk ⊢;exact AA.FI p hc x h hk
 | .agg _ l,x,q,vs,h,hk=>by simp only[V.frz,V.JU]at hk ⊢;split;{simp only[AA]at h ⊢;exact⟨h.1,h.2.1,by rw[V.vX];exact h.2.2.1,h.2.2.2.1,Aa.FA l _ h.2.2.2.2 hk⟩};{exact h.TG p}
 | .sl _ _ _,x,q,vs,h,_| .ts _ _,x,q,vs,h,_| .sr _ _ _ _ _,x,q,vs,h,_| .yn _,x,q,vs,h,_| .arr _,x,q,vs,h,_| .as _,x,q,vs,h,_| .vec _ _ _,x,q,vs,h,_| .fnc _ _,x,q,vs,h,_=>by simp only[V.frz];exact h.TG p
def Aa.FA:∀(l:List Sh) (xs:List V) {q:List Nat} {i:Nat} {τ:Ty} {vs:List Value},Aa Γ none q i τ xs vs->(∀j∈V.WC l xs,j∈js)->Aa Γ' none q i τ (V.FA s l xs) vs
 | [],xs,_,_,_,_,h,_=>by simp only[V.FA];exact Aa.BN p (hm:=none) trivial xs h
 |_::_,[],_,_,_,_,_,_=>by simp only[V.FA,Aa]
 |sh::l,x::xs,_,_,_,_,h,hk=>by simp only[Aa,V.FA,(V.cR s sh x).1]at h ⊢;simp only[V.WC,dw]at hk;obtain⟨⟨o,f,h1,h2,h3,h4⟩,h5⟩:=h;exact⟨⟨o,f,h1,h2,h3,AA.frz sh x h4 fun j hj=>hk j (.inl hj)⟩,Aa.FA l xs h5 fun j hj=>hk j (.inr hj)⟩
end
def AG.frz {sh x v} (h:AG Γ x v) (hk:∀j∈V.JU sh x,j∈js):AG Γ' (V.frz s sh x) v:=by
 by_cases hp:x.plain=true;{obtain⟨h1,h2⟩:=(Bd hp).1 h;exact(Bd (by rw[(V.cR s sh x).2];exact hp)).2 ⟨AA.frz p hc sh x h1 hk,by rw[(V.cR s sh x).1];exact h2⟩}
 ·have:V.frz s sh x=x:=by cases x <;> simp[V.plain]at hp <;> (unfold V.frz;split <;> rfl)
  rw[this];exact h.BN p
end
def Ij (s:S):List (Nat × Sh)->List Nat
 | []=>[]|(i,sh)::l=>V.JU sh (s.get i)++Ij s l
def Ik (s0:S):List (Nat × Sh)->S->S
 | [],s=>s|(i,sh)::l,s=>Ik s0 l (match V.JU sh (s0.get i)with| []=>s|_=>s.set (some i) (V.frz s0 sh (s0.get i)))
def Jv (sh:SSh) (s:S):S:=
 match Ij s sh.env with
 | []=>s|js=>Ik s sh.env (Dh js s)
def cQ (s0:S):∀(l:List (Nat × Sh)) (s:S),(Ik s0 l s).loc=s.loc/\(Ik s0 l s).tk=s.tk/\(Ik s0 l s).A=s.A
 | [],s=>⟨rfl,rfl,rfl⟩|(i,sh)::l,s=>by simp only[Ik];have:=cQ s0 l (match V.JU sh (s0.get i)with| []=>s|_=>s.set (some i) (V.frz s0 sh (s0.get i)));refine⟨this.1.trans ?_,this.2.1.trans ?_,this.2.2.trans ?_⟩ <;> (split <;> rfl)
def vT {Γ'} {tmps:Array Value} {s0:S} {js:List Nat} (h0:∀i sh,(∀j∈V.JU sh (s0.get i),j∈js)->AG Γ' (V.frz s0 sh (s0.get i)) (tmps.getD i undef)):∀(l:List (Nat × Sh)) (s:S),(∀j∈Ij s0 l,j∈js)->(∀i,AG Γ' (s.get i) (tmps.getD i undef))->∀i,AG Γ' ((Ik s0 l s).get i) (tmps.getD i undef)
 | [],s,_,h=>h|(i,sh)::l,s,hk,h=>by simp only[Ik];simp only[Ij,dw]at hk;refine vT h0 l _ (fun j hj=>hk j (.inr hj)) fun m=>?_;split;{exact h m};{rw[Jw];split;{rename_i e;cases e;exact h0 i sh fun j hj=>hk j (.inl hj)};{exact h m}}
def q3I {X} {n:Nat} {Γ0 a w sh s} (h:At X n Γ0 s a w):At X n Γ0 (Jv sh s) a w:=by unfold Jv;split;{exact h};{obtain⟨Γ,g1,g3,c,hs,hn,hf,hA⟩:=h;obtain⟨Γ',g,p,c',hcv⟩:=Wh (Ij s sh.env) s c;have hl:=cQ s sh.env (Dh (Ij s sh.env) s);have hE:=SE (Ij s sh.env) s;refine⟨Γ',g1.trans g,g.gl.trans g3,c'.congr (fun k=>?_) (fun t=>?_) (fun t ht=>?_),?_,hn,hf,by rw[hl.2.2,hE.2];exact hA⟩;{unfold jj;rw[hl.1,hl.2.2]};{unfold uq;rw[hl.2.1]};{unfold S.known at ht ⊢;rw[hl.2.1];exact ht};{refine vT (js:=Ij s sh.env) (fun i sh' hk=>AG.frz p hcv (hs i) hk) sh.env _ (fun j hj=>hj) fun i=>?_;exact Lf hE.1 (hs.BN p) i}}
mutual
def V.yP (s:S) (A':Key->Option O):∀x:V,x.FI (s.wA A')=x.FI s
 | .agg τ vs=>by simp only[V.FI];rw[V.yR s A' vs]
 | .d _ _| .sl _ _ _ _| .ts _ _ _| .emp _ _| .ym| .ptr _ _ _| .yn _ _| .mp _| .fn _ _| .top _| .any| .tup _| .sr _ _ _ _ _ _ _=>by simp only[V.FI];exact yV s A' _
def V.yR (s:S) (A':Key->Option O):∀xs:List V,V.HQ (s.wA A') xs=V.HQ s xs
 | []=>rfl|x::xs=>by simp only[V.HQ];rw[V.yP s A' x,V.yR s A' xs]
end
mutual
def V.vV (s:S) (A':Key->Option O):∀(sh:Sh) (x:V),V.frz (s.wA A') sh x=V.frz s sh x
 | .d _,x=>by simp only[V.frz];exact V.yP s A' x
 | .agg _ l,x=>by simp only[V.frz];split <;> (try rfl);rw[V.vY s A' l]
 | .sl _ _ _,x| .ts _ _,x| .sr _ _ _ _ _,x| .yn _,x| .arr _,x| .as _,x| .vec _ _ _,x| .fnc _ _,x=>by simp only[V.frz]
def V.vY (s:S) (A':Key->Option O):∀(l:List Sh) (xs:List V),V.FA (s.wA A') l xs=V.FA s l xs
 | [],xs=>by simp only[V.FA]
 |_::_,[]=>by simp only[V.FA]
 |sh::l,x::xs=>by simp only[V.FA];rw[V.vV s A' sh x,V.vY s A' l xs]
end
def tS (s:S) (A':Key->Option O):∀l:List (Nat × Sh),Ij (s.wA A') l=Ij s l
 | []=>rfl|(i,sh)::l=>by simp only[Ij];rw[tS s A' l];rfl
def vU (s0:S) (A':Key->Option O):∀(l:List (Nat × Sh)) (s:S),Ik (s0.wA A') l (s.wA A')=(Ik s0 l s).wA A'
 | [],_=>rfl|(i,sh)::l,s=>by simp only[Ik];rw[<-vU s0 A' l];congr 1;show(match V.JU sh (s0.get i)with| []=>s.wA A'|_=>(s.wA A').set (some i) (V.frz (s0.wA A') sh (s0.get i)))=_;rw[V.vV];split <;> rfl
def q6P (sh:SSh) (s:S) (A':Key->Option O):Jv sh (s.wA A')=(Jv sh s).wA A':=by unfold Jv;rw[tS];split;{rfl};{rw[eJ];exact vU s A' sh.env _}
end
def Ht {R:Type}:Key->(Key->Option R)->Option R
 | .l 0,K=>K (.l 0)| .l (n+1),K=>K (.l (n+1))| .g k,K=>Ht k fun k=>K (.g k)
def Kp {R:Type}:∀(k:Key) (K:Key->Option R),Ht k K=K k
 | .l 0,K=>rfl| .l (n+1),K=>rfl| .g k,K=>by simp only[Ht,Kp k]
mutual
def Hu {R:Type}:V->(V->Option R)->Option R
 | .d τ c,K=>K (.d τ c)| .sl eb e cs t,K=>K (.sl eb e cs t)| .ts eb e cs,K=>K (.ts eb e cs)| .emp eb e,K=>K (.emp eb e)| .ym,K=>K .ym| .ptr k q τ,K=>Ht k fun k=>K (.ptr k q τ)| .yn τ c,K=>K (.yn τ c)| .sr k q lo n cp eb e,K=>Ht k fun k=>K (.sr k q lo n cp eb e)| .mp k,K=>Ht k fun k=>K (.mp k)| .agg τ l,K=>OZ l fun l=>K (.agg τ l)| .fn f l,K=>K (.fn f l)| .tup l,K=>OZ l fun l=>K (.tup l)| .top τ,K=>K (.top τ)| .any,K=>K .any
def OZ {R:Type}:List V->(List V->Option R)->Option R
 | [],K=>K []|x::l,K=>Hu x fun x=>OZ l fun l=>K (x::l)
end
mutual
def Ra {R:Type}:∀(x:V) (K:V->Option R),Hu x K=K x
 | .d _ _,_| .sl _ _ _ _,_| .ts _ _ _,_| .emp _ _,_| .ym,_| .yn _ _,_| .fn _ _,_| .top _,_| .any,_=>by simp only[Hu]
 | .ptr k q τ,K=>by simp only[Hu,Kp]
 | .sr k q lo n cp eb e,K=>by simp only[Hu,Kp]
 | .mp k,K=>by simp only[Hu,Kp]
 | .agg τ l,K=>by simp only[Hu,cM l]
 | .tup l,K=>by simp only[Hu,cM l]
def cM {R:Type}:∀(l:List V) (K:List V->Option R),OZ l K=K l
 | [],K=>by simp only[OZ]
 |x::l,K=>by simp only[OZ,Ra x,cM l]
end
def Vy {R:Type}:List (Nat × V)->(List (Nat × V)->Option R)->Option R
 | [],K=>K []|(i,x)::l,K=>Hu x fun x=>Vy l fun l=>K ((i,x)::l)
def vM {R:Type}:∀(l:List (Nat × V)) (K:List (Nat × V)->Option R),Vy l K=K l
 | [],K=>rfl|(i,x)::l,K=>by simp only[Vy,Ra,vM l]
def RV {R:Type}:List (Key × O)->(List (Key × O)->Option R)->Option R
 | [],K=>K []|(k,.box x)::l,K=>Ht k fun k=>Hu x fun x=>RV l fun l=>K ((k,.box x)::l)|(k,o)::l,K=>Ht k fun k=>RV l fun l=>K ((k,o)::l)
def vN {R:Type}:∀(l:List (Key × O)) (K:List (Key × O)->Option R),RV l K=K l
 | [],K=>rfl|(k,o)::l,K=>by cases o <;> simp only[RV,Kp,Ra,vN l]
def RZ {R:Type}:List (Nat × Option Nat)->(List (Nat × Option Nat)->Option R)->Option R
 | [],K=>K []|(i,none)::l,K=>RZ l fun l=>K ((i,none)::l)|(i,some n)::l,K=>RZ l fun l=>K ((i,some n)::l)
def vR {R:Type}:∀(l:List (Nat × Option Nat)) (K:List (Nat × Option Nat)->Option R),RZ l K=K l
 | [],K=>rfl|(i,o)::l,K=>by cases o <;> simp only[RZ,vR l]
def frc {R:Type} (s:S) (K:S->Option R):Option R:=
 match s with
 |⟨env,loc,A,tk⟩=>Vy env fun env=>RV loc fun loc=>RZ tk fun tk=>K ⟨env,loc,A,tk⟩
def cN {R:Type} (s:S) (K:S->Option R):frc s K=K s:=by unfold frc;simp only[vM,vN,vR]
def OY {R:Type}:List Cap->(List Cap->Option R)->Option R
 | [],K=>K []| .c τ::l,K=>OY l fun l=>K (.c τ::l)| .v x::l,K=>Hu x fun x=>OY l fun l=>K (.v x::l)
def cJ {R:Type}:∀(l:List Cap) (K:List Cap->Option R),OY l K=K l
 | [],K=>rfl| .c τ::l,K=>by simp only[OY,cJ l]
 | .v x::l,K=>by simp only[OY,Ra,cJ l]
mutual
def JT {R:Type}:Sh->(Sh->Option R)->Option R
 | .sr k q cp eb e,K=>Ht k fun k=>K (.sr k q cp eb e)| .vec k eb e,K=>Ht k fun k=>K (.vec k eb e)| .agg τ l,K=>RY l fun l=>K (.agg τ l)| .as v,K=>Hu v fun v=>K (.as v)| .d τ,K=>K (.d τ)| .sl eb e t,K=>K (.sl eb e t)| .ts eb e,K=>K (.ts eb e)| .yn τ,K=>K (.yn τ)| .arr e,K=>K (.arr e)| .fnc f l,K=>OY l fun l=>K (.fnc f l)
def RY {R:Type}:List Sh->(List Sh->Option R)->Option R
 | [],K=>K []|x::l,K=>JT x fun x=>RY l fun l=>K (x::l)
end
mutual
def cL {R:Type}:∀(x:Sh) (K:Sh->Option R),JT x K=K x
 | .d _,_| .sl _ _ _,_| .ts _ _,_| .yn _,_| .arr _,_=>by simp only[JT]
 | .sr _ _ _ _ _,K=>by simp only[JT,Kp]
 | .vec _ _ _,K=>by simp only[JT,Kp]
 | .as v,K=>by simp only[JT,Ra]
 | .fnc f l,K=>by simp only[JT,cJ]
 | .agg τ l,K=>by simp only[JT,vQ l]
def vQ {R:Type}:∀(l:List Sh) (K:List Sh->Option R),RY l K=K l
 | [],K=>by simp only[RY]
 |x::l,K=>by simp only[RY,cL x,vQ l]
end
def Vz {R:Type}:List (Nat × Sh)->(List (Nat × Sh)->Option R)->Option R
 | [],K=>K []|(i,x)::l,K=>JT x fun x=>Vz l fun l=>K ((i,x)::l)
def vO {R:Type}:∀(l:List (Nat × Sh)) (K:List (Nat × Sh)->Option R),Vz l K=K l
 | [],K=>rfl|(i,x)::l,K=>by simp only[Vz,cL,vO l]
def RW {R:Type}:List (Key × OSh)->(List (Key × OSh)->Option R)->Option R
 | [],K=>K []|(k,.box x)::l,K=>Ht k fun k=>JT x fun x=>RW l fun l=>K ((k,.box x)::l)|(k,o)::l,K=>Ht k fun k=>RW l fun l=>K ((k,o)::l)
def vP {R:Type}:∀(l:List (Key × OSh)) (K:List (Key × OSh)->Option R),RW l K=K l
 | [],K=>rfl|(k,o)::l,K=>by cases o <;> simp only[RW,Kp,cL,vP l]
def RX {R:Type} (s:SSh) (K:SSh->Option R):Option R:=
 match s with
 |⟨env,loc⟩=>Vz env fun env=>RW loc fun loc=>K ⟨env,loc⟩
def cK {R:Type} (s:SSh) (K:SSh->Option R):RX s K=K s:=by unfold RX;simp only[vO,vP]
def qV:List V->Bool
 | []=>false| .yn _ _::_=>true|_::l=>qV l
def Zn:List V->List Cap
 | []=>[]| .yn τ _::l=>.c τ::Zn l|x::l=>.v x::Zn l
mutual
def V.VB:V->Sh
 | .d τ _=>(match τ with| .ptr=>.as (.d .ptr .nil)| .map=>.as (.d .map .nil)| .func=>.as (.d .func .nil)|τ=>.d τ)| .sl eb e _ _=>.d (.slice eb e)| .ts eb e _=>.ts eb e| .sr k q _ _ cp eb e=>(match q,cp with| [],none=>.vec k eb e|q,cp=>.sr k q cp.isSome eb e)| .yn τ _=>.yn τ| .agg τ vs=>.agg τ (V.oX vs)| .tup _=>.as .any| .fn f vs=>bif qV vs then .fnc f (Zn vs)else .as (.fn f vs)|x=>.as x
def V.oX:List V->List Sh
 | []=>[]|x::xs=>x.VB::V.oX xs
end
mutual
def V.Rl:V->List Key
 | .ptr k _ _| .mp k| .sr k _ _ _ _ _ _=>[k]| .agg _ vs| .fn _ vs| .tup vs=>V.xF vs|_=>[]
def V.xF:List V->List Key
 | []=>[]|x::xs=>x.Rl++V.xF xs
end
def O.Rl:O->List Key
 | .box x=>x.Rl| .map _ _ _=>[]| .it _ _| .dead _=>[]
def Wo:Key->List Key->Bool
 |_,[]=>false|k,j::l=>if j=k then true else Wo k l
def Xf (s:S):Nat->List Key->List Key->List Key
 |0,_,acc=>acc|_,[],acc=>acc|f+1,k::ks,acc=>if Wo k acc=true then Xf s f ks acc else(match s.obj k with|some o=>Xf s f (o.Rl++ks) (acc++[k])|none=>Xf s f ks acc)
structure Hint where
 live:List Nat
 new:List (Nat × Sh)
 roots:List Key
 obs:List (Key × OSh)
 drop:List Key
 z66:List Ty:=[]
def tU (s:S):List Nat->List Key
 | []=>[]|i::l=>(s.get i).Rl++tU s l
def ZE (s:S):List Nat->List (Nat × Sh)
 | []=>[]|i::l=>(match s.get i with| .any=>ZE s l|x=>(i,x.VB)::ZE s l)
def Oc (e:Ty):List Ty->Bool
 | []=>false|t::l=>if wi t e=true then true else Oc e l
def VW:Key->Nat
 | .l n=>2*n| .g k=>2*VW k+1
def V1:Nat:=1000000000000
mutual
def Sh.oB (ts:List Ty):Nat->Sh->V->Sh
 |b,.vec (.g k) eb e,_=>if Oc e ts=true then .vec (.l (V1+8*VW (.g k)+2)) eb e else .vec (.g k) eb e|b,.as v,_=>(match v with| .emp eb e=>if Oc e ts=true then .vec (.l b) eb e else .as v|v=>.as v)|b,.ts eb e,x=>(match x with| .emp _ _=>if Oc e ts=true then .vec (.l b) eb e else .ts eb e|_=>.ts eb e)|b,.agg τ l,x=>(match x with| .agg _ xs=>.agg τ (Sh.q2K ts (64*b) l xs)|_=>.agg τ l)|_,s,_=>s
def Sh.q2K (ts:List Ty):Nat->List Sh->List V->List Sh
 |b,s::l,x::xs=>Sh.oB ts b s x::Sh.q2K ts (b+1) l xs|_,_,_=>[]
end
mutual
def Sh.oC:Sh->List (Key × OSh)
 | .vec (.l a) _ e=>if V1<=a then[(.l a,.box (.arr e))]else[]| .agg _ l=>Sh.q2Q l|_=>[]
def Sh.q2Q:List Sh->List (Key × OSh)
 | []=>[]|s::l=>s.oC++Sh.q2Q l
end
def tW (s:S) (ts:List Ty):List (Nat × Sh)->List (Nat × Sh)
 | []=>[]|(i,sh)::l=>(i,sh.oB ts (V1+8*i+3) (s.get i))::tW s ts l
def Oq (s:S) (ts:List Ty):List (Key × OSh)->List (Key × OSh)
 | []=>[]|(k,.box sh)::l=>(match k,sh with| .g k,.arr e=>if Oc e ts=true then(.g k,.dead e)::(.l (V1+8*VW (.g k)+2),.box (.arr e))::Oq s ts l else(.g k,.box sh)::Oq s ts l|k,sh=>(match s.obj k with|some (.box x)=>(k,.box (sh.oB ts (V1+8*VW k+1) x))::Oq s ts l|_=>(k,.box sh)::Oq s ts l))|p::l=>p::Oq s ts l
def tX:List (Nat × Sh)->List (Key × OSh)
 | []=>[]|(_,sh)::l=>sh.oC++tX l
def eU:List (Key × OSh)->List (Key × OSh)
 | []=>[]|(_,.box sh)::l=>sh.oC++eU l|_::l=>eU l
def ZI:List (Key × OSh)->List (Key × OSh)->List (Key × OSh)
 | [],acc=>acc|(k,o)::l,acc=>if Ky acc k=true then ZI l acc else ZI l (acc++[(k,o)])
def z43 (s:S) (ts:List Ty) (sh:SSh):SSh:=
 match ts with
 | []=>sh|ts=>(match tW s ts sh.env,Oq s ts sh.loc with|env,loc=>⟨env,ZI (tX env++eU loc) loc⟩)
def Kd (s:S) (h:Hint):List Key->List (Key × OSh)
 | []=>[]
 |k::l=>if Wo k h.drop=true then Kd s h l else if Ky h.obs k=true then Kd s h l else(match s.obj k with|some (.box x)=>(k,.box (match x with| .d (.arr M e) _=>(match k,M with|_,_=>if Oc e h.z66=true then .arr e else .d (.arr M e))| .d τ _=>.d τ|x=>(match h.z66 with| []=>bif (Bp x).isSome then .d x.ty else x.Dv.VB|_=>x.VB)))::Kd s h l|some (.map kτ vτ _)=>(k,.map kτ vτ)::Kd s h l|some (.it _ _)=>(k,.it)::Kd s h l|some (.dead (.arr _ e))=>(k,.dead e)::Kd s h l|_=>Kd s h l)
def aR:List (Key × O)->List Key
 | []=>[]|(.g k,.dead _)::l=>.g k::aR l|_::l=>aR l
def fS (h:Hint) (s:S):SSh:=
 z43 s h.z66 ⟨ZE s h.live++h.new,h.obs++Kd s h (Xf s 1000 (tU s h.live++h.roots) []++aR s.loc)⟩
def MP:List (Key × OSh)->S->S
 | [],s=>s|(k,.box _)::l,s=>(match s.obj k with|some (.box x)=>MP l (s.put k (.box x.Dv))|_=>MP l s)|_::l,s=>MP l s
def Jj:List (Nat × Sh)->S->S
 | [],s=>s|(i,sh)::l,s=>(match sh with| .sl eb e t=>(match s.get i with| .ym=>if s.known t=false then Jj l (S.set {s with tk:=(t,some 0)::s.tk} (some i) (.sl eb e [] t))else Jj l s| .emp eb' e'=>if eb'=eb/\e'=e/\s.known t=false then Jj l (S.set {s with tk:=(t,some 0)::s.tk} (some i) (.sl eb e [] t))else Jj l s|_=>Jj l s)|_=>Jj l s)
mutual
def V.un:V->V->List (Nat × Nat)
 | .ptr (.l a) _ _,.ptr (.l b) _ _=>[(b,a)]| .mp (.l a),.mp (.l b)=>[(b,a)]| .fn _ l,.fn _ l'=>V.uns l l'| .tup l,.tup l'=>V.uns l l'|_,_=>[]
def V.uns:List V->List V->List (Nat × Nat)
 |x::xs,y::ys=>V.un x y++V.uns xs ys|_,_=>[]
end
def Zm:List Cap->List V->List (Nat × Nat)
 | .v y::l,x::xs=>V.un y x++Zm l xs| .c _::l,_::xs=>Zm l xs|_,_=>[]
mutual
def Sh.un:Sh->V->List (Nat × Nat)
 | .sr (.l a) _ _ _ _,.sr (.l b) _ _ _ _ _ _=>[(b,a)]| .vec (.l a) _ _,.sr (.l b) _ _ _ _ _ _=>[(b,a)]| .as v,x=>V.un v x| .fnc _ l,.fn _ xs=>Zm l xs| .agg _ l,.agg _ xs=>Sh.uns l xs|_,_=>[]
def Sh.uns:List Sh->List V->List (Nat × Nat)
 |s::l,x::xs=>s.un x++Sh.uns l xs|_,_=>[]
end
def nS (s:S):List (Nat × Sh)->List (Nat × Nat)
 | []=>[]|(i,sh)::l=>sh.un (s.get i)++nS s l
def Yn (s:S):List (Nat × Sh)->List (Nat × Nat)
 | []=>[]|(i,sh)::l=>(match sh,s.get i with| .sl _ _ t,.sl _ _ _ t'=>(t',t)::Yn s l|_,_=>Yn s l)
def fA:List (Key × OSh)->Key->Option OSh
 | [],_=>none|(j,x)::l,k=>if j=k then some x else fA l k
def q2y (s:S) (l:List (Key × OSh)) (b a:Key):List (Nat × Nat):=
 match fA l a,s.obj b with
 |some (.box sh),some (.box x)=>sh.un x|_,_=>[]
def unG (s:S) (l0:List (Key × OSh)):List (Key × OSh)->List (Nat × Nat)
 | []=>[]|(.g k,_)::l=>q2y s l0 (.g k) (.g k)++unG s l0 l|(.l _,_)::l=>unG s l0 l
def Yl (s:S) (l:List (Key × OSh)):Nat->List (Nat × Nat)->List (Nat × Nat)->List (Nat × Nat)
 |0,_,acc=>acc|_,[],acc=>acc|f+1,(b,a)::todo,acc=>(match look acc b with|some _=>Yl s l f todo acc|none=>Yl s l f (q2y s l (.l b) (.l a)++todo) ((b,a)::acc))
def QZ:List (Nat × Nat)->Bool
 | []=>true|(a,b)::l=>bw a b&&QZ l
def Nh (l:List (Nat × Nat)) (n:Nat):Nat:=(look l n).getD (n+1000000000)
def Uo (s:S):List (Nat × Sh)->Bool
 | []=>false|(i,sh)::l=>(match sh,s.get i with| .sl _ _ t,.ym=>s.known t||Uo s l| .sl _ _ t,.emp _ _=>s.known t||Uo s l|_,_=>Uo s l)
def Xa (sh:SSh) (s:S):S:=
 match Yl s sh.loc 1000 (nS s sh.env++unG s sh.loc sh.loc) [],Yn s sh.env with
 |ps,ts=>bif QZ ps&&QZ ts&& !Uo s sh.env then s
  else bif Jy (Nh ps) (Fq s.loc)&&Jy (Nh ts) (Fz s.tk)then s.ren (Nh ps) (Nh ts)else s
mutual
def Sh.ad:Sh->V->List (Key × Nat)
 | .vec (.l a) _ _,.sr (.g b) _ _ _ _ _ _=>[(.g b,a+T0)]| .agg _ l,.agg _ xs=>Sh.ads l xs|_,_=>[]
def Sh.ads:List Sh->List V->List (Key × Nat)
 |s::l,x::xs=>s.ad x++Sh.ads l xs|_,_=>[]
end
def oY (s:S):List (Nat × Sh)->List (Key × Nat)
 | []=>[]|(i,sh)::l=>sh.ad (s.get i)++oY s l
def VC (s:S):List (Key × OSh)->List (Key × Nat)
 | []=>[]|(k,.box sh)::l=>(match s.obj k with|some (.box x)=>sh.ad x++VC s l|_=>VC s l)|_::l=>VC s l
def xG {α:Type}:List (Key × α)->List Key
 | []=>[]|(k,_)::l=>k::xG l
def ZL (ks:List Key):List (Key × Nat)->S->S
 | [],s=>s|(K,t)::l,s=>ZL ks l (QY K t ks s)
def pQ:List (Key × OSh)->Bool
 | []=>false|(_,.box (.arr _))::_=>true|_::l=>pQ l
def Yo (sh:SSh) (s:S):S:=
 match pQ sh.loc with
 |false=>s|true=>(match ZL (xG sh.loc) (oY s sh.env++VC s sh.loc) s with|s=>NK sh.loc (Uq sh.env s))
def JN {R:Type} (sh:SSh) (s:S) (K:List C->List Es->Option R):Option R:=
 frc (Jv sh s) fun s=>frc (Yo sh s) fun s=>frc (Jj sh.env (MP sh.loc (Xa sh s))) fun s=>Va sh s K
def q4P {R:Type} (sh:SSh) (s:S) (K:List C->List Es->Option R):JN sh s K=Va sh (Jj sh.env (MP sh.loc (Xa sh (Yo sh (Jv sh s))))) K:=by unfold JN;simp only[cN]
def WkA (s s':S):Prop:=s'.A=s.A/\∀(X:Cx) (n:Nat) (A':Key->Option O),leA s.A A'->DS X n (s.wA A') (s'.wA A')
def WkA.refl (s:S):WkA s s:=⟨rfl,fun _ _ _ _=>DS.refl _⟩
def WkA.trans {a b c} (h:WkA a b) (h':WkA b c):WkA a c:=
 ⟨h'.1.trans h.1,fun X n A' hA=>(h.2 X n A' hA).trans (h'.2 X n A' (by rw[h.1];exact hA))⟩
def Vl:∀(l:List (Key × OSh)) (s:S),WkA s (MP l s)
 | [],s=>WkA.refl s|(k,.box _)::l,s=>by simp only[MP];split;{rename_i x hx;exact WkA.trans (b:=s.put k (.box x.Dv)) ⟨rfl,fun X n A' hA=>z49 (Cy hA hx)⟩ (Vl l _)};{exact Vl l s}
 |(_,.map _ _)::l,s|(_,.dead _)::l,s|(_,.it)::l,s=>Vl l s
def NI:∀(l:List (Nat × Sh)) (s:S),WkA s (Jj l s)
 | [],s=>WkA.refl s|(i,sh)::l,s=>by
  simp only[Jj];split
  ·rename_i eb e t
   have one:∀(hu:s.known t=false) (ht:s.get i= .ym\/s.get i= .emp eb e),WkA s (S.set {s with tk:=(t,some 0)::s.tk} (some i) (.sl eb e [] t)):=fun hu ht=>
    ⟨rfl,fun X n A' hA=>z5c (s:=s.wA A') hu ht⟩
   split;{rename_i hx;split;{rename_i hu;exact(one hu (.inl hx)).trans (NI l _)};{exact NI l s}};{rename_i eb' e' hx;split;{rename_i hu;obtain⟨rfl,rfl,hu⟩:=hu;exact(one hu (.inr hx)).trans (NI l _)};{exact NI l s}};{exact NI l s}
  ·exact NI l s
def z1a (sh:SSh) (s:S):WkA s (Xa sh s):=by unfold Xa;dsimp only;generalize Yl s sh.loc 1000 (nS s sh.env++unG s sh.loc sh.loc) []=ps;generalize Yn s sh.env=ts;cases QZ ps&&QZ ts&& !Uo s sh.env;{cases hi:Jy (Nh ps) (Fq s.loc)&&Jy (Nh ts) (Fz s.tk);{exact WkA.refl s};{simp only[az]at hi;exact⟨rfl,fun X n A' _=>z5b (s:=s.wA A') _ _ hi.1 hi.2⟩}};{exact WkA.refl s}
def pE (ks:List Key):∀(l:List (Key × Nat)) (s:S),WkA s (ZL ks l s)
 | [],s=>WkA.refl s|(K,t)::l,s=>WkA.trans (b:=QY K t ks s) (q3t K t ks s) (pE ks l _)
def q3K {X} {n:Nat} {Γ0} {t:Nat} {e a w} {s:S} (ht:s.obj (.l t)=none) (h:At X n Γ0 s a w):At X n Γ0 (s.put (.l t) (.box (.d (.arr 0 e) (.agg [])))) a w:=by obtain⟨Γ,g1,g3,c,hs,hn,hf,hA⟩:=h;refine⟨Γ,g1,g3,⟨c.hH,c.hZ,c.hκ,fun j o hj=>?_,fun j hj=>?_,c.Jz (fun j hj=>?_),c.tok,c.zc,c.hgl,c.hoo,c.hσ⟩,hs,hn,hf,hA⟩;{rw[DN]at hj;split at hj;{rename_i e1;subst e1;cases hj;exact .inl ⟨c.QR ht,e,rfl⟩};{exact c.obj j o hj}};{rw[DN];split;{simp};{exact c.dom j hj}};{unfold S.Bb at hj ⊢;rw[DN];split;{rename_i e1;subst e1;rw[ht]at hj;cases hj};{exact hj}}
def Yq:∀(l:List (Nat × Ty)) (s:S),WkA s (QP l s)
 | [],s=>WkA.refl s|(t,e)::l,s=>by
  simp only[QP];split
  ·rename_i h;have h':s.obj (.l t)=none:=by simpa using h
   exact WkA.trans (b:=s.put (.l t) (.box (.d (.arr 0 e) (.agg [])))) ⟨rfl,fun X n A' hA Γ0 a w hat=>q3K (s:=s.wA A') (by rw[LN];exact h') hat⟩ (Yq l _)
  ·exact Yq l s
def AG.Cs {Γ sh x v} (h:AG Γ x v):AG Γ (V.Cs sh x) v:=by
 by_cases hp:x.plain=true;{obtain⟨h1,h2⟩:=(Bd hp).1 h;exact(Bd (by rw[V.q2H];exact hp)).2 ⟨AA.Cs sh x h1,by rw[V.Ut];exact h2⟩}
 ·have:V.Cs sh x=x:=by cases x <;> simp[V.plain]at hp <;> (unfold V.Cs;split <;> rfl)
  rw[this];exact h
def AG.Ll {Γ sh x v} (h:AG Γ x v):AG Γ (V.Ll sh x) v:=by unfold V.Ll;split;{have:=Fb h;subst this;exact q06};{exact h.Cs}
def nZ:∀(l:List (Nat × Sh)) (s:S),WkA s (Uq l s)
 | [],s=>WkA.refl s|(i,sh)::l,s=>by simp only[Uq];split;{exact nZ l s};{refine WkA.trans (b:=s.set (some i) (V.Ll sh (s.get i))) ⟨rfl,fun X n A' hA Γ0 a w hat=>?_⟩ (WkA.trans (Yq _ _) (nZ l _));obtain⟨Γ,g1,g3,c,hs,hn,hf,hA⟩:=hat;refine⟨Γ,g1,g3,show AQ Γ w ((s.wA A').set (some i) (V.Ll sh (s.get i))) from Qr c _ _,fun j=>?_,hn,hf,hA⟩;have hj:=hs j;show AG Γ (S.get (S.set (s.wA A') (some i) (V.Ll sh (s.get i))) j) _;rw[Jw];split;{rename_i e;cases e;exact AG.Ll hj};{exact hj}}
def Ur:∀(l:List (Key × OSh)) (s:S),WkA s (NK l s)
 | [],s=>WkA.refl s|(k,.box sh)::l,s=>by
  simp only[NK];split
  ·rename_i x hx;split;{exact Ur l s}
   ·refine WkA.trans (b:=s.put k (.box (V.Cs sh x))) ⟨rfl,fun X n A' hA Γ0 a w hat=>?_⟩ (WkA.trans (Yq _ _) (Ur l _));obtain⟨Γ,g1,g3,c,hs,hn,hf,zk⟩:=hat;refine⟨Γ,g1,g3,c.lW (Cy hA hx) (fun yw=>?_) (fun hv=>?_),hs,hn,hf,zk⟩;{obtain⟨b,cells,T,h1,h2,h3,h4,h5,h6,h7,h8⟩:=yw;exact⟨b,cells,T,by rw[V.Ut];exact h1,h2,h3,h4,by rw[V.Ut];exact h5,by rw[V.Ut];exact AA.Cs sh x h6,by rw[V.q2H];exact h7,by rw[V.q2G];exact h8⟩}
    ·obtain⟨e,rfl⟩:=hv;have:V.Cs sh (.d (.arr 0 e) (.agg []))= .d (.arr 0 e) (.agg []):=by unfold V.Cs;split <;> rfl
     rw[this];exact⟨e,rfl⟩
  ·exact Ur l s
 |(_,.map _ _)::l,s|(_,.dead _)::l,s|(_,.it)::l,s=>Ur l s
def z42 (sh:SSh) (s:S):WkA s (Yo sh s):=by unfold Yo;split;{exact WkA.refl s};{exact((pE _ _ s).trans (nZ _ _)).trans (Ur _ _)}
def q6O (sh:SSh) (s:S):WkA s (Jv sh s):=by refine⟨?_,fun X n A' hA Γ0 a w hat=>?_⟩;{unfold Jv;split;{rfl};{rw[(cQ _ _ _).2.2,(SE _ _).2]}};{rw[<-q6P];exact q3I hat}
def nbV:V->V
 | .d τ c=>(match τ with| .bool=>.d .bool (.bool c.toBool)|τ=>.d τ c)|x=>x
def nbE:List (Nat × V)->List (Nat × V)
 | []=>[]|(i,x)::l=>(i,nbV x)::nbE l
def nbS (s:S):S:={s with env:=nbE s.env}
def q9N {Γ x v} (h:AG Γ x v):AG Γ (nbV x) v:=by cases x <;> (try exact h);rename_i τ c;cases τ <;> (try exact h);obtain⟨_,e⟩:=Fa h;rw[e]at h;exact h
def zM:∀(l:List (Nat × V)) (i:Nat),look (nbE l) i=(look l i).map nbV
 | [],_=>rfl|(j,x)::l,i=>by simp only[nbE,look];by_cases e:j=i;{rw[if_pos e,if_pos e];rfl};{rw[if_neg e,if_neg e];exact zM l i}
def u3 (s:S):WkA s (nbS s):=by
 refine⟨rfl,fun X n A' _=>?_⟩;rintro Γ0 a w ⟨Γ,g1,g3,c,hs,hn,hf,hA⟩;refine⟨Γ,g1,g3,c.env _,fun i=>?_,hn,hf,hA⟩;have:=hs i;have e:((nbS s).wA A').get i=nbV ((s.wA A').get i):=by show(look (nbE s.env) i).getD .any=nbV ((look s.env i).getD .any);rw[zM];cases look s.env i <;> rfl
 rw[e];exact q9N this
def Gj (sh:SSh) (A:Key->Option O) (ds:List C) (ms:List Es):S:=nbS (Ju sh A ds ms)
def Qp {R:Type} {r:R} {sh:SSh} {s:S} {K:List C->List Es->Option R} (h:JN sh s K=some r):∃ds ms,K ds ms=some r/\WkA s (Gj sh s.A ds ms):=by
 have key:∃ds ms,K ds ms=some r/\WkA s (Ju sh s.A ds ms):=by rw[q4P]at h;obtain⟨ds,ms,h1,h2⟩:=q4Q h;have h3:=((((q6O sh s).trans (z42 sh _)).trans (z1a sh _)).trans (Vl sh.loc _)).trans (NI sh.env _);refine⟨ds,ms,h1,rfl,fun X n A' hA=>?_⟩;have:=(h3.2 X n A' hA).trans (h2 X n A' (by rw[h3.1];exact hA));exact this
 obtain⟨ds,ms,h1,h2⟩:=key;exact⟨ds,ms,h1,h2.trans (u3 _)⟩
def Sf (j:Nat):List Nat->List Nat
 | []=>[]|i::l=>if i=j then Sf j l else i::Sf j l
def fxS (t j:Nat) (s:S):S:=⟨Er s (Sf t (slotsOf s.env)),GW s.loc (Sf j (Fq s.loc)) s.loc,s.A,DR s (Fz s.tk)⟩
def fxB (t j:Nat) (s:S):Bool:=
 Kg (fxS t j s).loc&&FK (Bf (fxS t j s).loc) (CV (fxS t j s).tk) (fxS t j s).loc&&Ic (fxS t j s).loc s.loc&&JJ (Bf (fxS t j s).loc) (CV (fxS t j s).tk) (fxS t j s).env&& !(Bf (fxS t j s).loc j)
def cF (t:Nat) (s:S):S:=
 match s.get t with
 | .ptr (.l j) [] τ=>(match s.obj (.l j)with|some (.box x)=>(match Bp x with|some cc=>if x.ty=τ/\fxB t j s=true then(fxS t j s).set (some t) (.yn τ cc)else s|none=>s)|_=>s)|_=>s
def Zu (t:Nat) (s:S):S:=
 match s.get t with
 | .ptr k [] _=>(match s.obj k with|some (.box x)=>(match x with| .d _ _=>s|x=>(match Bp x with|some c=>s.put k (.box (.d x.ty c))|none=>s))|_=>s)|_=>s
def q4q (t:Nat) (s:S):WkA s (Zu t s):=by
 unfold Zu;split
 ·split
  ·rename_i x hx;split;{exact WkA.refl s}
   ·split
    ·rename_i c hc;refine⟨rfl,fun X n A' hA Γ0 a w hat=>?_⟩;obtain⟨Γ,g1,g3,cc,hs,hn,hf,zk⟩:=hat;have hin:V.BB x (.d x.ty c):=by cases x <;> first|exact⟨hc,rfl⟩|(simp[Bp]at hc)
     refine⟨Γ,g1,g3,cc.lW (Cy hA hx) (fun yw=>?_) (fun hv=>?_),hs,hn,hf,zk⟩;{obtain⟨b,cells,T,h1,h2,h3,h4,h5,h6,h7,h8⟩:=yw;exact⟨b,cells,T,h1,h2,h3,h4,h5,by have:=(AA.BB _ _ hin h6).1;simp only[AA]at this ⊢;exact this,rfl,rfl⟩};{obtain⟨e,rfl⟩:=hv;simp only[Bp,Option.some.injEq]at hc;subst hc;exact⟨e,rfl⟩}
    ·exact WkA.refl s
  ·exact WkA.refl s
 ·exact WkA.refl s
def eI (t:Nat) (s:S):S:=
 match s.get t with
 | .sr (.l j) [] lo n _ eb e=>(match s.obj (.l j)with|some (.box (.d (.arr M e') cc))=>if e'=e then({s with loc:=(.l j,.dead (.arr M e))::s.loc}:S).set (some t) (.d (.slice eb e) (.slice ((cc.elems.drop lo).take n)))else s|_=>s)|_=>s
def q8J (t:Nat) (s:S):WkA s (eI t s):=by
 unfold eI;split;{rename_i j lo n cp eb e hs;split;{rename_i M e' cc ho;split;{rename_i he;subst he;refine⟨rfl,fun X n' A' hA Γ0 a w hat=>?_⟩;obtain⟨Γ,g1,g3,c,hsl,hn,hf,zk⟩:=hat;obtain⟨Γ',gle,p,c',h⟩:=c.yN (show(s.wA A').obj (.l j)=some (.box (.d (.arr M _) cc)) from ho);have za:=hsl t;rw[show(s.wA A').get t=_ from hs]at za;have hv:=h za;refine⟨Γ',g1.trans gle,gle.gl.trans g3,Qr (s:=(({s with loc:=(.l j,.dead (.arr M _))::s.loc}:S).wA A')) c' (some t) _,fun i=>?_,hn,hf,zk⟩;rw[show((({s with loc:=(.l j,.dead (.arr M _))::s.loc}:S).set (some t) (.d (.slice eb _) (.slice ((cc.elems.drop lo).take n)))).wA A').get i=(({s with loc:=(.l j,.dead (.arr M _))::s.loc}:S).set (some t) (.d (.slice eb _) (.slice ((cc.elems.drop lo).take n)))).get i from rfl,Jw];split;{rename_i hi;cases hi;exact hv};{exact(hsl i).BN p}};{exact WkA.refl s}};{exact WkA.refl s}};{exact WkA.refl s}
def OX:List (Nat × Nat)->S->S
 | [],s=>s|(t,m)::l,s=>OX l (if m=6 then cF t s else if m=16 then Zu t s else if m=17 then eI (t-1000000) s else s)
def q6D (t:Nat) (s:S):WkA s (cF t s):=by
 unfold cF;split
 ·rename_i j τ hs;split
  ·rename_i x hx;split
   ·rename_i cc hcc;split
    ·rename_i h;obtain⟨hτ,h⟩:=h;simp only[fxB,az,Bool.not_eq_true']at h;obtain⟨⟨⟨⟨h1,h2⟩,h3⟩,h4⟩,h5⟩:=h;refine⟨rfl,fun X n A' hA=>?_⟩;have zq:∀l,Er (s.wA A') l=Er s l:=by
      intro l
      induction l with
      |nil=>rfl|cons i l ih=>simp only[Er,ih];rfl
     have htk:∀l,DR (s.wA A') l=DR s l:=by
      intro l
      induction l with
      |nil=>rfl|cons i l ih=>simp only[DR,ih];rfl
     exact z5a (s:=s.wA A') (s':=(fxS t j s).wA A') hs (Cy hA hx) hcc hτ h5 rfl (LG (s:=s.wA A') _ h1) h2 (Na h3)
      (by show tkW (s.wA A') (DR s (Fz s.tk));rw[<-htk];exact Yi)
      (by
       have h4':JJ (Bf (fxS t j s).loc) (CV (fxS t j s).tk) (Er (s.wA A') (Sf t (slotsOf s.env)))=true:=by rw[zq];exact h4
       have:=bR h4';rw[zq]at this;exact this)
    ·exact WkA.refl s
   ·exact WkA.refl s
  ·exact WkA.refl s
 ·exact WkA.refl s
def RU:∀(l:List (Nat × Nat)) (s:S),WkA s (OX l s)
 | [],s=>WkA.refl s|(t,m)::l,s=>by simp only[OX];split;{exact(q6D t s).trans (RU l _)};{split;{exact(q4q t s).trans (RU l _)};{split;{exact(q8J _ s).trans (RU l _)};{exact RU l s}}}
section
abbrev KD (R:Type):=List C->List Es->Option R
def yX {α:Type} (_:String) (a:α):∃b,b=a:=⟨a,rfl⟩
def lid {α:Type} (n:String) (a:α):α:=Classical.choose (yX n a)
def AW {α:Type} (n:String) (a:α):lid n a=a:=Classical.choose_spec (yX n a)
def jn {R:Type}:KD R->(KD R->Option R)->Option R:=lid "" fun k b=>b k
def AP {R:Type} (k:KD R) (b:KD R->Option R):jn k b=b k:=by unfold jn;rw[AW]
def zS {R:Type}:Nat->(KD R->List C->List Es->Option R)->List C->List Es->Option R
 |0,_,_,_=>none|n+1,F,ds,ms=>F (zS n F) ds ms
def Ae {R:Type}:Nat->(KD R->List C->List Es->Option R)->List C->List Es->Option R:=lid "" zS
def zW {R:Type} (F:KD R->List C->List Es->Option R) (ds:List C) (ms:List Es):Ae 0 F ds ms=none:=by unfold Ae;rw[AW];rfl
def Bq {R:Type} (n:Nat) (F:KD R->List C->List Es->Option R) (ds:List C) (ms:List Es):Ae (n+1) F ds ms=F (Ae n F) ds ms:=by unfold Ae;rw[AW];rfl
abbrev Hints:=List (List Nat × Hint)
def MS:Hints->List Nat->Option Hint
 | [],_=>none|(q,h)::l,p=>if q=p then some h else MS l p
def exJ {R:Type} (h:Option Hint) (s:S) (K:S->Option R) (body:(S->Option R)->Option R):Option R:=
 match h with
 |none=>body K|some h=>RX (fS h s) fun sh=>jn (fun ds ms=>K (Gj sh s.A ds ms)) fun k=>body fun s1=>JN sh s1 k
def Vs {R:Type} {r:R} {h:Option Hint} {s:S} {K:S->Option R} {body:(S->Option R)->Option R} {P:S->Prop} {G:Prop} (hP:∀s1 s2,P s1->WkA s1 s2->P s2) (hA:∀s1,P s1->s1.A=s.A) (hj:exJ h s K body=some r)
  (hb:∀k:S->Option R,body k=some r->(∃s1,k s1=some r/\P s1)\/G):(∃s2,K s2=some r/\P s2)\/G:=by
 unfold exJ at hj;split at hj;{exact hb _ hj};{rename_i h';rw[cK,AP]at hj;rcases hb _ hj with⟨s1,h1,h2⟩|hg;{obtain⟨ds,ms,h3,h4⟩:=Qp h1;rw[hA s1 h2]at h4;exact .inl ⟨_,h3,hP _ _ h2 h4⟩};{exact .inr hg}}
def Im:Code->Option (List Code × Nat × Code)
 | .seq a b=>(match a with| .label l=>some ([],l,b)|a=>(match Im b with|some x=>some (a::x.1,x.2)|none=>none))|_=>none
def Wy (l:Nat):List Code->Bool
 | []=>true|a::as=>(match findLabel a l with|some _=>false|none=>Wy l as)
def wN:∀(c:Code) {as r} {l:Nat},Im c=some (as,l,r)->Wy l as=true->findLabel c l=some (.seq .skip r)
 | .seq a b,as,r,l,h,hn=>by
  unfold Im at h;split at h;{cases h;simp[findLabel]}
  ·split at h
   ·rename_i x hx;obtain⟨as',l',r'⟩:=x;cases h;simp only[Wy]at hn;simp only[findLabel];cases ha:findLabel a l with
    |some y=>rw[ha]at hn;cases hn
    |none=>rw[ha]at hn;exact wN b hx hn
   ·cases h
 | .skip,_,_,_,h,_| .region _ _ _,_,_,_,h,_| .cond _ _ _,_,_,_,h,_| .block _ _,_,_,_,h,_| .loop _,_,_,_,h,_| .exit _,_,_,_,h,_| .scope _,_,_,_,h,_| .label _,_,_,_,h,_| .goto _,_,_,_,h,_| .ret,_,_,_,h,_| .rangeFunc _ _ _ _,_,_,_,h,_| .refuse _,_,_,_,h,_=>by simp[Im]at h
def Vt {R:Type} (run:List Nat->Code->S->KE R->Option R):List Code->List Nat->S->(S->Option R)->KE R->Option R
 | [],_,s,k,_=>k s|a::l,p,s,k,K=>run (0::p) a s fun e s1=>match e with| .normal=>frc s1 fun s1=>Vt run l (1::p) s1 k K|e=>K e s1
def exC {R:Type} (X:Cx) (call:Dq R) (ext:Dc) (tbl:Nat->List (Nat × Nat)) (hs:Hints) (N:Nat) (n:Nat):Nat->List Nat->Code->S->KE R->Option R
 |0,_,_,_,_=>none|f+1,p,c,s,K=>match c with
  | .skip=>K .normal s| .region id ops draw=>exJ (MS hs p) (OX (tbl id) s) (fun s=>K .normal s) fun k=>bI X call ext (tbl id) n ops.toList draw (OX (tbl id) s) k| .seq a b=>exC X call ext tbl hs N n f (0::p) a s fun e s1=>match e with| .normal=>frc s1 fun s1=>exC X call ext tbl hs N n f (1::p) b s1 K|e=>K e s1
  | .cond (.tmp t) a b=>exJ (MS hs p) s (fun s=>K .normal s) fun k=>(match s.get t with
    | .d .bool c=>bif c.toBool then exC X call ext tbl hs N n f (2::p) a (s.lit t c true) fun e s1=>(match e with
      | .normal=>k s1|e=>K e s1)else exC X call ext tbl hs N n f (3::p) b (s.lit t c false) fun e s1=>(match e with
      | .normal=>k s1|e=>K e s1)
    |_=>none)
  | .block id a=>exJ (MS hs p) s (fun s=>K .normal s) fun k=>exC X call ext tbl hs N n f (4::p) a s fun e s1=>match e with| .exit i=>if i=id then k s1 else K (.exit i) s1| .normal=>k s1|e=>K e s1
  | .loop a=>(match MS hs p with|none=>RK (exC X call ext tbl hs N n f (5::p) a) (slotsOf s.env) f s K|some h=>RX (fS h s) fun sh=>JN sh s fun ds ms=>Ae N (fun rec ds ms=>exC X call ext tbl hs N n f (5::p) a (Gj sh s.A ds ms) fun e s1=>match e with| .normal=>JN sh s1 rec|e=>K e s1) ds ms)| .exit id=>K (.exit id) s
  | .scope a=>(match MS hs p with
    |none=>exC X call ext tbl hs N n f (6::p) a s fun e s1=>match e with| .goto _=>none|e=>K e s1
    |some h=>(match Im a with
     |some (as,l,rest)=>if Wy l as=true then Vt (exC X call ext tbl hs N n f) as (6::p) s
       (fun s1=>RX (fS h s1) fun sh=>JN sh s1 fun ds ms=>Ae N (fun rec ds ms=>exC X call ext tbl hs N n f (7::p) rest (Gj sh s1.A ds ms) fun e s2=>match e with| .goto l'=>if l'=l then JN sh s2 rec else none|e=>K e s2) ds ms)
       (fun e s1=>match e with| .goto _=>none|e=>K e s1)else none
     |none=>none))
  | .label _=>K .normal s| .goto l=>K (.goto l) s| .ret=>K .ret s|_=>none
def Way (X:Cx) (n:Nat) (c:Code) (s:S) (e:Exit) (s':S):Prop:=
 s'.A=s.A/\∀A',leA s.A A'->∀Ψ:Exit->S->Prop,Ψ e (s'.wA A')->DC X n c (s.wA A') Ψ
def Way.Ln {X} {n:Nat} {c s s1 s2 e} (h:Way X n c s e s1) (hw:WkA s1 s2):Way X n c s e s2:=by refine⟨hw.1.trans h.1,fun A' hA Ψ hΨ=>?_⟩;refine(h.2 A' hA (fun e1 s3=>e1=e/\s3=s1.wA A') ⟨rfl,rfl⟩).post ?_;rintro e1 s3 ⟨rfl,rfl⟩;exact⟨_,hw.2 X n A' (by rw[h.1];exact hA),hΨ⟩
section
variable {X:Cx} {R:Type} {call:Dq R} {ext:Dc} (hP:Aq X.P=true) (hmo:X.P.follows .mixedOrders=true) (hc:JG X call) (he:IY X ext)
def zU {c:Code} {n:Nat} {sh:SSh} {A0:Key->Option O} {body:S->KE R->Option R} {K:KE R} {r:R} (hb:∀s (K:KE R),body s K=some r->Lr X n c s r K):
  ∀(N:Nat) (ds:List C) (ms:List Es),Ae N (fun rec ds ms=>body (Gj sh A0 ds ms) fun e s1=>match e with| .normal=>JN sh s1 rec|e=>K e s1) ds ms=some r->∃e s',K e s'=some r/\s'.A=A0/\∀A',leA A0 A'->∀Ψ:Exit->S->Prop,Ψ e (s'.wA A')->∀(Γ0:G) (a:Act) (w:World),At X n Γ0 ((Gj sh A0 ds ms).wA A') a w->Code.rounds X.P c (fun e a w=>∃s',Ψ e s'/\At X n Γ0 s' a w) N a w
 |0,ds,ms,h=>by simp[zW]at h
 |N+1,ds,ms,h=>by
  simp only[Bq]at h;obtain⟨e0,s1,h1,hA1,hD⟩:=hb _ _ h;have z6y:∀(hne:e0≠.normal),K e0 s1=some r->∃e s',K e s'=some r/\s'.A=A0/\∀A',leA A0 A'->∀Ψ:Exit->S->Prop,Ψ e (s'.wA A')->∀(Γ0:G) (a:Act) (w:World),At X n Γ0 ((Gj sh A0 ds ms).wA A') a w->Code.rounds X.P c (fun e a w=>∃s',Ψ e s'/\At X n Γ0 s' a w) (N+1) a w:=by
   intro hne h1;refine⟨e0,s1,h1,hA1,fun A' hA Ψ hΨ Γ0 a w hat=>?_⟩;rw[rounds_succ];refine wp_mono (hD A' hA (fun e1 s2=>e1=e0/\s2=s1.wA A') ⟨rfl,rfl⟩ Γ0 a w hat) ?_;rintro e1 a1 w1 ⟨s2,⟨rfl,rfl⟩,z6m⟩;cases e1 with
   |normal=>exact absurd rfl hne|exit _|goto _|ret|panic _|outgrown=>exact⟨_,hΨ,z6m⟩
  cases e0 with
  |normal=>
   obtain⟨ds',ms',h3,hw⟩:=Qp h1;rw[show s1.A=A0 from hA1]at hw;obtain⟨e,s',h4,h5,h6⟩:=zU hb N ds' ms' h3;refine⟨e,s',h4,h5,fun A' hA Ψ hΨ Γ0 a w hat=>?_⟩;rw[rounds_succ];refine wp_mono (hD A' hA (fun e1 s2=>e1= .normal/\s2=s1.wA A') ⟨rfl,rfl⟩ Γ0 a w hat) ?_;rintro e1 a1 w1 ⟨s2,⟨rfl,rfl⟩,z6m⟩;exact h6 A' hA Ψ hΨ Γ0 a1 w1 (hw.2 X n A' (by rw[show s1.A=A0 from hA1];exact hA) Γ0 a1 w1 z6m)
  |exit _|goto _|ret|panic _|outgrown=>exact z6y (by simp) h1
def uH {n:Nat} {r run} (zi:∀p c s (K:KE R),run p c s K=some r->Lr X n c s r K):∀(as:List Code) (p:List Nat) (s:S) (k:S->Option R) (K:KE R),Vt run as p s k K=some r->
  (∃s1,k s1=some r/\s1.A=s.A/\∀c l rest,Im c=some (as,l,rest)->∀A',leA s.A A'->∀Ψ:Exit->S->Prop,DC X n rest (s1.wA A') Ψ->DC X n c (s.wA A') Ψ)\/
  (∃e s1,e≠.normal/\K e s1=some r/\s1.A=s.A/\∀c l rest,Im c=some (as,l,rest)->∀A',leA s.A A'->∀Ψ:Exit->S->Prop,Ψ e (s1.wA A')->DC X n c (s.wA A') Ψ)
 | [],p,s,k,K,h=>by refine .inl ⟨s,h,rfl,fun c l rest hc A' hA Ψ hd=>?_⟩;cases c <;> simp only[Im,reduceCtorEq]at hc;rename_i a b;split at hc;{cases hc;exact Ec (rX hd)};{split at hc;{cases hc};{cases hc}}
 |a::as,p,s,k,K,h=>by
  simp only[Vt]at h;obtain⟨e,s1,h1,a1,d1⟩:=zi _ _ _ _ h;have inv:∀c l rest,Im c=some (a::as,l,rest)->∃b,c= .seq a b/\Im b=some (as,l,rest):=by intro c l rest hc;cases c <;> simp only[Im,reduceCtorEq]at hc;split at hc;{cases hc};{split at hc;{rename_i x hx;obtain⟨x1,x2⟩:=x;cases hc;exact⟨_,rfl,hx⟩};{cases hc}}
  cases e with
  |normal=>
   rcases uH zi as (1::p) s1 k K (by dsimp only at h1;rw[cN]at h1;exact h1)with⟨s2,h2,a2,d2⟩|⟨e,s2,hne,h2,a2,d2⟩;{refine .inl ⟨s2,h2,a2.trans a1,fun c l rest hc A' hA Ψ hd=>?_⟩;obtain⟨b,rfl,hb⟩:=inv c l rest hc;exact Ec (d1 A' hA _ (d2 b l rest hb A' (by rw[a1];exact hA) Ψ hd))};{refine .inr ⟨e,s2,hne,h2,a2.trans a1,fun c l rest hc A' hA Ψ hd=>?_⟩;obtain⟨b,rfl,hb⟩:=inv c l rest hc;exact Ec (d1 A' hA _ (d2 b l rest hb A' (by rw[a1];exact hA) Ψ hd))}
  |exit _|goto _|ret|panic _|outgrown=>
   refine .inr ⟨_,s1,by simp,h1,a1,fun c l rest hc A' hA Ψ hd=>?_⟩;obtain⟨b,rfl,hb⟩:=inv c l rest hc;exact Ec (d1 A' hA _ hd)
def Ends (X:Cx) (n:Nat) (l:Nat) (rest:Code) (sh:SSh) (A0:Key->Option O) (e:Exit) (s':S):Nat->List C->List Es->Prop
 |0,_,_=>False|m+1,ds,ms=>∃e2 s2,Way X n rest (Gj sh A0 ds ms) e2 s2/\((e2= .goto l/\∃ds' ms',WkA s2 (Gj sh A0 ds' ms')/\Ends X n l rest sh A0 e s' m ds' ms')\/((∀l',e2≠.goto l')/\e2=e/\s2=s'))
def q1H {n l:Nat} {rest:Code} {sh:SSh} {A0:Key->Option O} {body:S->KE R->Option R} {K:KE R} {r:R} (hb:∀s (K:KE R),body s K=some r->Lr X n rest s r K):
  ∀(N:Nat) (ds:List C) (ms:List Es),Ae N (fun rec ds ms=>body (Gj sh A0 ds ms) fun e s2=>match e with| .goto l'=>if l'=l then JN sh s2 rec else none|e=>K e s2) ds ms=some r->∃e s',K e s'=some r/\s'.A=A0/\(∀l',e≠.goto l')/\Ends X n l rest sh A0 e s' N ds ms
 |0,ds,ms,h=>by simp[zW]at h
 |N+1,ds,ms,h=>by
  rw[Bq]at h;obtain⟨e0,s1,h1,a1,d1⟩:=hb _ _ h;have a1:s1.A=A0:=a1;cases e0 with
  |goto l'=>
   dsimp only at h1;by_cases hl:l'=l;{rw[if_pos hl]at h1;subst hl;obtain⟨ds',ms',h2,hw⟩:=Qp h1;rw[a1]at hw;obtain⟨e,s',h3,h4,h5,h6⟩:=q1H hb N ds' ms' h2;exact⟨e,s',h3,h4,h5,_,s1,⟨a1,d1⟩,.inl ⟨rfl,ds',ms',hw,h6⟩⟩};{rw[if_neg hl]at h1;cases h1}
  |normal|exit _|ret|panic _|outgrown=>
   exact⟨_,s1,h1,a1,by simp,_,s1,⟨a1,d1⟩,.inr ⟨by simp,rfl,rfl⟩⟩
def z37 {n l:Nat} {c rest sh A0 e} {s':S} (hf:findLabel c l=some (.seq .skip rest)) {N:Nat} {ds ms} (hE:Ends X n l rest sh A0 e s' N ds ms) {A'} (hA:leA A0 A') {s0}
  (first:∀Ψ:Exit->S->Prop,DC X n rest ((Gj sh A0 ds ms).wA A') Ψ->DC X n c s0 Ψ) {Ψ:Exit->S->Prop} (hΨ:Ψ e (s'.wA A')):DC X n (.scope c) s0 Ψ:=by
 have pass:∀i:{x:Nat × List C × List Es // Ends X n l rest sh A0 e s' x.1 x.2.1 x.2.2},DC X n rest ((Gj sh A0 i.1.2.1 i.1.2.2).wA A') fun e2 s2=>match e2 with| .goto l'=>l'=l/\∃j:{x:Nat × List C × List Es // Ends X n l rest sh A0 e s' x.1 x.2.1 x.2.2},DS X n s2 ((Gj sh A0 j.1.2.1 j.1.2.2).wA A')/\j.1.1<i.1.1|e2=>Ψ e2 s2:=by
  rintro⟨⟨m,ds,ms⟩,h⟩;cases m with
  |zero=>exact h.elim|succ m=>
   obtain⟨e2,s2,hw,h1⟩:=h;refine hw.2 A' hA _ ?_;rcases h1 with⟨rfl,ds',ms',hwk,hE'⟩|⟨hne,rfl,rfl⟩;{exact⟨rfl,⟨⟨m,ds',ms'⟩,hE'⟩,hwk.2 X n A' (by rw[hw.1];exact hA),Nat.lt_succ_self m⟩};{cases e2 with|goto l'=>exact absurd rfl (hne l')|normal|exit _|ret|panic _|outgrown=>exact hΨ}
 refine q44 l hf (fun i=>(Gj sh A0 i.1.2.1 i.1.2.2).wA A') (fun i=>i.1.1) ?_ (fun i=>Ec (Nu (pass i)));refine first _ ((pass ⟨⟨N,ds,ms⟩,hE⟩).post ?_)
 intro e2 s2 h;refine⟨s2,DS.refl _,?_⟩;cases e2 with
 |goto l'=>exact⟨h.1,h.2.choose,h.2.choose_spec.1⟩|normal|exit _|ret|panic _|outgrown=>exact h
include hP hmo hc he
def uG {tbl:Nat->List (Nat × Nat)} {hs:Hints} {N n:Nat} {r:R}:∀(f:Nat) (p:List Nat) (c:Code) (s:S) (K:KE R),exC X call ext tbl hs N n f p c s K=some r->Lr X n c s r K
 |0,p,c,s,K,h=>by simp[exC]at h
 |f+1,p,c,s,K,h=>by
  have IH:=uG (tbl:=tbl) (hs:=hs) (N:=N) (n:=n) (r:=r) f;cases c with
  |skip=>exact⟨_,_,h,rfl,fun A' hA Ψ hΨ=>Nu hΨ⟩|region id ops draw=>
   simp only[exC]at h;have hw:=RU (tbl id) s;have:=Vs (P:=fun s1=>Way X n (.region id ops draw) (OX (tbl id) s) .normal s1) (G:=False) (fun s1 s2 h1 h2=>h1.Ln h2) (fun s1 h=>h.1) h fun k hk=>by obtain⟨s',h1,h2,h3⟩:=q6a hP hmo hc he (id:=id) hk;refine .inl ⟨s',h1,h2,fun A' hA Ψ hΨ=>?_⟩;have:=h3 A' hA Ψ hΨ;simpa using this
   rcases this with⟨s2,h1,h2⟩|h;{exact⟨_,s2,h1,h2.1.trans hw.1,fun A' hA Ψ hΨ=>DC.Ln (hw.2 X n A' hA) (h2.2 A' (by rw[hw.1];exact hA) Ψ hΨ)⟩};{exact h.elim}
  |seq c1 c2=>
   simp only[exC]at h;obtain⟨e0,s1,h1,a1,d1⟩:=IH _ c1 s _ h;cases e0 with
   |normal=>
    obtain⟨e2,s2,h2,a2,d2⟩:=IH (1::p) c2 s1 K (by dsimp only at h1;rw[cN]at h1;exact h1);exact⟨e2,s2,h2,a2.trans a1,fun A' hA Ψ hΨ=>Ec (d1 A' hA _ (d2 A' (by rw[a1];exact hA) Ψ hΨ))⟩
   |exit _|goto _|ret|panic _|outgrown=>exact⟨_,s1,h1,a1,fun A' hA Ψ hΨ=>Ec (d1 A' hA _ hΨ)⟩
  |cond t c1 c2=>
   cases t with
   |tmp t=>
    simp only[exC]at h;have:=Vs (P:=fun s1=>Way X n (.cond (.tmp t) c1 c2) s .normal s1) (G:=Lr X n (.cond (.tmp t) c1 c2) s r K) (fun s1 s2 h1 h2=>h1.Ln h2) (fun s1 h=>h.1) h fun k hk=>by
     split at hk
     ·rename_i v hv;cases hb:v.toBool with
      |true=>
       rw[hb]at hk;simp only[cond_true]at hk;rw[eO hv hb]at hk;obtain⟨e2,s2,h2,a2,d2⟩:=IH _ c1 s _ hk;have w2:Way X n (.cond (.tmp t) c1 c2) s e2 s2:=⟨a2,fun A' hA Ψ hΨ=>rV hv (fun _=>d2 A' hA Ψ hΨ) (fun h=>by rw[hb]at h;cases h)⟩;cases e2 with
       |normal=>exact .inl ⟨s2,h2,w2⟩|exit _|goto _|ret|panic _|outgrown=>exact .inr ⟨_,s2,h2,w2⟩
      |false=>
       rw[hb]at hk;simp only[cond_false]at hk;rw[eO hv hb]at hk;obtain⟨e2,s2,h2,a2,d2⟩:=IH _ c2 s _ hk;have w2:Way X n (.cond (.tmp t) c1 c2) s e2 s2:=⟨a2,fun A' hA Ψ hΨ=>rV hv (fun h=>by rw[hb]at h;cases h) (fun _=>d2 A' hA Ψ hΨ)⟩;cases e2 with
       |normal=>exact .inl ⟨s2,h2,w2⟩|exit _|goto _|ret|panic _|outgrown=>exact .inr ⟨_,s2,h2,w2⟩
     ·cases hk
    rcases this with⟨s2,h1,h2⟩|h;{exact⟨_,s2,h1,h2⟩};{exact h}
   |const _|global _|func _=>simp[exC]at h
  |block id c1=>
   simp only[exC]at h;have:=Vs (P:=fun s1=>Way X n (.block id c1) s .normal s1) (G:=Lr X n (.block id c1) s r K) (fun s1 s2 h1 h2=>h1.Ln h2) (fun s1 h=>h.1) h fun k hk=>by
    obtain⟨e0,s1,h1,a1,d1⟩:=IH _ c1 s _ hk;cases e0 with
    |exit i=>
     dsimp only at h1;by_cases hi:i=id;{rw[if_pos hi]at h1;refine .inl ⟨s1,h1,a1,fun A' hA Ψ hΨ=>Vc (d1 A' hA _ ?_)⟩;simp only;rw[if_pos hi];exact hΨ};{rw[if_neg hi]at h1;refine .inr ⟨_,s1,h1,a1,fun A' hA Ψ hΨ=>Vc (d1 A' hA _ ?_)⟩;simp only;rw[if_neg hi];exact hΨ}
    |normal=>exact .inl ⟨s1,h1,a1,fun A' hA Ψ hΨ=>Vc (d1 A' hA _ hΨ)⟩|goto _|ret|panic _|outgrown=>exact .inr ⟨_,s1,h1,a1,fun A' hA Ψ hΨ=>Vc (d1 A' hA _ hΨ)⟩
   rcases this with⟨s2,h1,h2⟩|h;{exact⟨_,s2,h1,h2⟩};{exact h}
  |loop c1=>
   simp only[exC]at h;split at h;{obtain⟨e,s',h1,h2,h3⟩:=tE (fun s K h=>IH _ c1 s K h) f s K h;exact⟨e,s',h1,h2,fun A' hA Ψ hΨ Γ0 a w hat=>wp_loop_rounds f (h3 A' hA Ψ hΨ Γ0 a w hat)⟩};{rename_i hh;rw[cK]at h;obtain⟨ds,ms,h1,hw⟩:=Qp h;obtain⟨e,s',h4,h5,h6⟩:=zU (c:=c1) (body:=exC X call ext tbl hs N n f (5::p) c1) (fun s K h=>IH _ c1 s K h) N ds ms h1;exact⟨e,s',h4,h5,fun A' hA Ψ hΨ Γ0 a w hat=>wp_loop_rounds N (h6 A' hA Ψ hΨ Γ0 a w (hw.2 X n A' hA Γ0 a w hat))⟩}
  |exit id=>exact⟨_,_,h,rfl,fun A' hA Ψ hΨ=>q42 hΨ⟩|scope c1=>
   simp only[exC]at h;split at h
   ·obtain⟨e0,s1,h1,a1,d1⟩:=IH _ c1 s _ h;cases e0 with
    |goto i=>cases h1
    |normal|exit _|ret|panic _|outgrown=>exact⟨_,s1,h1,a1,fun A' hA Ψ hΨ=>rY (d1 A' hA _ hΨ)⟩
   ·rename_i hh _;split at h
    ·rename_i as l rest hd;simp only[au]at h;obtain⟨hnl,h⟩:=h;rcases uH (fun p c s K h=>IH p c s K h) as _ s _ _ h with⟨s1,h1,a1,d1⟩|⟨e,s1,hne,h1,a1,d1⟩;{rw[cK]at h1;obtain⟨ds,ms,h2,hw⟩:=Qp h1;obtain⟨e,s',h3,h4,h5,h6⟩:=q1H (rest:=rest) (body:=exC X call ext tbl hs N n f (7::p) rest) (fun s K h=>IH _ rest s K h) N ds ms h2;refine⟨e,s',h3,h4.trans a1,fun A' hA Ψ hΨ=>?_⟩;exact z37 (wN _ hd hnl) h6 (by rw[a1];exact hA) (fun Ψ' hd'=>d1 c1 l rest hd A' hA Ψ' (DC.Ln (hw.2 X n A' (by rw[a1];exact hA)) hd')) hΨ}
     ·cases e with
      |goto i=>cases h1
      |normal|exit _|ret|panic _|outgrown=>exact⟨_,s1,h1,a1,fun A' hA Ψ hΨ=>rY (d1 c1 l rest hd A' hA _ hΨ)⟩
    ·cases h
  |label _=>exact⟨_,_,h,rfl,fun A' hA Ψ hΨ=>rX hΨ⟩|goto _=>exact⟨_,_,h,rfl,fun A' hA Ψ hΨ=>q43 hΨ⟩|ret=>exact⟨_,_,h,rfl,fun A' hA Ψ hΨ=>ML hΨ⟩|rangeFunc _ _ _ _=>simp[exC]at h|refuse _=>simp[exC]at h
end
def exF {R:Type} (X:Cx) (ov:OvK R) (ext:Dc) (tbl:FuncId->Nat->List (Nat × Nat)) (hs:FuncId->Hints) (N fuel:Nat):Nat->Dq R
 |0,_,_,_,_=>none|d+1,f,xs,A,K=>match ov f with
  |some g=>g xs A K|none=>(match X.P.funcs[f]? with|some fn=>(match fn.body with|some c=>if xs.length<=fn.ntmps then exJ (MS (hs f) [9]) (kc xs A) (fun s=>tG X fn s K) fun k=>exC X (exF X ov ext tbl hs N fuel d) ext (tbl f) (hs f) N fn.ntmps fuel [] c (nbS (kc xs A)) fun e s=>(match e with| .normal=>k s| .ret=>k s|_=>none)else none|none=>none)|none=>none)
section
variable {X:Cx} {R:Type} {ov:OvK R} {ext:Dc} (hP:Aq X.P=true) (hmo:X.P.follows .mixedOrders=true) (hov:ZC X ov) (he:IY X ext)
include hP hmo hov he
def bV {tbl:FuncId->Nat->List (Nat × Nat)} {hs:FuncId->Hints} {N fuel:Nat}:∀d,JG X (exF X ov ext tbl hs N fuel d)
 |0=>by intro f xs A K r h;simp[exF]at h
 |d+1=>by
  intro f xs A K r h;simp only[exF]at h;split at h;{rename_i g hg;exact hov f g hg xs A K r h};split at h
  ·rename_i fn hf;split at h
   ·rename_i c hb;simp only[au]at h;obtain⟨hl,h⟩:=h;have:=Vs (P:=fun s1=>∃e:Exit,(e= .normal\/e= .ret)/\Way X fn.ntmps c (kc xs A) e s1) (G:=False) (fun s1 s2 ⟨e,h1,h2⟩ h3=>⟨e,h1,h2.Ln h3⟩) (fun s1 ⟨e,_,h⟩=>h.1) h fun k hk=>by
     obtain⟨e,s',h1,h2⟩:=uG hP hmo (bV d) he fuel [] c (nbS (kc xs A)) _ hk;have h2:Way X fn.ntmps c (kc xs A) e s':=⟨h2.1,fun A' hA Ψ hΨ=>DC.Ln ((u3 (kc xs A)).2 X fn.ntmps A' hA) (h2.2 A' hA Ψ hΨ)⟩;cases e with
     |normal=>exact .inl ⟨s',h1,_,.inl rfl,h2⟩|ret=>exact .inl ⟨s',h1,_,.inr rfl,h2⟩|exit _|goto _|panic _|outgrown=>cases h1
    rcases this with⟨s',h1,e,he',h2,h3⟩|h;{obtain⟨v,L,h4,h5⟩:=q6b h1;refine⟨v,L,aQ hP hf hb rfl hl fun A' hA=>?_,h4⟩;exact h3 A' hA (fun e s'=>(e= .normal\/e= .ret)/\Jh X fn A' v L s') ⟨he',h5 A' (by rw[h2];exact hA)⟩};{exact h.elim}
   ·cases h
  ·cases h
end
end
def IV (a b k:Key):Key:=if k=a then b else if k=b then a else k
def QM (a b k:Key):IV a b (IV a b k)=k:=by unfold IV;by_cases h1:k=a;{subst h1;rw[if_pos rfl];by_cases h2:b=k;{rw[if_pos h2];exact h2};{rw[if_neg h2,if_pos rfl]}};{rw[if_neg h1];by_cases h2:k=b;{subst h2;rw[if_pos rfl,if_pos rfl]};{rw[if_neg h2,if_neg h1,if_neg h2]}}
def swU (a b:Key):Key->Key
 | .g k=>.g (IV a b k)| .l n=>.l n
def Ji (a b k:Key):swU a b (swU a b k)=k:=by cases k <;> simp[swU,QM]
def Tip.lQ (ρ:Key->Key):Tip->Tip
 | .tok t=>.tok t| .home k p=>.home (ρ k) p
def G.perm (Γ:G) (ρ:Key->Key):G:={Γ with ι:=fun k=>Γ.ι (ρ k),κ:=fun b=>(Γ.κ b).map fun p=>(p.1.lQ ρ,p.2)}
def FX (a b:Key) (A:Key->Option O):Key->Option O:=fun k=>(A (IV a b k)).map (wb (swU a b))
def z04 (a b:Key) (A:Key->Option O):FX a b (FX a b A)=A:=by
 funext k;unfold FX;rw[QM];cases A k with
 |none=>rfl|some o=>simp[O.KO _ _ (Ji a b)]
def PW (a b:Key) (L:List (Key × O)):List (Key × O):=L.map fun p=>(swU a b p.1,p.2.ren (swU a b))
def zO (a b:Key):∀(L:List (Key × O)) (k:Key),AR (PW a b L) k=(AR L (swU a b k)).map (wb (swU a b))
 | [],_=>rfl|(j,o)::L,k=>by
  show(if swU a b j=k then some (o.ren (swU a b))else AR (PW a b L) k)=(if j=swU a b k then some o else AR L (swU a b k)).map (wb (swU a b));by_cases h:j=swU a b k
  ·have:swU a b j=k:=by rw[h,Ji]
   rw[if_pos this,if_pos h];rfl
  ·have:swU a b j≠k:=fun e=>h (by rw[<-e,Ji]);rw[if_neg this,if_neg h];exact zO a b L k
def AQ.perm {Γ:G} {w} {s s':S} {ρ} (c:AQ Γ w s) (hρ:∀k,ρ (ρ k)=k) (ho:∀k,s'.obj k=(s.obj (ρ k)).map (wb ρ)) (hl:∀t,s'.live t=s.live t) (hk:∀t,s.known t=true->s'.known t=true):AQ (Γ.perm ρ) w s':=by
 have pr:∀hm,Gf Γ (Γ.perm ρ) ρ hm:=fun hm=>⟨gq _,fun k x h=>by simp[G.perm,hρ,h],fun _ _ h=>h,fun k b p sz _ h=>⟨by simp[G.perm,h,Tip.lQ],rfl⟩⟩;have hd:∀k,s.Bb (ρ k)=true->s'.Bb k=true:=fun k h=>by
  unfold S.Bb at h ⊢;rw[ho];cases hs:s.obj (ρ k)with
  |none=>rw[hs]at h;cases h
  |some o=>rw[hs]at h;simpa[Nv,O.UG]using h
 refine⟨c.hH,c.hZ,fun b o sz h=>?_,fun k o h=>?_,fun k h=>?_,fun k k' b τ τ' h1 h2=>?_,fun t L h=>?_,fun t ht=>hk t (c.zc t ht),c.hgl,c.hoo,c.hσ⟩
 ·cases hb:Γ.κ b with
  |none=>simp[G.perm,hb]at h|some p=>
   obtain⟨t,sz'⟩:=p;simp[G.perm,hb]at h;obtain⟨rfl,rfl⟩:=h;obtain⟨a1,a2,arr,T,a3,a4,a5⟩:=c.hκ b t sz' hb;exact⟨a1,a2,arr,T,a3,a4,by cases t with|tok=>trivial|home _ p=>cases p <;> exact a5⟩
 ·rw[ho]at h;cases hs:s.obj (ρ k)with
  |none=>rw[hs]at h;cases h
  |some o0=>
   rw[hs]at h;cases h;refine(c.obj (ρ k) o0 hs).imp (fun h=>⟨h.1,O.Yr h.2⟩) fun yw=>?_
   have:=Own.ren (pr _) (w':=w) (fun hd b τ hb=>by
    obtain⟨e1,e2,_⟩:=c.Eb hb hs hd;exact⟨rfl,e1,e2⟩) (Nat.le_refl _) yw
   rw[hρ]at this;exact this
 ·rw[ho];have:=c.dom (ρ k) h;cases hs:s.obj (ρ k)with|none=>exact absurd hs this|some o=>simp
 ·refine(c.inj (ρ k) (ρ k') b τ τ' h1 h2).imp (fun e=>by rw[<-hρ k,e,hρ]) (And.imp (Or.imp (hd k) (hd k')) id)
 ·rw[hl]at h;obtain⟨x,h1,h2⟩:=c.tok t L h;refine⟨x,h1,fun b pos sz hx=>?_⟩;obtain⟨h3,h4⟩:=h2 b pos sz hx;exact⟨h3,by simp[G.perm,h4,Tip.lQ]⟩
def CS (a b:Key) (x:V):V:=x.ren (swU a b) id
def lR (a b:Key) (x:V):CS a b (CS a b x)=x:=V.KO _ _ (Ji a b) x
def z3f (a b:Key) (n:Nat) (x:V):(CS a b x).DR n=x.DR n:=by cases x <;> simp[CS,qm,V.DR]
def z3d (a b:Key) (n:Nat) (x:V):(CS a b x).slot n=CS a b (x.slot n):=by cases x <;> simp[CS,qm,V.slot]
def Yj (a b:Key):∀(n:Nat) (xs:List V),GA n (xs.map (CS a b))=GA n xs
 |_,[]=>rfl|n,x::xs=>by simp only[dy,GA,z3f,Yj a b (n+1) xs]
def mW (a b:Key):∀(n:Nat) (xs:List V),CZ n (xs.map (CS a b))=(CZ n xs).map (CS a b)
 |_,[]=>rfl|n,x::xs=>by simp only[dy,CZ,z3d,mW a b (n+1) xs]
def q01 (a b:Key):∀(xs:List V),V.Cr (swU a b) id xs=xs.map (CS a b)
 | []=>rfl|x::xs=>by simp only[V.Cr,dy,q01 a b xs];rfl
def lS (a b:Key) (xs:List V):CS a b (.tup xs)= .tup (xs.map (CS a b)):=by simp only[CS,qm,q01]
def z3e (a b:Key) (n:Nat) (x:V):(CS a b x).CY n=CS a b (x.CY n):=by
 cases x with
 |tup xs=>rw[lS];simp only[V.CY];rw[mW,lS]|ym=>rfl|d|sl|ts|emp|ptr|yn|sr|mp|agg|fn|top|any=>simp[CS,qm,V.CY,V.slot]
def q0Z (a b:Key) (n:Nat) (x:V):(CS a b x).tkR n=x.tkR n:=by
 cases x with
 |tup xs=>rw[lS];simp only[V.tkR];exact Yj a b n xs|ym=>rfl|d|sl|ts|emp|ptr|yn|sr|mp|agg|fn|top|any=>simp[CS,qm,V.tkR,V.DR]
def O.z0A (a b:Key) {o:O} (h:o.ok BS BS=true):(o.ren (swU a b)).ok BS BS=true:=by
 have key:(∀x:V,x.ok BS BS=true->(x.ren (swU a b) id).ok BS BS=true):=by
  intro x
  induction x using V.rec (motive_2:=fun xs=>rv BS BS xs=true->rv BS BS (V.Cr (swU a b) id xs)=true)with
  |ptr k q τ=>intro h;cases k <;> simp[va,qm,swU,BS]at h ⊢
  |sr k q lo n cp eb e=>intro h;cases k <;> simp[va,qm,swU,BS]at h ⊢
  |mp k=>intro h;cases k <;> simp[va,qm,swU,BS]at h ⊢
  |sl=>intro h;simp[va,BS]at h|agg τ vs ih=>intro h;simp only[va,qm]at h ⊢;exact ih h|fn f vs ih=>intro h;simp only[va,qm]at h ⊢;exact ih h|tup vs ih=>intro h;simp only[va,qm]at h ⊢;exact ih h|nil=>simp only[V.Cr,rv]|cons x xs ih1 ih2 h=>
   simp only[rv,az]at h;simp only[V.Cr,rv,az];exact⟨ih1 h.1,ih2 h.2⟩
  |_=>intro _;simp only[qm,va]
 cases o with
 |box x=>exact key x h|map kτ vτ es=>
  simp only[wb,O.ok]at h ⊢
  induction es with
  |nil=>rfl|cons c es ih=>
   simp only[V.DP,az]at h;simp only[dy,V.DP,az];exact⟨key _ h.1,ih h.2⟩
 |it=>rfl|dead=>rfl
def Bo.swap {X f} {xs:List V} {A v L} (a b:Key) (D:Bo X f xs A v L):
  Bo X f (xs.map (CS a b)) (FX a b A) (CS a b v) (PW a b L):=by
 intro A' Γ w args hA hgl ⟨c,hok⟩ hlen hr;have hxs:(xs.map (CS a b)).map (CS a b)=xs:=by rw[pc];exact(uz (g:=id) fun x _=>lR a b x).trans (List.map_id _)
 have hA':∀k o,A k=some o->FX a b A' k=some o:=by
  intro k o h;have h1:FX a b A (IV a b k)=some (o.ren (swU a b)):=by simp[FX,QM,h]
  have h2:=hA _ _ h1;simp[FX,h2,O.KO _ _ (Ji a b)]
 have yr:∀k,jj (kc xs (FX a b A')) k=(jj (kc (xs.map (CS a b)) A') (swU a b k)).map (wb (swU a b)):=by
  intro k;cases k with
  |l n=>rfl|g k=>simp[kc,jj,Bx,AR,swU,FX]
 have c1:=c.perm (s':=kc xs (FX a b A')) (Ji a b) yr (fun t=>by simp only[kc,uq,Yj]) (fun t h=>by simpa only[kc,S.known,Yj]using h);have z8m:AOk (FX a b A'):=by
  intro k o h;unfold FX at h;cases hk:A' (IV a b k)with
  |none=>rw[hk]at h;cases h
  |some o0=>rw[hk]at h;cases h;exact O.z0A a b (hok _ _ hk)
 have pr:Gf Γ (Γ.perm (swU a b)) (swU a b) none:=⟨gq _,fun k x h=>by simp[G.perm,Ji,h],fun _ _ h=>h,fun k _ _ _ h=>by cases h⟩;refine(D (FX a b A') (Γ.perm (swU a b)) w args hA' hgl ⟨c1,z8m⟩ (by simpa using hlen) fun i x u hx hu=>?_).mono ?_
 ·have h1:(CZ 1000 (xs.map (CS a b)))[i]? =some (CS a b x):=by rw[mW,List.getElem?_map,hx];rfl
  have:=(hr i _ u h1 hu).ren (θ:=id) pr (fun _ _ h=>h);have e:qm (swU a b) id (CS a b x)=x:=lR a b x
  rwa [e]at this
 ·rintro e w' ⟨u,Γ',rfl,gle,c',hu⟩;have z6o:∀k,jj (S.fin (CS a b v) (PW a b L) A') k=(jj (S.fin v L (FX a b A')) (swU a b k)).map (wb (swU a b)):=by
   intro k;simp only[S.fin,jj,Bx,zO];cases hl:AR L (swU a b k)with
   |some o=>rfl|none=>
    cases k with
    |l n=>rfl|g k=>
     simp only[Option.map_none,swU,FX,QM];cases A' k with
     |none=>rfl|some o=>simp[O.KO _ _ (Ji a b)]
  have c2:=c'.perm (s':=S.fin (CS a b v) (PW a b L) A') (Ji a b) z6o (fun t=>by simp only[S.fin,uq,q0Z]) (fun t h=>by simpa only[S.fin,S.known,q0Z]using h);have pr':Gf Γ' (Γ'.perm (swU a b)) (swU a b) none:=⟨gq _,fun k x h=>by simp[G.perm,Ji,h],fun _ _ h=>h,fun k _ _ _ h=>by cases h⟩;refine⟨u,Γ'.perm (swU a b),rfl,⟨gle.H,gle.Z,gle.ZH,fun k x h=>?_,gle.gl,gle.oo,gle.σ,fun k h=>?_⟩,c2,?_⟩;{refine gle.g (IV a b k) x ?_;show Γ.ι (swU a b (.g (IV a b k)))=some x;simp[swU,QM,h]};{refine gle.gn (IV a b k) ?_;show Γ.ι (swU a b (.g (IV a b k)))=none;simp[swU,QM,h]};{rw[z3e];exact hu.ren (θ:=id) pr' (fun _ _ h=>h)}
mutual
def Sh.fit {R:Type}:Sh->V->(List C->Option R)->Option R
 | .d τ,x,K=>(match x with| .d τ' c=>if τ'=τ then K [c]else none|_=>none)| .sl _ _ _,_,_=>none| .ts eb e,x,K=>(match x with| .ts eb' e' cs=>if eb'=eb/\e'=e then K [.slice cs]else none|_=>none)| .sr k q cp eb e,x,K=>(match x with| .sr k' q' lo n cp' eb' e'=>if k'=k/\q'=q/\eb'=eb/\e'=e then(match cp,cp' with|false,none=>K [.int lo,.int n]|true,some c=>K [.int lo,.int n,.int c]|_,_=>none)else none|_=>none)| .yn τ,x,K=>(match x with| .yn τ' c=>if τ'=τ then K [c]else none|_=>none)| .arr e,x,K=>(match x with| .d (.arr n e') c=>if e'=e then(if n=c.elems.length then K [c]else none)else none|_=>none)| .agg τ l,x,K=>(match x with| .agg τ' vs=>if τ'=τ then Sh.fits l vs K else none|_=>none)| .as v,x,K=>if V.same x v=true then K []else none| .vec k eb e,x,K=>(match x with| .sr k' q' lo n cp' eb' e'=>if k'=k/\q'=[]/\lo=0/\cp'.isNone=true/\eb'=eb/\e'=e then K [.int n]else none|_=>none)| .fnc f l,x,K=>(match x with| .fn f' vs=>if f'=f then Ie l vs K else none|_=>none)
def Sh.fits {R:Type}:List Sh->List V->(List C->Option R)->Option R
 | [],[],K=>K []|s::l,x::xs,K=>s.fit x fun d1=>Sh.fits l xs fun d2=>K (d1++d2)|_,_,_=>none
end
mutual
def Sh.vG {R:Type} {r}:∀(s:Sh) (x:V) {K:List C->Option R},s.fit x K=some r->∃ds,K ds=some r/\ds.length=s.many/\s.fill 0 ds=x
 | .d τ,x,K,h=>by cases x <;> simp only[Sh.fit,reduceCtorEq,au]at h;obtain⟨rfl,h⟩:=h;exact⟨_,h,by simp[Sh.many],by simp[Sh.fill,dk]⟩
 | .sl _ _ _,x,K,h=>by simp[Sh.fit]at h
 | .ts eb e,x,K,h=>by cases x <;> simp only[Sh.fit,reduceCtorEq,au]at h;obtain⟨⟨rfl,rfl⟩,h⟩:=h;exact⟨_,h,by simp[Sh.many],by simp[Sh.fill,dk,C.elems]⟩
 | .sr k q cp eb e,x,K,h=>by cases x <;> simp only[Sh.fit,reduceCtorEq,au]at h;obtain⟨⟨rfl,rfl,rfl,rfl⟩,h⟩:=h;split at h;{exact⟨_,h,by simp[Sh.many],by simp[Sh.fill,dk,aj]⟩};{exact⟨_,h,by simp[Sh.many],by simp[Sh.fill,dk,aj]⟩};{cases h}
 | .yn τ,x,K,h=>by cases x <;> simp only[Sh.fit,reduceCtorEq,au]at h;obtain⟨rfl,h⟩:=h;exact⟨_,h,by simp[Sh.many],by simp[Sh.fill,dk]⟩
 | .arr e,x,K,h=>by simp only[Sh.fit]at h;split at h;{simp only[au]at h;obtain⟨rfl,h1,h⟩:=h;subst h1;exact⟨_,h,by simp[Sh.many],by simp[Sh.fill,dk]⟩};{cases h}
 | .agg τ l,x,K,h=>by cases x <;> simp only[Sh.fit,reduceCtorEq,au]at h;obtain⟨rfl,h⟩:=h;obtain⟨ds,h1,h2,h3⟩:=Sh.cE l _ h;exact⟨ds,h1,by simpa only[Sh.many]using h2,by simp only[Sh.fill];rw[h3]⟩
 | .as v,x,K,h=>by simp only[Sh.fit,au]at h;obtain⟨h1,h⟩:=h;have:=V.YU _ _ h1;subst this;exact⟨_,h,by simp[Sh.many],by simp only[Sh.fill]⟩
 | .vec k eb e,x,K,h=>by
  cases x <;> simp only[Sh.fit,reduceCtorEq,au]at h;obtain⟨⟨rfl,rfl,rfl,hc,rfl,rfl⟩,h⟩:=h;rename_i cp _ _;cases cp with
  |some c=>cases hc
  |none=>exact⟨_,h,by simp[Sh.many],by simp[Sh.fill,dk,aj]⟩
 | .fnc f l,x,K,h=>by cases x <;> simp only[Sh.fit,reduceCtorEq,au]at h;obtain⟨rfl,h⟩:=h;obtain⟨ds,h1,h2,h3⟩:=VR l _ h;exact⟨ds,h1,by simpa only[Sh.many]using h2,by simp only[Sh.fill,h3]⟩
def Sh.cE {R:Type} {r}:∀(l:List Sh) (xs:List V) {K:List C->Option R},Sh.fits l xs K=some r->∃ds,K ds=some r/\ds.length=Sh.HU l/\Sh.Dw l 0 ds=xs
 | [],xs,K,h=>by cases xs <;> simp only[Sh.fits,reduceCtorEq]at h;exact⟨_,h,by simp[Sh.HU],by simp[Sh.Dw]⟩
 |s::l,[],K,h=>by simp[Sh.fits]at h
 |s::l,x::xs,K,h=>by
  simp only[Sh.fits]at h;obtain⟨d1,h1,h2,h3⟩:=Sh.vG s x h;obtain⟨d2,h5,h6,h7⟩:=Sh.cE l xs h1;refine⟨_,h5,by simp[Sh.HU,h2,h6],?_⟩;have e1:s.fill 0 (d1++d2)=s.fill 0 d1:=Sh.Kn s 0 0 _ _ fun j hj=>Jr (by omega);have e2:Sh.Dw l s.many (d1++d2)=Sh.Dw l 0 d2:=Sh.RT l _ 0 _ _ fun j hj=>by rw[MM (by omega),h2];congr 1;omega
  simp only[Sh.Dw,cm,e1,e2];rw[h3,h7]
end
def Ko {R:Type} (A:Key->Option O):List (Key × OSh)->(List C->List Es->Option R)->Option R
 | [],K=>K [] []|(k,.box sh)::l,K=>(match A k with|some (.box x)=>sh.fit x fun d1=>Ko A l fun d2 m2=>K (d1++d2) m2|_=>none)|(k,.map kτ vτ)::l,K=>(match A k with|some (.map kτ' vτ' es)=>if kτ'=kτ/\vτ'=vτ then(if BO vτ es=true then Ko A l fun d2 m2=>K d2 (unE es::m2)else none)else none|_=>none)|_::_,_=>none
def cD {R:Type} {r A}:∀(l:List (Key × OSh)) {K:List C->List Es->Option R},Ko A l K=some r->
  ∃ds ms,K ds ms=some r/\ds.length=FJ l/\∀k o,AR (BX l 0 0 ds ms) k=some o->A k=some o
 | [],K,h=>⟨[],[],h,rfl,fun k o h=>by simp[BX,AR]at h⟩|(j,.box sh)::l,K,h=>by
  simp only[Ko]at h;split at h
  ·rename_i x hx;obtain⟨d1,h1,h2,h3⟩:=Sh.vG sh x h;obtain⟨d2,ms,h4,h5,h6⟩:=cD l h1;refine⟨_,ms,h4,by simp[FJ,h2,h5],fun k o hk=>?_⟩;have e1:sh.fill 0 (d1++d2)=sh.fill 0 d1:=Sh.Kn sh 0 0 _ _ fun j hj=>Jr (by omega);have e2:BX l sh.many 0 (d1++d2) ms=BX l 0 0 d2 ms:=Jb l _ 0 0 _ _ _ fun j hj=>by rw[MM (by omega),h2];congr 1;omega
   simp only[BX,cm,e1,e2,h3,AR]at hk;split at hk;{rename_i e;subst e;cases hk;exact hx};{exact h6 k o hk}
  ·cases h
 |(j,.map kτ vτ)::l,K,h=>by simp only[Ko]at h;split at h;{rename_i kτ' vτ' es hx;simp only[au]at h;obtain⟨⟨rfl,rfl⟩,hd,h⟩:=h;obtain⟨d2,ms,h4,h5,h6⟩:=cD l h;refine⟨_,_,h4,by simp[FJ,h5],fun k o hk=>?_⟩;simp only[BX,SG,AR]at hk;split at hk;{rename_i e;subst e;cases hk;rw[show dm (unE es::ms) 0=unE es from rfl,aP hd];exact hx};{exact h6 k o hk}};{cases h}
 |(_,.dead _)::l,K,h=>by simp[Ko]at h
 |(_,.it)::l,K,h=>by simp[Ko]at h
mutual
def Sh.unP:Sh->V->List (Key × Key)
 | .as (.ptr (.g a) _ _),.ptr (.g b) _ _=>[(a,b)]| .as (.mp (.g a)),.mp (.g b)=>[(a,b)]| .sr (.g a) _ _ _ _,.sr (.g b) _ _ _ _ _ _=>[(a,b)]| .vec (.g a) _ _,.sr (.g b) _ _ _ _ _ _=>[(a,b)]| .agg _ l,.agg _ xs=>Sh.Ym l xs|_,_=>[]
def Sh.Ym:List Sh->List V->List (Key × Key)
 |s::l,x::xs=>s.unP x++Sh.Ym l xs|_,_=>[]
end
def CL:List (Key × Key)->Key->Key
 | [],k=>k|(a,b)::l,k=>CL l (IV a b k)
def Yf (zr:List (Key × OSh)) (A:Key->Option O):Nat->List (Key × Key)->List (Key × Key)->List Key->List (Key × Key)
 |0,_,sw,_=>sw|_,[],sw,_=>sw
 |f+1,(a,b)::todo,sw,seen=>if Wo a seen=true then Yf zr A f todo sw seen else
   (match CL sw b with
   |b'=>Yf zr A f ((match fA zr a,A b with|some (.box sh),some (.box x)=>sh.unP x|_,_=>[])++todo) (if a=b' then sw else sw++[(a,b')]) (a::seen))
def nH:List (Key × Key)->List V->List V
 | [],xs=>xs|(a,b)::l,xs=>nH l (xs.map (CS a b))
def swA:List (Key × Key)->(Key->Option O)->Key->Option O
 | [],A=>A|(a,b)::l,A=>swA l (FX a b A)
def nU:List (Key × Key)->V->V
 | [],x=>x|(a,b)::l,x=>CS a b (nU l x)
def nT:List (Key × Key)->List (Key × O)->List (Key × O)
 | [],x=>x|(a,b)::l,x=>PW a b (nT l x)
def Bo.sws {X f}:∀(sw:List (Key × Key)) {xs:List V} {A:Key->Option O} {v:V} {L:List (Key × O)},Bo X f (nH sw xs) (swA sw A) v L->Bo X f xs A (nU sw v) (nT sw L)
 | [],xs,A,v,L,h=>h|(a,b)::l,xs,A,v,L,h=>by
  have h1:=(Bo.sws l h).swap a b;have hxs:(xs.map (CS a b)).map (CS a b)=xs:=by rw[pc];exact(uz (g:=id) fun x _=>lR a b x).trans (List.map_id _)
  rw[hxs,z04]at h1;exact h1
def iR (args:List Sh) (zr:List (Key × OSh)) {R:Type} (p:List C->List Es->(V->List (Key × O)->Option R)->Option R):OvG R:=fun xs A K=>
 match Yf zr A 1000 (Sh.Ym args xs) [] []with
 |sw=>Sh.fits args (nH sw xs) fun d1=>Ko (swA sw A) zr fun d2 ms=>p (d1++d2) ms fun v L=>K (nU sw v) (nT sw L)
def z1c {X f args zr} {R:Type} {p}
  (hp:∀ds ms (K:V->List (Key × O)->Option R) r,p ds ms K=some r->∃v L,Bo X f (Sh.Dw args 0 ds) (AR (BX zr (Sh.HU args) 0 ds ms)) v L/\K v L=some r):GOk X f (iR args zr p):=by
 intro xs A Kr r hr;unfold iR at hr;dsimp only at hr;generalize Yf zr A 1000 (Sh.Ym args xs) [] []=sw at hr;obtain⟨d1,h1,h2,h3⟩:=Sh.cE args _ hr;obtain⟨d2,ms,h4,h5,h6⟩:=cD zr h1;obtain⟨v,L,h7,h8⟩:=hp _ _ _ _ h4;refine⟨_,_,Bo.sws sw (v:=v) (L:=L) ?_,h8⟩;have e1:Sh.Dw args 0 (d1++d2)=Sh.Dw args 0 d1:=Sh.RT args 0 0 _ _ fun j hj=>Jr (by omega);have e2:BX zr (Sh.HU args) 0 (d1++d2) ms=BX zr 0 0 d2 ms:=Jb zr _ 0 0 _ _ _ fun j hj=>by rw[MM (by omega),h2];congr 1;omega
 rw[e1,h3,e2]at h7;exact h7.mono h6
def Vu:List (Nat × (List V->Option V))->Dc
 | [],_=>none|(i,g)::l,f=>bif bw f i then some g else Vu l f
def Kc (X:Cx):List (Nat × (List V->Option V))->Prop
 | []=>True|p::l=>(∀xs v,p.2 xs=some v->NT X p.1 xs v)/\Kc X l
def uK {X}:∀{l:List (Nat × (List V->Option V))},Kc X l->IY X (Vu l)
 | [],_=>fun f g xs v h _=>by cases h
 |(i,g0)::l,h=>fun f g xs v hf hv=>by
  simp only[Vu]at hf;cases hb:bw f i with
  |true=>
   rw[hb,cond_true]at hf;cases hf;obtain rfl:=fj hb;exact h.1 xs v hv
  |false=>
   rw[hb,cond_false]at hf;exact uK h.2 f g xs v hf hv
def Kc.append {X}:∀{l m:List (Nat × (List V->Option V))},Kc X l->Kc X m->Kc X (l++m)
 | [],_,_,h=>h|_::_,_,h,h'=>⟨h.1,h.2.append h'⟩
end Go.E
