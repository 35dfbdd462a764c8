/-
 A framework for runs of Go code over abstract data: what it needs, and that it is sound, part 7.
 Conditions: none.
-/
import Derived.Test.YtoademomlabgnaaDoorEf
set_option linter.all false
namespace Go.E
open Go
def j8 (f:Nat→Nat):Key→Key
 | .l n=>.l (f n)
 | .g k=>.g k
def S.ren (s:S) (f g:Nat→Nat):S:=
 ⟨s.env.map fun p=>(p.1,p.2.ren (j8 f) g),s.loc.map fun p=>(j8 f p.1,p.2.ren (j8 f)),s.A,s.tk.map fun p=>(g p.1,p.2)⟩
def q00:List (Key × O)→List Nat
 | []=>[]
 |(.l n,_)::l=>n::q00 l
 |(.g _,_)::l=>q00 l
def q0X:List (Nat × Option Nat)→List Nat
 | []=>[]
 |(t,_)::l=>t::q0X l
def q8a (f:Nat→Nat) (l:List Nat):Bool:=l.all fun a=>l.all fun b=> !(Nat.beq (f a) (f b))||Nat.beq a b
theorem z8X {f:Nat→Nat} {l:List Nat} (h:q8a f l=true) {a b:Nat} (ha:a∈l) (hb:b∈l) (e:f a=f b):a=b:=by
 simp only[q8a,List.all_eq_true]at h
 have:=h a ha b hb
 rw[e,Nat.beq_refl]at this
 simpa[Nat.beq_eq]using this
theorem q3x:∀{l:List (Key × O)} {n:Nat},z6 l (.l n)≠none→n∈q00 l
 | [],_,h=>by simp[z6]at h
 |(.l m,o)::l,n,h=>by
  simp only[z6]at h
  simp only[q00,List.mem_cons]
  by_cases e:m=n
  ·exact .inl e.symm
  ·rw[if_neg (by intro e';cases e';exact e rfl)]at h
   exact .inr (q3x h)
 |(.g m,o)::l,n,h=>by
  simp only[z6]at h
  rw[if_neg (by intro e';cases e')]at h
  exact q3x (l:=l) h
theorem q9B {f:Nat→Nat}:∀{l:List (Key × O)} {k':Key} {o':O},z6 (l.map fun p=>(j8 f p.1,p.2.ren (j8 f))) k'=some o'→∃k o,j8 f k=k'∧z6 l k=some o∧o'=o.ren (j8 f)
 | [],_,_,h=>by simp[z6]at h
 |(j,p)::l,k',o',h=>by
  simp only[List.map_cons,z6]at h
  by_cases e:j8 f j=k'
  ·rw[if_pos e]at h
   cases h
   exact⟨j,p,e,by simp[z6],rfl⟩
  ·rw[if_neg e]at h
   obtain⟨k,o,h1,h2,h3⟩:=q9B h
   refine⟨k,o,h1,?_,h3⟩
   simp only[z6]
   rw[if_neg (fun e'=>e (by rw[e'];exact h1))]
   exact h2
theorem q2F {f:Nat→Nat}:∀{l:List (Key × O)} {k:Key},z6 (l.map fun p=>(j8 f p.1,p.2.ren (j8 f))) (.g k)=(z6 l (.g k)).map fun o=>o.ren (j8 f)
 | [],_=>rfl
 |(.l m,p)::l,k=>by
  simp only[List.map_cons,z6,j8]
  rw[if_neg (by intro e;cases e),if_neg (by intro e;cases e)]
  exact q2F
 |(.g m,p)::l,k=>by
  simp only[List.map_cons,z6,j8]
  by_cases e:Key.g m= .g k
  ·rw[if_pos e,if_pos e];rfl
  ·rw[if_neg e,if_neg e];exact q2F
theorem z6R {g:Nat→Nat}:∀{l:List (Nat × Option Nat)} {u:Nat} {x:Option Nat},look (l.map fun p=>(g p.1,p.2)) u=some x→∃t,g t=u∧look l t=some x∧t∈q0X l
 | [],_,_,h=>by simp[look]at h
 |(j,p)::l,u,x,h=>by
  simp only[List.map_cons,look]at h
  by_cases e:g j=u
  ·rw[if_pos e]at h
   cases h
   exact⟨j,e,by simp[look],by simp[q0X]⟩
  ·rw[if_neg e]at h
   obtain⟨t,h1,h2,h3⟩:=z6R h
   refine⟨t,h1,?_,by simp[q0X,h3]⟩
   simp only[look]
   rw[if_neg (fun e'=>e (by rw[e'];exact h1))]
   exact h2
theorem z4H {g:Nat→Nat}:∀{l:List (Nat × Option Nat)} {t:Nat},t∈q0X l→(look (l.map fun p=>(g p.1,p.2)) (g t)).isSome=true
 | [],_,h=>by simp[q0X]at h
 |(j,p)::l,t,h=>by
  simp only[q0X,List.mem_cons]at h
  simp only[List.map_cons,look]
  by_cases e:g j=g t
  ·rw[if_pos e];rfl
  ·rw[if_neg e]
   rcases h with h|h
   ·subst h;exact absurd rfl e
   ·exact z4H h
theorem z1Z:∀{l:List (Nat × Option Nat)} {t:Nat},(look l t).isSome=true→t∈q0X l
 | [],_,h=>by simp[look]at h
 |(j,p)::l,t,h=>by
  simp only[look]at h
  simp only[q0X,List.mem_cons]
  by_cases e:j=t
  ·exact .inl e.symm
  ·rw[if_neg e]at h;exact .inr (z1Z h)
theorem q5Z {f:V→V}:∀(l:List (Nat × V)) (i:Nat),look (l.map fun p=>(p.1,f p.2)) i=(look l i).map f
 | [],_=>rfl
 |(j,x)::l,i=>by
  simp only[List.map_cons,look]
  by_cases e:j=i
  ·rw[if_pos e,if_pos e];rfl
  ·rw[if_neg e,if_neg e];exact q5Z l i
theorem y4s (s:S) (f g:Nat→Nat) (i:Nat):(s.ren f g).get i=(s.get i).ren (j8 f) g:=by
 unfold S.get S.ren
 rw[q5Z]
 cases look s.env i <;> rfl
mutual
theorem V.q9o {f g:Nat→Nat}:∀(x:V),x.ok c8 c8=true→x.ren (j8 f) g=x
 | .sl _ _ _ t,h=>by simp[V.ok,c8]at h
 | .ptr (.l k) _ _,h| .mp (.l k),h| .sr (.l k) _ _ _ _ _ _,h=>by simp[V.ok,c8]at h
 | .agg _ vs,h| .fn _ vs,h| .tup vs,h=>by simp only[V.ok]at h;simp only[V.ren,V.z8M vs h]
 | .ptr (.g _) _ _,_| .mp (.g _),_| .sr (.g _) _ _ _ _ _ _,_| .d _ _,_| .ts _ _ _,_| .emp _ _,_| .nilc,_| .cptr _ _,_| .top _,_| .any,_=>by simp[V.ren,j8]
theorem V.z8M {f g:Nat→Nat}:∀(xs:List V),V.oks c8 c8 xs=true→V.q0C (j8 f) g xs=xs
 | [],_=>rfl
 |x::xs,h=>by
  simp only[V.oks,Bool.and_eq_true]at h
  simp only[V.q0C,V.q9o x h.1,V.z8M xs h.2]
end
theorem z4P {f:Nat→Nat}:∀{es:List (C × V)},V.q0p c8 c8 es=true→es.map (fun c=>(c.1,c.2.ren (j8 f) id))=es
 | [],_=>rfl
 |x::xs,h=>by
  simp only[V.q0p,Bool.and_eq_true]at h
  simp only[List.map_cons,V.q9o x.2 h.1,z4P h.2]
theorem O.q9o {f:Nat→Nat} {o:O} (h:o.ok c8 c8=true):o.ren (j8 f)=o:=by
 cases o with
 |box x=>simp only[O.ren];rw[V.q9o x h]
 |map kτ vτ es=>simp only[O.ren];rw[z4P h]
 |it=>rfl
 |dead=>rfl
def Tip.ren (f g:Nat→Nat):Tip→Tip
 | .tok t=>.tok (g t)
 | .home k p=>.home (j8 f k) p
def G.q11 (Γ:G) (s:S) (f g:Nat→Nat):G:=
 {Γ with
  ι:=fun k=>match k with
   | .g k=>Γ.ι (.g k)
   | .l m=>match(q00 s.loc).find? (fun n=>decide (f n=m))with
    |some n=>Γ.ι (.l n)
    |none=>none
  τ:=fun u=>match(q0X s.tk).find? (fun t=>decide (g t=u))with
   |some t=>Γ.τ t
   |none=>none
  κ:=fun b=>(Γ.κ b).map fun p=>(p.1.ren f g,p.2)}
theorem z7j {f:Nat→Nat} {l:List Nat} (h:q8a f l=true) {n:Nat} (hn:n∈l):l.find? (fun a=>decide (f a=f n))=some n:=by
 cases hf:l.find? (fun a=>decide (f a=f n))with
 |none=>
  have:=List.find?_eq_none.1 hf n hn
  simp at this
 |some a=>
  have h1:=List.find?_some hf
  have h2:=List.mem_of_find?_eq_some hf
  rw[z8X h h2 hn (by simpa using h1)]
theorem z9T {s:S} {n:Nat}:s.obj (.l n)=z6 s.loc (.l n):=by
 unfold S.obj c3
 cases z6 s.loc (.l n) <;> rfl
theorem y2g {X:Cx} {n:Nat} {s:S} (f g:Nat→Nat) (hf:q8a f (q00 s.loc)=true) (hg:q8a g (q0X s.tk)=true):q0g X n s (s.ren f g):=by
 rintro Γ0 a w ⟨Γ,g1,g3,c,hs,hn,hfr,hA⟩
 have lin:∀m x,Γ.ι (.l m)=some x→m∈q00 s.loc:=fun m x h=>q3x (by
  have:=c.dom (.l m) (by rw[h];simp)
  rwa [z9T]at this)
 have tin:∀t x,Γ.τ t=some x→t∈q0X s.tk:=fun t x h=>z1Z (c.tdom t (by rw[h];simp))
 have ιl:∀m,m∈q00 s.loc→(Γ.q11 s f g).ι (.l (f m))=Γ.ι (.l m):=fun m hm=>by
  simp only[G.q11,z7j hf hm]
 have ιnone:∀k,s.obj k≠none→Γ.ι k=none→(Γ.q11 s f g).ι (j8 f k)=none:=by
  intro k ho hn
  cases k with
  |g k=>exact hn
  |l m=>
   have hm:m∈q00 s.loc:=q3x (by rw[←z9T];exact ho)
   exact(ιl m hm).trans hn
 have ιk:∀k x,Γ.ι k=some x→(Γ.q11 s f g).ι (j8 f k)=some x:=by
  intro k x h
  cases k with
  |g k=>exact h
  |l m=>exact(ιl m (lin m x h)).trans h
 have τk:∀t x,Γ.τ t=some x→(Γ.q11 s f g).τ (g t)=some x:=by
  intro t x h
  simp only[G.q11,z7j hg (tin t x h)]
  exact h
 have back:∀k' x,(Γ.q11 s f g).ι k'=some x→∃k,j8 f k=k'∧Γ.ι k=some x:=by
  intro k' x h
  cases k' with
  |g k=>exact⟨.g k,rfl,h⟩
  |l m=>
   simp only[G.q11]at h
   split at h
   ·rename_i n' hfd
    exact⟨.l n',by simp only[j8];rw[show f n'=m by simpa using List.find?_some hfd],h⟩
   ·cases h
 have pr:∀hm,q3P Γ (Γ.q11 s f g) (j8 f) hm:=fun hm=>⟨Hp.le_refl _,ιk,fun _ _ h=>h,fun k b p sz _ hk=>⟨by simp[G.q11,hk,Tip.ren],rfl⟩⟩
 have domk:∀k x,Γ.ι k=some x→(s.ren f g).obj (j8 f k)≠none:=by
  intro k x h1
  cases k with
  |l m=>
   have hm:=lin m x h1
   show S.obj (s.ren f g) (.l (f m))≠none
   rw[z9T]
   intro hnone
   have key:∀{l:List (Key × O)},m∈q00 l→z6 (l.map fun p=>(j8 f p.1,p.2.ren (j8 f))) (.l (f m))≠none:=by
    intro l
    induction l with
    |nil=>intro h;simp[q00]at h
    |cons p l ih=>
     obtain⟨j,o⟩:=p
     intro h
     simp only[List.map_cons,z6]
     by_cases e:j8 f j= .l (f m)
     ·rw[if_pos e];simp
     ·rw[if_neg e]
      cases j with
      |g j=>exact ih (by simpa[q00]using h)
      |l j=>
       simp only[q00,List.mem_cons]at h
       rcases h with rfl|h
       ·exact absurd rfl e
       ·exact ih h
   exact key hm hnone
  |g k=>
   have h2:=c.dom (.g k) (by rw[h1];simp)
   show S.obj (s.ren f g) (.g k)≠none
   unfold S.obj c3 at h2 ⊢
   rw[show z6 (s.ren f g).loc (.g k)=_ from q2F]
   cases hl:z6 s.loc (.g k)with
   |none=>rw[hl]at h2;exact h2
   |some o=>simp
 have hdead:∀k x,Γ.ι k=some x→s.o6 k=true→(s.ren f g).o6 (j8 f k)=true:=by
  intro k x h1 hd
  cases ho':(s.ren f g).obj (j8 f k)with
  |none=>exact absurd ho' (domk k x h1)
  |some o1=>
   rw[j6 ho']
   cases hl:z6 (s.ren f g).loc (j8 f k)with
   |some o2=>
    have e:o2=o1:=by
     unfold S.obj c3 at ho';rw[hl]at ho';exact Option.some.inj ho'
    subst e
    obtain⟨k2,o,h2,h3,rfl⟩:=q9B hl
    have hk:k2=k:=by
     cases k with
     |g k=>cases k2 with
      |g k2=>simpa[j8]using h2
      |l m2=>simp[j8]at h2
     |l m=>cases k2 with
      |g k2=>simp[j8]at h2
      |l m2=>
       simp only[j8,Key.l.injEq]at h2
       rw[z8X hf (q3x (by rw[h3];simp)) (lin m x h1) h2]
    subst hk
    rw[O.q5o]
    rw[j6 (q4o h3)]at hd;exact hd
   |none=>
    cases k with
    |l m=>unfold S.obj c3 at ho';rw[show j8 f (.l m)= .l (f m) from rfl]at ho' hl;rw[hl]at ho';cases ho'
    |g k=>
     have h0:z6 s.loc (.g k)=none:=by
      have:=q2F (f:=f) (l:=s.loc) (k:=k)
      rw[show z6 (s.loc.map _) (.g k)=none from hl]at this
      cases hx:z6 s.loc (.g k)with
      |none=>rfl
      |some y=>rw[hx]at this;cases this
     have e1:(s.ren f g).obj (.g k)=s.A k:=by unfold S.obj c3;rw[show z6 (s.ren f g).loc (.g k)=none from hl];rfl
     have e2:s.obj (.g k)=s.A k:=by unfold S.obj c3;rw[h0]
     rw[j6 (e2.trans (e1.symm.trans ho'))]at hd;exact hd
 refine⟨Γ.q11 s f g,⟨g1.H,g1.Z,g1.ZH,g1.g,g1.gl,g1.oo,g1.σ,g1.gn⟩,g3,?_,fun i=>?_,hn,hfr,hA⟩
 ·refine⟨c.hH,c.hZ,fun b o sz h=>?_,fun k' o' h=>?_,fun k' h=>?_,fun k k' b τ τ' h1 h2=>?_,fun u L h=>?_,fun u h=>?_,c.hgl,c.hoo,c.hσ⟩
  ·cases hk:Γ.κ b with
   |none=>simp[G.q11,hk]at h
   |some p=>
    obtain⟨t,sz'⟩:=p
    simp[G.q11,hk]at h
    obtain⟨a1,a2,arr,T,a3,a4,a5⟩:=c.hκ b t sz' hk
    rw[←h.2,←h.1]
    exact⟨a1,a2,arr,T,a3,a4,by cases t with
     |tok=>trivial
     |home _ p=>cases p <;> exact a5⟩
  ·have own:∀k o,s.obj k=some o→((Γ.q11 s f g).ι (j8 f k)=none∧(o.ren (j8 f)).q6M)∨Own (Γ.q11 s f g) w (j8 f k) (o.ren (j8 f)):=fun k o ho=>
    (c.obj k o ho).imp (fun h=>⟨ιnone k (by rw[ho];simp) h.1,O.z1b h.2⟩) fun hown=>Own.ren (pr _) (fun hd b τ hb=>by
     obtain⟨e1,e2,_⟩:=c.X7 hb ho hd
     exact⟨rfl,e1,e2⟩) (Nat.le_refl _) hown
   unfold S.obj c3 at h
   cases hl:z6 (s.ren f g).loc k' with
   |some o1=>
    rw[hl]at h
    cases h
    obtain⟨k,o,h1,h2,rfl⟩:=q9B hl
    rw[←h1]
    exact own k o (q4o h2)
   |none=>
    rw[hl]at h
    cases k' with
    |l m=>cases h
    |g k=>
     have h':s.A k=some o':=h
     have h0:z6 s.loc (.g k)=none:=by
      have:=q2F (f:=f) (l:=s.loc) (k:=k)
      rw[show z6 (s.loc.map _) (.g k)=none from hl]at this
      cases hx:z6 s.loc (.g k)with
      |none=>rfl
      |some y=>rw[hx]at this;cases this
     have:=own (.g k) o' (by simp[S.obj,c3,h0,h'])
     rw[O.q9o (hA k o' h')]at this
     exact this
  ·obtain⟨x,hx⟩:=Option.ne_none_iff_exists'.1 h
   obtain⟨k,rfl,h1⟩:=back k' x hx
   exact domk k x h1
  ·obtain⟨k0,rfl,h3⟩:=back k _ h1
   obtain⟨k1,rfl,h4⟩:=back k' _ h2
   exact(c.inj _ _ _ _ _ h3 h4).imp (fun e=>by rw[e]) (And.imp (Or.imp (hdead _ _ h3) (hdead _ _ h4)) id)
  ·unfold S.live H7 at h
   cases hl:look (s.ren f g).tk u with
   |none=>simp[hl]at h
   |some x=>
    cases x with
    |none=>simp[hl]at h
    |some M=>
     simp[hl]at h
     subst h
     obtain⟨t,rfl,h2,h3⟩:=z6R hl
     obtain⟨x,a1,a2⟩:=c.tok t M (by simp[S.live,H7,h2])
     refine⟨x,τk t _ a1,fun b pos sz hx=>?_⟩
     obtain⟨a3,a4⟩:=a2 b pos sz hx
     exact⟨a3,by simp[G.q11,a4,Tip.ren]⟩
  ·obtain⟨x,hx⟩:=Option.ne_none_iff_exists'.1 h
   simp only[G.q11]at hx
   split at hx
   ·rename_i t hfd
    have e:g t=u:=by simpa using List.find?_some hfd
    rw[←e]
    exact z4H (List.mem_of_find?_eq_some hfd)
   ·cases hx
 ·rw[y4s]
  exact q9.ren (pr none) τk (hs i)
def dk (ds:List C) (i:Nat):C:=ds.getD i .nil
abbrev Es:=List (C × C)
def dm (ms:List Es) (i:Nat):Es:=ms.getD i []
inductive Cap where
 |c (τ:Ty)|v (x:V)
 deriving Inhabited
def q1I:List Cap→Nat
 | []=>0
 | .c _::l=>q1I l+1
 | .v _::l=>q1I l
def J6:List Cap→Nat→List C→List V
 | [],_,_=>[]
 | .c τ::l,i,ds=>.cptr τ (dk ds i)::J6 l (i+1) ds
 | .v x::l,i,ds=>x::J6 l i ds
inductive Sh where
 |d (τ:Ty)|sl (eb:Nat) (e:Ty) (t:Nat)|ts (eb:Nat) (e:Ty)
 |sr (k:Key) (q:List Nat) (cp:Bool) (eb:Nat) (e:Ty)
 |cptr (τ:Ty)|arr (e:Ty)|agg (τ:Ty) (l:List Sh)|as (v:V)
 |vec (k:Key) (eb:Nat) (e:Ty)|fnc (f:FuncId) (l:List Cap)
 deriving Inhabited
inductive OSh where
 |box (x:Sh)|map (kτ vτ:Ty)|dead (e:Ty)|it
 deriving Inhabited
structure SSh where
 env:List (Nat × Sh)
 loc:List (Key × OSh)
mutual
def Sh.many:Sh→Nat
 | .sr _ _ cp _ _=>bif cp then 3 else 2
 | .agg _ l=>Sh.q70 l
 | .as _=>0
 | .fnc _ l=>q1I l
 |_=>1
def Sh.q70:List Sh→Nat
 | []=>0
 |s::l=>s.many+Sh.q70 l
end
mutual
def Sh.fill:Sh→Nat→List C→V
 | .d τ,i,ds=>.d τ (dk ds i)
 | .sl eb e t,i,ds=>.sl eb e (dk ds i).elems t
 | .ts eb e,i,ds=>.ts eb e (dk ds i).elems
 | .sr k q cp eb e,i,ds=>.sr k q (dk ds i).toInt.toNat (dk ds (i+1)).toInt.toNat (bif cp then some (dk ds (i+2)).toInt.toNat else none) eb e
 | .cptr τ,i,ds=>.cptr τ (dk ds i)
 | .arr e,i,ds=>.d (.arr (dk ds i).elems.length e) (dk ds i)
 | .agg τ l,i,ds=>.agg τ (Sh.q2w l i ds)
 | .as v,_,_=>v
 | .vec k eb e,i,ds=>.sr k [] 0 (dk ds i).toInt.toNat none eb e
 | .fnc f l,i,ds=>.fn f (J6 l i ds)
def Sh.q2w:List Sh→Nat→List C→List V
 | [],_,_=>[]
 |s::l,i,ds=>s.fill i ds::Sh.q2w l (i+s.many) ds
end
mutual
def V.same:V→V→Bool
 | .emp a e,.emp b f=>decide (a=b)&&Ty.beq e f
 | .nilc,.nilc=>true
 | .ptr k q τ,.ptr k' q' τ'=>decide (k=k')&&decide (q=q')&&Ty.beq τ τ'
 | .mp k,.mp k'=>decide (k=k')
 | .any,.any=>true
 | .top τ,.top τ'=>Ty.beq τ τ'
 | .fn f l,.fn f' l'=>decide (f=f')&&V.q7P l l'
 | .tup l,.tup l'=>V.q7P l l'
 | .d τ c,.d τ' c'=>Ty.beq τ τ'&&C.beq c c'
 |_,_=>false
def V.q7P:List V→List V→Bool
 | [],[]=>true
 |x::xs,y::ys=>V.same x y&&V.q7P xs ys
 |_,_=>false
end
mutual
theorem V.z3s:∀(x y:V),V.same x y=true→x=y
 | .emp a e,y,h=>by cases y <;> simp only[V.same,Bool.and_eq_true,decide_eq_true_eq,Ty.beq_iff,reduceCtorEq]at h;obtain⟨rfl,rfl⟩:=h;rfl
 | .nilc,y,h=>by cases y <;> simp only[V.same,reduceCtorEq]at h;rfl
 | .ptr k q τ,y,h=>by cases y <;> simp only[V.same,Bool.and_eq_true,decide_eq_true_eq,Ty.beq_iff,reduceCtorEq]at h;obtain⟨⟨rfl,rfl⟩,rfl⟩:=h;rfl
 | .mp k,y,h=>by cases y <;> simp only[V.same,decide_eq_true_eq,reduceCtorEq]at h;subst h;rfl
 | .any,y,h=>by cases y <;> simp only[V.same,reduceCtorEq]at h;rfl
 | .top τ,y,h=>by cases y <;> simp only[V.same,Ty.beq_iff,reduceCtorEq]at h;subst h;rfl
 | .fn f l,y,h=>by
  cases y <;> simp only[V.same,Bool.and_eq_true,decide_eq_true_eq,reduceCtorEq]at h
  obtain⟨rfl,h⟩:=h
  rw[V.z1h l _ h]
 | .tup l,y,h=>by
  cases y <;> simp only[V.same,reduceCtorEq]at h
  rw[V.z1h l _ h]
 | .d τ c,y,h=>by cases y <;> simp only[V.same,Bool.and_eq_true,Ty.beq_iff,C.beq_iff,reduceCtorEq]at h;obtain⟨rfl,rfl⟩:=h;rfl
 | .sl _ _ _ _,y,h=>by cases y <;> simp[V.same]at h
 | .ts _ _ _,y,h=>by cases y <;> simp[V.same]at h
 | .cptr _ _,y,h=>by cases y <;> simp[V.same]at h
 | .sr _ _ _ _ _ _ _,y,h=>by cases y <;> simp[V.same]at h
 | .agg _ _,y,h=>by cases y <;> simp[V.same]at h
theorem V.z1h:∀(xs ys:List V),V.q7P xs ys=true→xs=ys
 | [],ys,h=>by cases ys <;> simp[V.q7P]at h;rfl
 |x::xs,ys,h=>by
  cases ys with
  |nil=>simp[V.q7P]at h
  |cons y ys=>
   simp only[V.q7P,Bool.and_eq_true]at h
   rw[V.z3s x y h.1,V.z1h xs ys h.2]
end
def y3p {R:Type} (τ:Ty) (x:V) (K:List C→Option R):Option R:=
 match x with
 | .nilc=>(match τ with
  | .slice _ _=>K [.slice []]
  |_=>none)
 |x=>(match s7 x with
  |some c=>if x.ty=τ then K [c]else none
  |none=>none)
def q2I {R:Type}:List Cap→List V→(List C→Option R)→Option R
 | [],[],K=>K []
 | .c τ::l,x::xs,K=>(match x with
  | .cptr τ' c=>if τ'=τ then q2I l xs fun ds=>K (c::ds)else none
  |_=>none)
 | .v y::l,x::xs,K=>if V.same x y=true then q2I l xs K else none
 |_,_,_=>none
theorem q4C:∀(l:List Cap) (i i':Nat) (ds ds':List C),(∀j,j<q1I l→dk ds (i+j)=dk ds' (i'+j))→J6 l i ds=J6 l i' ds'
 | [],_,_,_,_,_=>by simp only[J6]
 | .c τ::l,i,i',ds,ds',h=>by
  simp only[J6,q1I]at h ⊢
  have h0:=h 0 (by omega)
  simp only[Nat.add_zero]at h0
  rw[h0,q4C l (i+1) (i'+1) ds ds' fun j hj=>by
   have:=h (1+j) (by omega)
   rwa [←Nat.add_assoc,←Nat.add_assoc]at this]
 | .v x::l,i,i',ds,ds',h=>by
  simp only[J6,q1I]at h ⊢
  rw[q4C l i i' ds ds' h]
theorem q9X {R:Type} {r:R}:∀(l:List Cap) (xs:List V) {K:List C→Option R},q2I l xs K=some r→∃ds,K ds=some r∧ds.length=q1I l∧J6 l 0 ds=xs
 | [],[],K,h=>⟨[],by simpa only[q2I]using h,by simp[q1I],by simp[J6]⟩
 | [],_::_,K,h=>by simp[q2I]at h
 | .c _::_,[],K,h=>by simp[q2I]at h
 | .v _::_,[],K,h=>by simp[q2I]at h
 | .c τ::l,x::xs,K,h=>by
  simp only[q2I]at h
  split at h
  ·simp only[Option.ite_none_right_eq_some]at h
   obtain⟨rfl,h⟩:=h
   obtain⟨ds,h1,h2,h3⟩:=q9X l xs h
   refine⟨_,h1,by simp[q1I,h2],?_⟩
   rename_i c
   simp only[J6,Nat.zero_add]
   rw[q4C l 1 0 (c::ds) ds fun j _=>by unfold dk;simp[Nat.add_comm 1 j],h3]
   rfl
  ·cases h
 | .v y::l,x::xs,K,h=>by
  simp only[q2I,Option.ite_none_right_eq_some]at h
  obtain⟨h0,h⟩:=h
  have:=V.z3s _ _ h0
  subst this
  obtain⟨ds,h1,h2,h3⟩:=q9X l xs h
  exact⟨ds,h1,by simp only[q1I];exact h2,by simp only[J6];rw[h3]⟩
mutual
def Sh.coe {R:Type}:Sh→V→(List C→Option R)→Option R
 | .d τ,x,K=>y3p τ x K
 | .sl eb e t,x,K=>(match x with
  | .sl eb' e' cs t'=>if eb'=eb∧e'=e∧t'=t then K [.slice cs]else none
  |_=>none)
 | .ts eb e,x,K=>(match x with
  | .ts eb' e' cs=>if eb'=eb∧e'=e then K [.slice cs]else none
  |_=>none)
 | .sr k q cp eb e,x,K=>(match x with
  | .sr k' q' lo n cp' eb' e'=>if k'=k∧q'=q∧eb'=eb∧e'=e then(match cp,cp' with
   |false,none=>K [.int lo,.int n]
   |true,some c=>K [.int lo,.int n,.int c]
   |_,_=>none)else none
  |_=>none)
 | .cptr τ,x,K=>(match x with
  | .cptr τ' c=>if τ'=τ then K [c]else none
  |_=>none)
 | .arr e,x,K=>(match x with
  | .d (.arr n e') c=>if e'=e then(if n=c.elems.length then K [c]else none)else none
  |_=>none)
 | .agg τ l,x,K=>(match x with
  | .agg τ' vs=>if τ'=τ then Sh.z4c l vs K else none
  |_=>none)
 | .as v,x,K=>if V.same x v=true then K []else none
 | .vec k eb e,x,K=>(match x with
  | .sr k' q' lo n cp' eb' e'=>if k'=k∧q'=[]∧lo=0∧cp'.isNone=true∧eb'=eb∧e'=e then K [.int n]else none
  |_=>none)
 | .fnc f l,x,K=>(match x with
  | .fn f' vs=>if f'=f then q2I l vs K else none
  |_=>none)
def Sh.z4c {R:Type}:List Sh→List V→(List C→Option R)→Option R
 | [],[],K=>K []
 |s::l,x::xs,K=>if(match x with| .nilc=>true|_=>false)=false then s.coe x fun d1=>Sh.z4c l xs fun d2=>K (d1++d2)else none
 |_,_,_=>none
end
theorem q1H {a b:List C} {j:Nat} (h:j<a.length):dk (a++b) j=dk a j:=by
 unfold dk;rw[List.getD_eq_getElem?_getD,List.getD_eq_getElem?_getD,List.getElem?_append_left h]
theorem q3D {a b:List C} {j:Nat} (h:a.length≤j):dk (a++b) j=dk b (j-a.length):=by
 unfold dk;rw[List.getD_eq_getElem?_getD,List.getD_eq_getElem?_getD,List.getElem?_append_right h]
mutual
theorem Sh.q37:∀(s:Sh) (i i':Nat) (ds ds':List C),(∀j,j<s.many→dk ds (i+j)=dk ds' (i'+j))→s.fill i ds=s.fill i' ds'
 | .d τ,i,i',ds,ds',h=>by simp only[Sh.fill];have:=h 0 (by simp[Sh.many]);simp only[Nat.add_zero]at this;rw[this]
 | .sl eb e t,i,i',ds,ds',h=>by simp only[Sh.fill];have:=h 0 (by simp[Sh.many]);simp only[Nat.add_zero]at this;rw[this]
 | .ts eb e,i,i',ds,ds',h=>by simp only[Sh.fill];have:=h 0 (by simp[Sh.many]);simp only[Nat.add_zero]at this;rw[this]
 | .sr k q cp eb e,i,i',ds,ds',h=>by
  simp only[Sh.fill]
  have h0:=h 0 (by cases cp <;> simp[Sh.many])
  have h1:=h 1 (by cases cp <;> simp[Sh.many])
  simp only[Nat.add_zero]at h0
  rw[h0,h1]
  cases cp with
  |false=>rfl
  |true=>rw[h 2 (by simp[Sh.many])]
 | .cptr τ,i,i',ds,ds',h=>by simp only[Sh.fill];have:=h 0 (by simp[Sh.many]);simp only[Nat.add_zero]at this;rw[this]
 | .arr e,i,i',ds,ds',h=>by simp only[Sh.fill];have:=h 0 (by simp[Sh.many]);simp only[Nat.add_zero]at this;rw[this]
 | .agg τ l,i,i',ds,ds',h=>by simp only[Sh.fill];rw[Sh.q9O l i i' ds ds' (by simpa only[Sh.many]using h)]
 | .as v,_,_,_,_,_=>by simp only[Sh.fill]
 | .vec k eb e,i,i',ds,ds',h=>by simp only[Sh.fill];have:=h 0 (by simp[Sh.many]);simp only[Nat.add_zero]at this;rw[this]
 | .fnc f l,i,i',ds,ds',h=>by simp only[Sh.fill];rw[q4C l i i' ds ds' (by simpa only[Sh.many]using h)]
theorem Sh.q9O:∀(l:List Sh) (i i':Nat) (ds ds':List C),(∀j,j<Sh.q70 l→dk ds (i+j)=dk ds' (i'+j))→Sh.q2w l i ds=Sh.q2w l i' ds'
 | [],_,_,_,_,_=>by simp only[Sh.q2w]
 |s::l,i,i',ds,ds',h=>by
  simp only[Sh.q2w]
  simp only[Sh.q70]at h
  rw[Sh.q37 s i i' ds ds' (fun j hj=>h j (by omega)),Sh.q9O l (i+s.many) (i'+s.many) ds ds' (fun j hj=>by
   have:=h (s.many+j) (by omega)
   rwa [←Nat.add_assoc,←Nat.add_assoc]at this)]
end
theorem y4O {R:Type} {r:R} {τ:Ty} {x:V} {K:List C→Option R} (h:y3p τ x K=some r):∃c,K [c]=some r∧V.u2 x (.d τ c)∧(x≠.nilc→(V.d τ c).ty=x.ty):=by
 cases x <;> simp only[y3p]at h
 case nilc=>
  split at h
  ·exact⟨_,h,by simp[V.u2],fun h=>absurd rfl h⟩
  ·cases h
 all_goals
  split at h
  ·rename_i c hc
   simp only[Option.ite_none_right_eq_some]at h
   obtain⟨h1,h⟩:=h
   refine⟨c,h,?_,fun _=>h1.symm⟩
   simp only[V.u2]
   exact⟨hc,h1⟩
  ·cases h
mutual
theorem Sh.z7M {R:Type} {r:R}:∀(s:Sh) (x:V) {K:List C→Option R},s.coe x K=some r→∃ds,K ds=some r∧ds.length=s.many∧V.u2 x (s.fill 0 ds)∧(x≠.nilc→(s.fill 0 ds).ty=x.ty)
 | .d τ,x,K,h=>by
  simp only[Sh.coe]at h
  obtain⟨c,h1,h2,h3⟩:=y4O h
  exact⟨[c],h1,by simp[Sh.many],by simp only[Sh.fill];exact h2,by simp only[Sh.fill];exact h3⟩
 | .sl eb e t,x,K,h=>by
  cases x <;> simp only[Sh.coe,reduceCtorEq,Option.ite_none_right_eq_some]at h
  obtain⟨⟨rfl,rfl,rfl⟩,h⟩:=h
  exact⟨_,h,by simp[Sh.many],by simp[Sh.fill,dk,C.elems,V.u2],fun _=>rfl⟩
 | .ts eb e,x,K,h=>by
  cases x <;> simp only[Sh.coe,reduceCtorEq,Option.ite_none_right_eq_some]at h
  obtain⟨⟨rfl,rfl⟩,h⟩:=h
  exact⟨_,h,by simp[Sh.many],by simp[Sh.fill,dk,C.elems,V.u2],fun _=>rfl⟩
 | .sr k q cp eb e,x,K,h=>by
  cases x <;> simp only[Sh.coe,reduceCtorEq,Option.ite_none_right_eq_some]at h
  obtain⟨⟨rfl,rfl,rfl,rfl⟩,h⟩:=h
  split at h
  ·exact⟨_,h,by simp[Sh.many],by simp[Sh.fill,dk,C.toInt,V.u2],fun _=>rfl⟩
  ·exact⟨_,h,by simp[Sh.many],by simp[Sh.fill,dk,C.toInt,V.u2],fun _=>rfl⟩
  ·cases h
 | .cptr τ,x,K,h=>by
  cases x <;> simp only[Sh.coe,reduceCtorEq,Option.ite_none_right_eq_some]at h
  obtain⟨rfl,h⟩:=h
  exact⟨_,h,by simp[Sh.many],by simp[Sh.fill,dk,V.u2],fun _=>rfl⟩
 | .arr e,x,K,h=>by
  simp only[Sh.coe]at h
  split at h
  ·simp only[Option.ite_none_right_eq_some]at h
   obtain⟨rfl,h1,h⟩:=h
   subst h1
   exact⟨_,h,by simp[Sh.many],by simp[Sh.fill,dk,V.u2,s7,V.ty],fun _=>rfl⟩
  ·cases h
 | .agg τ l,x,K,h=>by
  cases x <;> simp only[Sh.coe,reduceCtorEq,Option.ite_none_right_eq_some]at h
  obtain⟨rfl,h⟩:=h
  obtain⟨ds,h1,h2,h3⟩:=Sh.z9k l _ h
  exact⟨ds,h1,by simpa only[Sh.many]using h2,by simp only[Sh.fill,V.u2];exact⟨trivial,h3⟩,fun _=>rfl⟩
 | .as v,x,K,h=>by
  simp only[Sh.coe,Option.ite_none_right_eq_some]at h
  obtain⟨h1,h⟩:=h
  have:=V.z3s _ _ h1
  subst this
  exact⟨_,h,by simp[Sh.many],by simp only[Sh.fill];exact V.q2c _,fun _=>by simp only[Sh.fill]⟩
 | .vec k eb e,x,K,h=>by
  cases x <;> simp only[Sh.coe,reduceCtorEq,Option.ite_none_right_eq_some]at h
  obtain⟨⟨rfl,rfl,rfl,hc,rfl,rfl⟩,h⟩:=h
  rename_i cp _ _
  cases cp with
  |some c=>cases hc
  |none=>exact⟨_,h,by simp[Sh.many],by simp[Sh.fill,dk,C.toInt,V.u2],fun _=>rfl⟩
 | .fnc f l,x,K,h=>by
  cases x <;> simp only[Sh.coe,reduceCtorEq,Option.ite_none_right_eq_some]at h
  obtain⟨rfl,h⟩:=h
  obtain⟨ds,h1,h2,h3⟩:=q9X l _ h
  exact⟨ds,h1,by simpa only[Sh.many]using h2,by simp only[Sh.fill,V.u2,h3],fun _=>rfl⟩
theorem Sh.z9k {R:Type} {r:R}:∀(l:List Sh) (xs:List V) {K:List C→Option R},Sh.z4c l xs K=some r→∃ds,K ds=some r∧ds.length=Sh.q70 l∧V.q01 xs (Sh.q2w l 0 ds)
 | [],xs,K,h=>by
  cases xs <;> simp only[Sh.z4c,reduceCtorEq]at h
  exact⟨_,h,by simp[Sh.q70],by simp[Sh.q2w,V.q01]⟩
 |s::l,[],K,h=>by simp[Sh.z4c]at h
 |s::l,x::xs,K,h=>by
  simp only[Sh.z4c,Option.ite_none_right_eq_some]at h
  obtain⟨hn,h⟩:=h
  obtain⟨d1,h1,h2,h3,h4⟩:=Sh.z7M s x h
  obtain⟨d2,h5,h6,h7⟩:=Sh.z9k l xs h1
  refine⟨_,h5,by simp[Sh.q70,h2,h6],?_⟩
  have e1:s.fill 0 (d1++d2)=s.fill 0 d1:=Sh.q37 s 0 0 _ _ fun j hj=>q1H (by omega)
  have e2:Sh.q2w l s.many (d1++d2)=Sh.q2w l 0 d2:=Sh.q9O l _ 0 _ _ fun j hj=>by
   rw[q3D (by omega),h2]
   congr 1;omega
  simp only[Sh.q2w,V.q01,Nat.zero_add,e1,e2]
  exact⟨h3,h4 (by intro e;subst e;simp at hn),h7⟩
end
def q1E:List (Nat × Sh)→Nat
 | []=>0
 |(_,s)::l=>s.many+q1E l
def J5:List (Nat × Sh)→Nat→List C→List (Nat × V)
 | [],_,_=>[]
 |(j,s)::l,i,ds=>(j,s.fill i ds)::J5 l (i+s.many) ds
def q1r:List (Nat × Sh)→Nat→List C→List (Nat × Option Nat)
 | [],_,_=>[]
 |(_,s)::l,i,ds=>(match s with
  | .sl _ _ t=>(t,some (dk ds i).elems.length)::q1r l (i+s.many) ds
  |_=>q1r l (i+s.many) ds)
def J2:List (Key × OSh)→Nat
 | []=>0
 |(_,.box s)::l=>s.many+J2 l
 |(_,.map _ _)::l=>J2 l
 |(_,.dead _)::l=>1+J2 l
 |(_,.it)::l=>2+J2 l
def dE (τ:Ty) (l:Es):List (C × V):=l.map fun p=>(p.1,.d τ p.2)
def isD (τ:Ty):V→Bool
 | .d τ' _=>decide (τ'=τ)
 |_=>false
def unV:V→C
 | .d _ c=>c
 |_=>.nil
def y0G (τ:Ty):List (C × V)→Bool
 | []=>true
 |(_,v)::es=>isD τ v&&y0G τ es
def unE (es:List (C × V)):Es:=es.map fun p=>(p.1,unV p.2)
theorem y1W {τ:Ty}:∀{es:List (C × V)},y0G τ es=true→dE τ (unE es)=es
 | [],_=>rfl
 |(k,v)::es,h=>by
  simp only[y0G,Bool.and_eq_true]at h
  have:=y1W h.2
  simp only[dE,unE,List.map_cons,List.map_map]at this ⊢
  rw[this]
  cases v <;> simp only[isD,reduceCtorEq,decide_eq_true_eq]at h <;> first|exact h.1.elim|(rw[h.1];rfl)
theorem z43 (τ:Ty):∀m:Es,q0f τ (dE τ m)=true
 | []=>rfl
 |_::m=>by
  have:=z43 τ m
  have h:Ty.beq τ τ=true:=(Ty.beq_iff τ τ).2 rfl
  simp only[dE,List.map_cons,q0f,h,Bool.true_and]at this ⊢
  exact this
def u6:List (Key × OSh)→Nat→Nat→List C→List Es→List (Key × O)
 | [],_,_,_,_=>[]
 |(k,.box s)::l,i,j,ds,ms=>(k,.box (s.fill i ds))::u6 l (i+s.many) j ds ms
 |(k,.map kτ vτ)::l,i,j,ds,ms=>(k,.map kτ vτ (dE vτ (dm ms j)))::u6 l i (j+1) ds ms
 |(k,.dead e)::l,i,j,ds,ms=>(k,.dead (.arr (dk ds i).toInt.toNat e))::u6 l (i+1) j ds ms
 |(k,.it)::l,i,j,ds,ms=>(k,.it (dk ds i).toStr (dk ds (i+1)).toInt.toNat)::u6 l (i+2) j ds ms
def q5w (sh:SSh) (A:Key→Option O) (ds:List C) (ms:List Es):S:=
 ⟨J5 sh.env 0 ds,u6 sh.loc (q1E sh.env) 0 ds ms,A,q1r sh.env 0 ds⟩
def y2n (s:S) (sh:Sh) (d:List C):Bool:=
 match sh with
 | .sl _ _ t=>(match H7 s.tk t with
  |some L=>Nat.beq L (dk d 0).elems.length
  |none=>false)
 |_=>true
def z2V {R:Type} (s:S):List (Nat × Sh)→(List C→Option R)→Option R
 | [],K=>K []
 |(j,sh)::l,K=>sh.coe (s.get j) fun d1=>if(sh.fill 0 d1).ty.isAgg=(s.get j).ty.isAgg then(bif y2n s sh d1 then z2V s l fun d2=>K (d1++d2)else none)else none
def y1s:V→Bool
 | .nilc=>true
 |_=>false
def q2G {R:Type} (s:S):List (Key × OSh)→(List C→List Es→Option R)→Option R
 | [],K=>K [] []
 |(k,.box sh)::l,K=>(match s.obj k with
  |some (.box x)=>if y1s x=false then sh.coe x fun d1=>if(sh.fill 0 d1).plain=true∧(sh.fill 0 d1).u0=true then q2G s l fun d2 m2=>K (d1++d2) m2 else none else none
  |_=>none)
 |(k,.map kτ vτ)::l,K=>(match s.obj k with
  |some (.map kτ' vτ' es)=>if kτ'=kτ∧vτ'=vτ then(if y0G vτ es=true then q2G s l fun d2 m2=>K d2 (unE es::m2)else none)else none
  |_=>none)
 |(k,.dead e)::l,K=>(match s.obj k with
  |some o=>(match o.ty with
   | .arr M e'=>if e'=e then q2G s l fun d2 m2=>K (.int M::d2) m2 else none
   |_=>none)
  |_=>none)
 |(k,.it)::l,K=>(match s.obj k with
  |some (.it x p)=>q2G s l fun d2 m2=>K (.str x:: .int p::d2) m2
  |_=>none)
def z0w (f g:Nat→Bool):List Cap→Bool
 | []=>true
 | .c _::l=>z0w f g l
 | .v x::l=>x.ok f g&&z0w f g l
theorem q8u {f g:Nat→Bool}:∀(l:List Cap) (i:Nat) (ds:List C),z0w f g l=true→V.oks f g (J6 l i ds)=true
 | [],_,_,_=>rfl
 | .c _::l,i,ds,h=>by
  simp only[z0w]at h
  simp only[J6,V.oks,V.ok,Bool.true_and]
  exact q8u l _ _ h
 | .v x::l,i,ds,h=>by
  simp only[z0w,Bool.and_eq_true]at h
  simp only[J6,V.oks,Bool.and_eq_true]
  exact⟨h.1,q8u l _ _ h.2⟩
mutual
def Sh.okB (f g:Nat→Bool):Sh→Bool
 | .sl _ _ t=>g t
 | .sr (.l k) _ _ _ _=>f k
 | .vec (.l k) _ _=>f k
 | .agg _ l=>Sh.z9Q f g l
 | .as v=>v.ok f g
 | .fnc _ l=>z0w f g l
 |_=>true
def Sh.z9Q (f g:Nat→Bool):List Sh→Bool
 | []=>true
 |s::l=>s.okB f g&&Sh.z9Q f g l
end
mutual
theorem Sh.z3Y {f g:Nat→Bool}:∀(s:Sh) (i:Nat) (ds:List C),s.okB f g=true→(s.fill i ds).ok f g=true
 | .sl _ _ t,_,_,h=>by simpa only[Sh.fill,V.ok,Sh.okB]using h
 | .sr (.l k) _ _ _ _,_,_,h=>by simpa only[Sh.fill,V.ok,Sh.okB]using h
 | .sr (.g k) _ _ _ _,_,_,h=>by simp only[Sh.fill,V.ok]
 | .vec (.l k) _ _,_,_,h=>by simpa only[Sh.fill,V.ok,Sh.okB]using h
 | .vec (.g k) _ _,_,_,h=>by simp only[Sh.fill,V.ok]
 | .agg _ l,_,_,h=>by simp only[Sh.fill,V.ok,Sh.okB]at h ⊢;exact Sh.z7k l _ _ h
 | .as v,_,_,h=>by simpa only[Sh.fill,Sh.okB]using h
 | .fnc _ l,i,ds,h=>by simp only[Sh.fill,V.ok,Sh.okB]at h ⊢;exact q8u l i ds h
 | .d _,_,_,_| .ts _ _,_,_,_| .cptr _,_,_,_| .arr _,_,_,_=>by simp only[Sh.fill,V.ok]
theorem Sh.z7k {f g:Nat→Bool}:∀(l:List Sh) (i:Nat) (ds:List C),Sh.z9Q f g l=true→V.oks f g (Sh.q2w l i ds)=true
 | [],_,_,_=>rfl
 |s::l,i,ds,h=>by
  simp only[Sh.z9Q,Bool.and_eq_true]at h
  simp only[Sh.q2w,V.oks,Bool.and_eq_true]
  exact⟨Sh.z3Y s _ _ h.1,Sh.z7k l _ _ h.2⟩
end
def OSh.okB (f g:Nat→Bool):OSh→Bool
 | .box s=>s.okB f g
 | .map _ _=>true
 | .dead _| .it=>true
def q6G:List (Key × OSh)→Key→Bool
 | [],_=>false
 |(j,_)::l,k=>if j=k then true else q6G l k
def z5D (l:List (Key × OSh)) (n:Nat):Bool:=q6G l (.l n)
def q8c:List (Nat × Sh)→Nat→Bool
 | [],_=>false
 |(_,.sl _ _ t)::l,u=>if t=u then true else q8c l u
 |_::l,u=>q8c l u
def z0x (L:List (Key × OSh)):List (Key × O)→Bool
 | []=>true
 |(.g k,_)::l=>q6G L (.g k)&&z0x L l
 |(.l _,_)::l=>z0x L l
def q7r (f g:Nat→Bool):List (Key × OSh)→Bool
 | []=>true
 |(_,o)::l=>o.okB f g&&q7r f g l
def z2T (f g:Nat→Bool):List (Nat × Sh)→Bool
 | []=>true
 |(_,s)::l=>s.okB f g&&z2T f g l
def okS (sh:SSh) (loc:List (Key × O)):Bool:=
 q7r (z5D sh.loc) (q8c sh.env) sh.loc&&z0x sh.loc loc&&z2T (z5D sh.loc) (q8c sh.env) sh.env
theorem q5v:∀(l:List (Key × OSh)) (i j:Nat) (ds:List C) (ms:List Es) (k:Key),(z6 (u6 l i j ds ms) k).isSome=q6G l k
 | [],_,_,_,_,_=>rfl
 |(n,.box s)::l,i,j,ds,ms,k=>by
  simp only[u6,z6,q6G]
  split
  ·rfl
  ·exact q5v l _ _ _ _ _
 |(n,.map _ _)::l,i,j,ds,ms,k|(n,.dead _)::l,i,j,ds,ms,k|(n,.it)::l,i,j,ds,ms,k=>by
  simp only[u6,z6,q6G]
  split
  ·rfl
  ·exact q5v l _ _ _ _ _
theorem y1B (l:List (Key × OSh)) (i j:Nat) (ds:List C) (ms:List Es):j9 (u6 l i j ds ms)=z5D l:=by
 funext n;exact q5v l i j ds ms (.l n)
theorem z4L:∀(l:List (Nat × Sh)) (i:Nat) (ds:List C),W0 (q1r l i ds)=q8c l
 | [],_,_=>rfl
 |(_,s)::l,i,ds=>by
  have ih:=z4L l (i+s.many) ds
  funext u
  have ih:=congrFun ih u
  unfold W0 at ih ⊢
  cases s <;> simp only[q1r,q8c,look] <;> (try exact ih)
  split
  ·rfl
  ·exact ih
theorem q6E {f g:Nat→Bool}:∀(l:List (Key × OSh)) (i j:Nat) (ds:List C) (ms:List Es),q7r f g l=true→q0z f g (u6 l i j ds ms)=true
 | [],_,_,_,_,_=>rfl
 |(n,.box s)::l,i,j,ds,ms,h=>by
  simp only[q7r,Bool.and_eq_true]at h
  simp only[u6,q0z,Bool.and_eq_true,O.okB,O.ok]
  exact⟨Sh.z3Y s _ _ h.1,q6E l _ _ _ _ h.2⟩
 |(n,.map _ vτ)::l,i,j,ds,ms,h=>by
  simp only[q7r,Bool.and_eq_true]at h
  simp only[u6,q0z,Bool.and_eq_true,O.okB,O.ok]
  exact⟨by rw[z43 vτ _,Bool.or_true],q6E l _ _ _ _ h.2⟩
 |(n,.dead _)::l,i,j,ds,ms,h|(n,.it)::l,i,j,ds,ms,h=>by
  simp only[q7r,Bool.and_eq_true]at h
  simp only[u6,q0z,Bool.and_eq_true,O.okB,O.ok]
  exact⟨trivial,q6E l _ _ _ _ h.2⟩
theorem z4Q {f g:Nat→Bool}:∀(l:List (Nat × Sh)) (i:Nat) (ds:List C),z2T f g l=true→q2J f g (J5 l i ds)=true
 | [],_,_,_=>rfl
 |(n,s)::l,i,ds,h=>by
  simp only[z2T,Bool.and_eq_true]at h
  simp only[J5,q2J,Bool.and_eq_true]
  exact⟨Sh.z3Y s _ _ h.1,z4Q l _ _ h.2⟩
theorem z1P {L:List (Key × OSh)} {i j:Nat} {ds:List C} {ms:List Es}:∀{l:List (Key × O)},z0x L l=true→q3N (u6 L i j ds ms) l=true
 | [],_=>rfl
 |(.g k,_)::l,h=>by
  simp only[z0x,Bool.and_eq_true]at h
  simp only[q3N,Bool.and_eq_true,q5v]
  exact⟨h.1,z1P h.2⟩
 |(.l _,_)::l,h=>by
  simp only[z0x]at h
  simp only[q3N]
  exact z1P h
def y0z {R:Type} (sh:SSh) (s:S) (K:List C→List Es→Option R):Option R:=
 z2V s sh.env fun d1=>q2G s sh.loc fun d2 ms=>if okS sh s.loc=true then K (d1++d2) ms else none
theorem q6W:∀(l:List (Nat × Sh)) (i i':Nat) (ds ds':List C),(∀j,j<q1E l→dk ds (i+j)=dk ds' (i'+j))→J5 l i ds=J5 l i' ds'
 | [],_,_,_,_,_=>rfl
 |(n,s)::l,i,i',ds,ds',h=>by
  simp only[q1E]at h
  simp only[J5]
  rw[Sh.q37 s i i' ds ds' (fun j hj=>h j (by omega)),q6W l (i+s.many) (i'+s.many) ds ds' (fun j hj=>by
   have:=h (s.many+j) (by omega)
   rwa [←Nat.add_assoc,←Nat.add_assoc]at this)]
theorem q9Q:∀(l:List (Nat × Sh)) (i i':Nat) (ds ds':List C),(∀j,j<q1E l→dk ds (i+j)=dk ds' (i'+j))→q1r l i ds=q1r l i' ds'
 | [],_,_,_,_,_=>rfl
 |(n,s)::l,i,i',ds,ds',h=>by
  simp only[q1E]at h
  simp only[q1r]
  have e:=q9Q l (i+s.many) (i'+s.many) ds ds' (fun j hj=>by
   have:=h (s.many+j) (by omega)
   rwa [←Nat.add_assoc,←Nat.add_assoc]at this)
  cases s <;> simp only at e ⊢ <;> (try exact e)
  have h0:=h 0 (by simp only[Sh.many];omega)
  simp only[Nat.add_zero]at h0
  rw[e,h0]
theorem q0j:∀(l:List (Key × OSh)) (i i' m:Nat) (ds ds':List C) (ms:List Es),(∀j,j<J2 l→dk ds (i+j)=dk ds' (i'+j))→u6 l i m ds ms=u6 l i' m ds' ms
 | [],_,_,_,_,_,_,_=>rfl
 |(n,.box s)::l,i,i',m,ds,ds',ms,h=>by
  simp only[J2]at h
  simp only[u6]
  rw[Sh.q37 s i i' ds ds' (fun j hj=>h j (by omega)),q0j l (i+s.many) (i'+s.many) m ds ds' ms (fun j hj=>by
   have:=h (s.many+j) (by omega)
   rwa [←Nat.add_assoc,←Nat.add_assoc]at this)]
 |(n,.map _ _)::l,i,i',m,ds,ds',ms,h=>by
  simp only[J2]at h
  simp only[u6]
  rw[q0j l i i' (m+1) ds ds' ms h]
 |(n,.dead e)::l,i,i',m,ds,ds',ms,h=>by
  simp only[J2]at h
  simp only[u6]
  have h0:=h 0 (by omega)
  simp only[Nat.add_zero]at h0
  rw[h0,q0j l (i+1) (i'+1) m ds ds' ms (fun j hj=>by
   have:=h (1+j) (by omega)
   rwa [←Nat.add_assoc,←Nat.add_assoc]at this)]
 |(n,.it)::l,i,i',m,ds,ds',ms,h=>by
  simp only[J2]at h
  simp only[u6]
  have h0:=h 0 (by omega)
  have h1:=h 1 (by omega)
  simp only[Nat.add_zero]at h0
  rw[h0,h1,q0j l (i+2) (i'+2) m ds ds' ms (fun j hj=>by
   have:=h (2+j) (by omega)
   rwa [←Nat.add_assoc,←Nat.add_assoc]at this)]
theorem q3w:∀(l:List (Key × OSh)) (i m:Nat) (ds:List C) (e:Es) (ms:List Es),u6 l i (m+1) ds (e::ms)=u6 l i m ds ms
 | [],_,_,_,_,_=>rfl
 |(n,.box s)::l,i,m,ds,e,ms=>by simp only[u6];rw[q3w l]
 |(n,.map _ _)::l,i,m,ds,e,ms=>by simp only[u6];rw[q3w l];rfl
 |(n,.dead _)::l,i,m,ds,e,ms|(n,.it)::l,i,m,ds,e,ms=>by simp only[u6];rw[q3w l]
theorem z4R {R:Type} {r:R} {s:S}:∀(l:List (Nat × Sh)) {K:List C→Option R},z2V s l K=some r→
  ∃ds,K ds=some r∧ds.length=q1E l∧(∀f g,q2J f g (J5 l 0 ds)=true→q5d f g s (J5 l 0 ds))∧tkW s (q1r l 0 ds)
 | [],K,h=>⟨[],h,rfl,fun _ _ _=>trivial,trivial⟩
 |(n,sh)::l,K,h=>by
  simp only[z2V]at h
  obtain⟨d1,h1,h2,h3,h4⟩:=Sh.z7M sh _ h
  simp only[Option.ite_none_right_eq_some]at h1
  obtain⟨h5,h1⟩:=h1
  cases htk:y2n s sh d1 with
  |false=>rw[htk]at h1;cases h1
  |true=>
   rw[htk,cond_true]at h1
   obtain⟨d2,h6,h7,h8,h9⟩:=z4R l h1
   have e1:sh.fill 0 (d1++d2)=sh.fill 0 d1:=Sh.q37 sh 0 0 _ _ fun j hj=>q1H (by omega)
   have sft:∀j,dk (d1++d2) (sh.many+j)=dk d2 (0+j):=fun j=>by
    rw[q3D (by omega),h2]
    congr 1;omega
   have e2:J5 l sh.many (d1++d2)=J5 l 0 d2:=q6W l _ 0 _ _ fun j hj=>sft j
   have e3:q1r l sh.many (d1++d2)=q1r l 0 d2:=q9Q l _ 0 _ _ fun j hj=>sft j
   refine⟨_,h6,by simp[q1E,h2,h7],fun f g hok=>?_,?_⟩
   ·simp only[J5,Nat.zero_add,e1,e2,q2J,Bool.and_eq_true]at hok ⊢
    exact⟨h3,hok.1,.inr h5,h8 f g hok.2⟩
   ·simp only[q1r,Nat.zero_add]
    cases sh <;> simp only[e3] <;> (try exact h9)
    simp only[y2n]at htk
    simp only[Sh.many]at h2
    rw[q1H (by omega)]
    refine⟨?_,h9⟩
    split at htk
    ·rename_i L hL
     have:=Nat.eq_of_beq_eq_true htk
     show s.live _=some _
     rw[←this];exact hL
    ·cases htk
theorem y0X {s:S} {A':Key→Option O}:∀{l:List (Nat × Option Nat)},tkW s l→tkW (s.wA A') l
 | [],_=>trivial
 |(_,_)::_,h=>⟨h.1,y0X h.2⟩
theorem z89 {f g:Nat→Bool} {s:S} {A':Key→Option O}:∀{l:List (Nat × V)},q5d f g s l→q5d f g (s.wA A') l
 | [],_=>trivial
 |(_,_)::_,h=>⟨h.1,h.2.1,h.2.2.1,z89 h.2.2.2⟩
theorem y4M {R:Type} {r:R} {sh:SSh} {s:S} {K:List C→List Es→Option R} (h:y0z sh s K=some r):
  ∃ds ms,K ds ms=some r∧∀(X:Cx) (n:Nat) (A':Key→Option O),leA s.A A'→q0g X n (s.wA A') ((q5w sh s.A ds ms).wA A'):=by
 unfold y0z at h
 obtain⟨d1,h1,h2,h3,h4⟩:=z4R _ h
 have det:∃d2 ms,K (d1++d2) ms=some r∧okS sh s.loc=true∧d2.length=J2 sh.loc∧∀A',leA s.A A'→q2A (s.wA A') (u6 sh.loc 0 0 d2 ms):=by
  -- what is read does not lean on A'
  have gen:∀(l:List (Key × OSh)) {K:List C→List Es→Option R},q2G s l K=some r→∃ds ms,K ds ms=some r∧ds.length=J2 l∧∀A',leA s.A A'→q2A (s.wA A') (u6 l 0 0 ds ms):=by
   intro l
   induction l with
   |nil=>intro K h;exact⟨[],[],h,rfl,fun _ _=>trivial⟩
   |cons p l ih=>
    obtain⟨k,o⟩:=p
    intro K h
    cases o with
    |box sh=>
     simp only[q2G]at h
     split at h
     ·rename_i x hx
      simp only[Option.ite_none_right_eq_some]at h
      obtain⟨h0,h⟩:=h
      obtain⟨d1,h1,h2,h3,h4⟩:=Sh.z7M sh _ h
      simp only[Option.ite_none_right_eq_some]at h1
      obtain⟨h5,h1⟩:=h1
      obtain⟨d2,ms,h6,h7,h8⟩:=ih h1
      have e1:sh.fill 0 (d1++d2)=sh.fill 0 d1:=Sh.q37 sh 0 0 _ _ fun j hj=>q1H (by omega)
      have e2:u6 l sh.many 0 (d1++d2) ms=u6 l 0 0 d2 ms:=q0j l _ 0 0 _ _ _ fun j hj=>by
       rw[q3D (by omega),h2]
       congr 1;omega
      refine⟨_,_,h6,by simp[J2,h2,h7],fun A' hA=>?_⟩
      simp only[u6,Nat.zero_add,e1,e2,q2A]
      rw[Q7 hA hx]
      exact⟨⟨h3,h4 (by intro e;subst e;simp[y1s]at h0),h5.1,h5.2⟩,h8 A' hA⟩
     ·cases h
    |map kτ vτ=>
     simp only[q2G]at h
     split at h
     ·rename_i kτ' vτ' es hx
      simp only[Option.ite_none_right_eq_some]at h
      obtain⟨⟨rfl,rfl⟩,hd,h⟩:=h
      obtain⟨d2,ms,h6,h7,h8⟩:=ih h
      refine⟨_,_,h6,by simp[J2,h7],fun A' hA=>?_⟩
      simp only[u6,q2A,q3w]
      rw[Q7 hA hx]
      exact⟨⟨rfl,rfl,(y1W hd).symm⟩,h8 A' hA⟩
     ·cases h
    |dead e=>
     simp only[q2G]at h
     split at h
     ·rename_i o hx
      split at h
      ·rename_i M e' ht
       simp only[Option.ite_none_right_eq_some]at h
       obtain⟨rfl,h⟩:=h
       obtain⟨d2,ms,h6,h7,h8⟩:=ih h
       have e2:u6 l 1 0 (.int M::d2) ms=u6 l 0 0 d2 ms:=q0j l _ 0 0 _ _ _ fun j hj=>by
        unfold dk;simp[Nat.add_comm 1 j]
       refine⟨_,_,h6,by simp[J2,h7,Nat.add_comm],fun A' hA=>?_⟩
       simp only[u6,Nat.zero_add,e2,q2A]
       rw[Q7 hA hx]
       refine⟨?_,h8 A' hA⟩
       have:(dk (C.int M::d2) 0).toInt.toNat=M:=by simp[dk,C.toInt]
       rw[this]
       cases o <;> exact ht.symm
      ·cases h
     ·cases h
    |it=>
     simp only[q2G]at h
     split at h
     ·rename_i x p hx
      obtain⟨d2,ms,h6,h7,h8⟩:=ih h
      have e2:u6 l 2 0 (.str x:: .int p::d2) ms=u6 l 0 0 d2 ms:=q0j l _ 0 0 _ _ _ fun j hj=>by
       unfold dk;simp[Nat.add_comm 2 j]
      refine⟨_,_,h6,by simp[J2,h7];omega,fun A' hA=>?_⟩
      simp only[u6,Nat.zero_add,e2,q2A]
      rw[Q7 hA hx]
      refine⟨?_,h8 A' hA⟩
      have e3:(dk (C.str x::C.int p::d2) 0).toStr=x:=by simp[dk,C.toStr]
      have e4:(dk (C.str x::C.int p::d2) 1).toInt.toNat=p:=by simp[dk,C.toInt]
      rw[e3,e4]
      exact⟨rfl,rfl⟩
     ·cases h
  obtain⟨d2,ms,h5,h6,h7⟩:=gen _ h1
  simp only[Option.ite_none_right_eq_some]at h5
  exact⟨d2,ms,h5.2,h5.1,h6,h7⟩
 obtain⟨d2,ms,h5,h6,h7,h8⟩:=det
 refine⟨d1++d2,ms,h5,fun X n A' hA=>?_⟩
 have e1:J5 sh.env 0 (d1++d2)=J5 sh.env 0 d1:=q6W _ 0 0 _ _ fun j hj=>q1H (by omega)
 have e2:q1r sh.env 0 (d1++d2)=q1r sh.env 0 d1:=q9Q _ 0 0 _ _ fun j hj=>q1H (by omega)
 have e3:u6 sh.loc (q1E sh.env) 0 (d1++d2) ms=u6 sh.loc 0 0 d2 ms:=q0j _ _ 0 0 _ _ _ fun j hj=>by
  rw[q3D (by omega),h2]
  congr 1;omega
 simp only[okS,Bool.and_eq_true]at h6
 have hL:j9 (q5w sh s.A (d1++d2) ms).loc=z5D sh.loc:=y1B ..
 have hT:W0 (q5w sh s.A (d1++d2) ms).tk=q8c sh.env:=z4L ..
 refine z8A rfl ?_ ?_ (q4f (z1P h6.1.2)) ?_ ?_
 ·show q2A (s.wA A') (u6 sh.loc (q1E sh.env) 0 (d1++d2) ms)
  rw[e3];exact h8 A' hA
 ·show q0z (j9 (q5w sh s.A (d1++d2) ms).loc) (W0 (q5w sh s.A (d1++d2) ms).tk) _=true
  rw[hL,hT]
  exact q6E _ _ _ _ _ h6.1.1
 ·show tkW (s.wA A') (q1r sh.env 0 (d1++d2))
  rw[e2];exact y0X h4
 ·show q5d (j9 (q5w sh s.A (d1++d2) ms).loc) (W0 (q5w sh s.A (d1++d2) ms).tk) (s.wA A') (J5 sh.env 0 (d1++d2))
  refine z89 ?_
  rw[hL,hT,e1]
  exact h3 _ _ (z4Q _ _ _ h6.2)
theorem z8.z9F {Γ:G} {w:World} {s:S} (c:z8 Γ w s) {k:Key} {x x':V} (h:s.obj k=some (.box x)) (h1:Own Γ w k (.box x)→Own Γ w k (.box x')) (h2:(O.box x).q6M→(O.box x').q6M):z8 Γ w (s.put k (.box x')):=by
 refine⟨c.hH,c.hZ,c.hκ,fun j o hj=>?_,fun j hj=>?_,c.q5a (fun j hj=>?_),c.tok,c.tdom,c.hgl,c.hoo,c.hσ⟩
 ·rw[b8]at hj
  split at hj
  ·rename_i e
   subst e;cases hj
   exact(c.obj _ _ h).imp (fun h=>⟨h.1,h2 h.2⟩) h1
  ·exact c.obj j o hj
 ·rw[b8]
  split
  ·simp
  ·exact c.dom j hj
 ·unfold S.o6 at hj ⊢
  rw[b8]
  split
  ·rename_i e;subst e;rw[h]at hj;cases hj
  ·exact hj
def mvK (K:Key) (t:Nat) (k:Key):Key:=if k=K then .l t else k
def AtE (X:Cx) (n:Nat) (Γ0:G) (K:Key) (t:Nat) (s:S) (a:Act) (w:World):Prop:=
 ∃Γ,GLe Γ0 Γ∧Γ.gl=X.gl∧z8 Γ w s∧q1u Γ s a.tmps∧a.tmps.size=n∧a.defers=[]∧AOk s.A∧∀x,Γ.ι K=some x→Γ.ι (.l t)=some x
theorem z6O {Γ:G} {K:Key} {t:Nat} (h:∀x,Γ.ι K=some x→Γ.ι (.l t)=some x) {hm:Option Key} (hn:hm≠some K):q3P Γ Γ (mvK K t) hm:=
 ⟨Hp.le_refl _,fun k x hk=>by
  unfold mvK
  split
  ·rename_i e;subst e;exact h x hk
  ·exact hk,fun _ _ h=>h,fun k b p sz e hk=>by
  have:mvK K t k=k:=by
   unfold mvK
   split
   ·rename_i e2;subst e2;exact absurd e hn
   ·rfl
  rw[this];exact⟨hk,rfl⟩⟩
theorem q9.mv {Γ:G} {K:Key} {t:Nat} (h:∀x,Γ.ι K=some x→Γ.ι (.l t)=some x) {x:V} {v:Value} (hr:q9 Γ x v):q9 Γ (x.ren (mvK K t) id) v:=
 q9.ren (z6O h (by simp)) (fun _ _ h=>h) hr
def q1v (K:Key) (t:Nat):List Key→S→S
 | [],s=>s
 |k::ks,s=>if k=K∨k= .l t then q1v K t ks s else(match s.obj k with
  |some (.box x)=>q1v K t ks (s.put k (.box (x.ren (mvK K t) id)))
  |_=>q1v K t ks s)
theorem q7S (K:Key) (t:Nat):∀(ks:List Key) (s:S),(q1v K t ks s).A=s.A
 | [],_=>rfl
 |k::ks,s=>by
  simp only[q1v]
  split
  ·exact q7S K t ks s
  ·split
   ·exact q7S K t ks _
   ·exact q7S K t ks s
def WkE (K:Key) (t:Nat) (s s':S):Prop:=s'.A=s.A∧∀(X:Cx) (n:Nat) (A':Key→Option O),leA s.A A'→∀(Γ0:G) (a:Act) (w:World),AtE X n Γ0 K t (s.wA A') a w→AtE X n Γ0 K t (s'.wA A') a w
theorem WkE.refl {K:Key} {t:Nat} (s:S):WkE K t s s:=⟨rfl,fun _ _ _ _ _ _ _ h=>h⟩
theorem WkE.trans {K:Key} {t:Nat} {a b c:S} (h:WkE K t a b) (h':WkE K t b c):WkE K t a c:=
 ⟨h'.1.trans h.1,fun X n A' hA Γ0 ac w hat=>h'.2 X n A' (by rw[h.1];exact hA) Γ0 ac w (h.2 X n A' hA Γ0 ac w hat)⟩
theorem y3u {X:Cx} {n:Nat} {Γ0:G} {K:Key} {t:Nat} {a:Act} {w:World} {s:S} {k:Key} {x:V} (hk:¬(k=K∨k= .l t)) (hx:s.obj k=some (.box x)) (h:AtE X n Γ0 K t s a w):AtE X n Γ0 K t (s.put k (.box (x.ren (mvK K t) id))) a w:=by
 obtain⟨Γ,g1,g3,c,hs,hn,hf,hA,hι⟩:=h
 have hkK:(some k:Option Key)≠some K:=fun e=>hk (.inl (by cases e;rfl))
 refine⟨Γ,g1,g3,c.z9F hx (fun hown=>?_) (fun hv=>?_),hs,hn,hf,hA,hι⟩
 ·obtain⟨b,cells,T,h1,h2,h3,h4,h5,h6,h7,h8⟩:=hown
  have hmv:mvK K t k=k:=by unfold mvK;rw[if_neg (fun e=>hk (.inl e))]
  have:=q8.j8 (θ:=id) (z6O hι hkK) h8 h6
  simp only[Option.map_some,hmv]at this
  exact⟨b,cells,T,by rw[V.q10];exact h1,h2,h3,h4,by rw[V.q10];exact h5,by rw[V.q10];exact this,by rw[V.q9n];exact h7,by rw[V.q7T];exact h8⟩
 ·obtain⟨e,rfl⟩:=hv
  exact⟨e,by simp[V.ren]⟩
theorem q6n (K:Key) (t:Nat):∀(ks:List Key) (s:S),WkE K t s (q1v K t ks s)
 | [],s=>WkE.refl s
 |k::ks,s=>by
  simp only[q1v]
  split
  ·exact q6n K t ks s
  ·rename_i hk
   split
   ·rename_i x hx
    exact WkE.trans (b:=s.put k (.box (x.ren (mvK K t) id))) ⟨rfl,fun X n A' hA Γ0 a w h=>y3u (s:=s.wA A') hk (Q7 hA hx) h⟩ (q6n K t ks _)
   ·exact q6n K t ks s
def q93 (K:Key) (t:Nat) (ks:List Key) (s:S):S:=
 match s.obj K with
 |some (.box (.d (.arr M e) cc))=>if(s.obj (.l t)).isNone=true then
   {q1v K t ks ((s.put K (.dead (.arr M e))).put (.l t) (.box (.d (.arr M e) cc)))with env:=s.env.map fun p=>(p.1,p.2.ren (mvK K t) id)} else s
 |_=>s
theorem y3z {X:Cx} {n:Nat} {Γ0:G} {K:Key} {t:Nat} {a:Act} {w:World} {s:S} {M:Nat} {e:Ty} {cc:C} (hK:s.obj K=some (.box (.d (.arr M e) cc))) (ht:s.obj (.l t)=none) (h:At X n Γ0 s a w):
  AtE X n Γ0 K t ((s.put K (.dead (.arr M e))).put (.l t) (.box (.d (.arr M e) cc))) a w:=by
 obtain⟨Γ,g1,g3,c,hs,hn,hf,hA⟩:=h
 have hobj:∀j,S.obj ((s.put K (.dead (.arr M e))).put (.l t) (.box (.d (.arr M e) cc))) j=S.obj {s with loc:=(Key.l t,O.box (.d (.arr M e) cc))::(K,O.dead (.arr M e))::s.loc} j:=fun j=>by
  rw[b8,b8,show S.obj {s with loc:=(Key.l t,O.box (.d (.arr M e) cc))::(K,O.dead (.arr M e))::s.loc} j=S.obj {({s with loc:=(K,O.dead (.arr M e))::s.loc}:S)with loc:=(Key.l t,O.box (.d (.arr M e) cc))::({s with loc:=(K,O.dead (.arr M e))::s.loc}:S).loc} j from rfl,u3,u3]
 rcases c.obj K _ hK with⟨h1,h2⟩|hown
 · -- without a block
  refine⟨Γ,g1,g3,⟨c.hH,c.hZ,c.hκ,fun j o hj=>?_,fun j hj=>?_,c.q5a (fun j hj=>?_),c.tok,c.tdom,c.hgl,c.hoo,c.hσ⟩,hs,hn,hf,hA,fun x hx=>by rw[h1]at hx;cases hx⟩
  ·rw[b8]at hj
   split at hj
   ·rename_i e1;subst e1;cases hj
    exact .inl ⟨c.q61 ht,h2⟩
   ·rw[b8]at hj
    split at hj
    ·rename_i e1;subst e1;cases hj;exact .inl ⟨h1,trivial⟩
    ·exact c.obj j o hj
  ·rw[b8]
   split
   ·simp
   ·rw[b8]
    split
    ·simp
    ·exact c.dom j hj
  ·unfold S.o6 at hj ⊢
   rw[b8]
   split
   ·rename_i e1;subst e1;rw[ht]at hj;cases hj
   ·rw[b8]
    split
    ·rfl
    ·exact hj
 ·obtain⟨b,cells,T,e1,e2,e3,e4,e5,e6,e7,e8⟩:=hown
  have hx0:q8 Γ none [] (.d (.arr M e) cc) (chunk cells.toList 0 (V.d (.arr M e) cc).ty.size):=by
   simp only[q8]at e6 ⊢;exact e6
  obtain⟨k1,k2,k3⟩:=c.y07 (w':=w) (j:=.l t) (x':=.d (.arr M e) cc) hK rfl e1 ht e4 (fun _ _=>rfl) rfl rfl e5 hx0 e7 e8 (fun arr T' fr h=>by rw[e4]at h;cases h;rfl)
  have hkt:K≠.l t:=fun e=>by rw[e,ht]at hK;cases hK
  refine⟨_,g1.trans k3,by rw[k3.gl];exact g3,k1.congr hobj (fun _=>rfl) (fun _ h=>h),hs.o8 k2,hn,hf,hA,fun x hx=>?_⟩
  have:Γ.ι K=some x:=by simpa[G.s9,q0a,hkt]using hx
  rw[e1]at this;cases this
  simp[G.s9,q0a,V.ty]
theorem y18 (K:Key) (t:Nat) (ks:List Key) (s:S):(q93 K t ks s).A=s.A∧∀(X:Cx) (n:Nat) (A':Key→Option O),leA s.A A'→q0g X n (s.wA A') ((q93 K t ks s).wA A'):=by
 unfold q93
 split
 ·rename_i M e cc hK
  split
  ·rename_i ht
   have ht':s.obj (.l t)=none:=by simpa using ht
   refine⟨q7S K t ks _,fun X n A' hA Γ0 a w hat=>?_⟩
   have h1:=y3z (s:=s.wA A') (Q7 hA hK) (by rw[q16];exact ht') hat
   obtain⟨_,h2⟩:=q6n K t ks ((s.put K (.dead (.arr M e))).put (.l t) (.box (.d (.arr M e) cc)))
   obtain⟨Γ,g1,g3,c,hs,hn,hf,hAok,hι⟩:=h2 X n A' hA Γ0 a w h1
   refine⟨Γ,g1,g3,c.congr (fun _=>rfl) (fun _=>rfl) (fun _ h=>h),fun i=>?_,hn,hf,hAok⟩
   have henv:((q1v K t ks ((s.put K (.dead (.arr M e))).put (.l t) (.box (.d (.arr M e) cc)))).wA A').env=s.env:=by
    have:∀(ks:List Key) (s:S),(q1v K t ks s).env=s.env:=by
     intro ks
     induction ks with
     |nil=>intro s;rfl
     |cons k ks ih=>
      intro s
      simp only[q1v]
      split
      ·exact ih s
      ·split
       ·exact ih _
       ·exact ih s
    exact this ks _
   have hi:=hs i
   have e1:S.get ((q1v K t ks ((s.put K (.dead (.arr M e))).put (.l t) (.box (.d (.arr M e) cc)))).wA A') i=(look s.env i).getD .any:=by
    unfold S.get;rw[henv]
   rw[e1]at hi
   show q9 Γ ((look (s.env.map fun p=>(p.1,p.2.ren (mvK K t) id)) i).getD .any) _
   rw[q5Z]
   cases hl:look s.env i with
   |none=>trivial
   |some x=>
    rw[hl]at hi
    exact q9.mv hι hi
  ·exact⟨rfl,fun _ _ _ _=>q0g.refl _⟩
 ·exact⟨rfl,fun _ _ _ _=>q0g.refl _⟩
def T0:Nat:=1000000000000000
mutual
def V.U9:Sh→V→V
 | .vec (.l a) eb e,x=>(match x with
  | .emp eb' e'=>if eb'=eb∧e'=e then .sr (.l (a+T0)) [] 0 0 none eb e else x
  |x=>x)
 | .agg _ l,x=>(match x with
  | .agg τ xs=>.agg τ (V.q0J l xs)
  |x=>x)
 |_,x=>x
def V.q0J:List Sh→List V→List V
 |s::l,x::xs=>V.U9 s x::V.q0J l xs
 |_,xs=>xs
end
theorem V.q85:∀(l:List Sh) (xs:List V),(V.q0J l xs).length=xs.length
 | [],xs=>by simp[V.q0J]
 |s::l,[]=>by simp[V.q0J]
 |s::l,x::xs=>by simp[V.q0J,V.q85 l xs]
theorem V.q63 (s:Sh) (x:V):(V.U9 s x).ty=x.ty:=by
 unfold V.U9
 split
 ·split
  ·split
   ·rename_i h;obtain⟨rfl,rfl⟩:=h;rfl
   ·rfl
  ·rfl
 ·split <;> rfl
 ·rfl
theorem V.z1W (s:Sh) (x:V):(V.U9 s x).plain=x.plain:=by
 unfold V.U9
 split
 ·split
  ·split
   ·rfl
   ·rfl
  ·rfl
 ·split <;> rfl
 ·rfl
mutual
theorem V.z4l:∀(s:Sh) (x:V),(V.U9 s x).u0=x.u0
 | .vec (.l a) eb e,x=>by
  simp only[V.U9]
  split
  ·split <;> simp[V.u0]
  ·rfl
 | .agg _ l,x=>by
  simp only[V.U9]
  split
  ·simp only[V.u0];exact V.z1V l _
  ·rfl
 | .vec (.g _) _ _,_| .d _,_| .sl _ _ _,_| .ts _ _,_| .sr _ _ _ _ _,_| .cptr _,_| .arr _,_| .as _,_| .fnc _ _,_=>by simp[V.U9]
theorem V.z1V:∀(l:List Sh) (xs:List V),V.c6 (V.q0J l xs)=V.c6 xs
 | [],xs=>by simp[V.q0J]
 |s::l,[]=>by simp[V.q0J]
 |s::l,x::xs=>by simp only[V.q0J,V.c6,V.z4l s x,V.z1V l xs]
end
mutual
theorem q8.U9 {Γ:G} {hm:Option Key}:∀(s:Sh) (x:V) {p:List Nat} {vs:List Value},q8 Γ hm p x vs→q8 Γ hm p (V.U9 s x) vs
 | .vec (.l a) eb e,x,p,vs,h=>by
  simp only[V.U9]
  split
  ·split
   ·simp only[q8]at h ⊢
    obtain⟨a,h⟩:=h
    exact .inl ⟨trivial,trivial,a,h⟩
   ·exact h
  ·exact h
 | .agg _ l,x,p,vs,h=>by
  simp only[V.U9]
  split
  ·simp only[q8]at h ⊢
   exact⟨h.1,h.2.1,by rw[V.q85];exact h.2.2.1,h.2.2.2.1,y4.q0J l _ h.2.2.2.2⟩
  ·exact h
 | .vec (.g _) _ _,_,_,_,h| .d _,_,_,_,h| .sl _ _ _,_,_,_,h| .ts _ _,_,_,_,h| .sr _ _ _ _ _,_,_,_,h| .cptr _,_,_,_,h| .arr _,_,_,_,h| .as _,_,_,_,h| .fnc _ _,_,_,_,h=>by simpa only[V.U9]using h
theorem y4.q0J {Γ:G} {hm:Option Key}:∀(l:List Sh) (xs:List V) {p:List Nat} {i:Nat} {τ:Ty} {vs:List Value},y4 Γ hm p i τ xs vs→y4 Γ hm p i τ (V.q0J l xs) vs
 | [],xs,_,_,_,_,h=>by simpa only[V.q0J]using h
 |s::l,[],_,_,_,_,h=>by simpa only[V.q0J]using h
 |s::l,x::xs,_,_,_,_,h=>by
  simp only[y4,V.q0J,V.q63]at h ⊢
  obtain⟨⟨o,f,h1,h2,h3,h4⟩,h5⟩:=h
  exact⟨⟨o,f,h1,h2,h3,q8.U9 s x h4⟩,y4.q0J l xs h5⟩
end
mutual
def V.y2k:Sh→V→List (Nat × Ty)
 | .vec (.l a) eb e,x=>(match x with
  | .emp eb' e'=>if eb'=eb∧e'=e then[(a+T0,e)]else[]
  | .nilc=>[(a+T0,e)]
  |_=>[])
 | .agg _ l,x=>(match x with
  | .agg _ xs=>V.y3C l xs
  |_=>[])
 |_,_=>[]
def V.y3C:List Sh→List V→List (Nat × Ty)
 |s::l,x::xs=>V.y2k s x++V.y3C l xs
 |_,_=>[]
end
def q95:List (Nat × Ty)→S→S
 | [],s=>s
 |(t,e)::l,s=>if(s.obj (.l t)).isNone=true then q95 l (s.put (.l t) (.box (.d (.arr 0 e) (.agg []))))else q95 l s
def V.q86 (s:Sh) (x:V):V:=
 match s,x with
 | .vec (.l a) eb e,.nilc=>.sr (.l (a+T0)) [] 0 0 none eb e
 |s,x=>V.U9 s x
def q88:List (Nat × Sh)→S→S
 | [],s=>s
 |(i,sh)::l,s=>(match V.y2k sh (s.get i)with
  | []=>q88 l s
  |ns=>q88 l (q95 ns (s.set (some i) (V.q86 sh (s.get i)))))
def q5I:List (Key × OSh)→S→S
 | [],s=>s
 |(k,.box sh)::l,s=>(match s.obj k with
  |some (.box x)=>(match V.y2k sh x with
   | []=>q5I l s
   |ns=>q5I l (q95 ns (s.put k (.box (V.U9 sh x)))))
  |_=>q5I l s)
 |_::l,s=>q5I l s
end Go.E
namespace Go.E
open Go
set_option linter.unusedSectionVars false
mutual
def V.q0A (s:S):V→V
 | .agg τ vs=>.agg τ (V.q1a s vs)
 |x=>Z9 s x
def V.q1a (s:S):List V→List V
 | []=>[]
 |x::xs=>V.q0A s x::V.q1a s xs
end
mutual
def V.q9E:V→List Nat
 | .agg _ vs=>V.z0h vs
 |x=>q0Z x
def V.z0h:List V→List Nat
 | []=>[]
 |x::xs=>V.q9E x++V.z0h xs
end
mutual
def V.frz (s:S):Sh→V→V
 | .d _,x=>x.q0A s
 | .agg _ l,x=>(match x with
  | .agg τ xs=>.agg τ (V.q1L s l xs)
  |x=>x)
 |_,x=>x
def V.q1L (s:S):List Sh→List V→List V
 |sh::l,x::xs=>V.frz s sh x::V.q1L s l xs
 |_,xs=>xs
end
mutual
def V.q6U:Sh→V→List Nat
 | .d _,x=>x.q9E
 | .agg _ l,x=>(match x with
  | .agg _ xs=>V.z5F l xs
  |_=>[])
 |_,_=>[]
def V.z5F:List Sh→List V→List Nat
 |sh::l,x::xs=>V.q6U sh x++V.z5F l xs
 |_,_=>[]
end
theorem q8.z2p {Γ Γ':G} (p:s6 Γ Γ') {q:List Nat} {x:V} {vs:List Value} (h:q8 Γ none q x vs):q8 Γ' none q x vs:=q8.o8 p (hm:=none) trivial x h
theorem z6W (s:S) (x:V):(Z9 s x).ty=x.ty∧(Z9 s x).plain=x.plain:=by
 unfold Z9
 split
 ·split
  ·split
   ·split
    ·split
     ·exact⟨rfl,rfl⟩
     ·exact⟨rfl,rfl⟩
    ·exact⟨rfl,rfl⟩
   ·exact⟨rfl,rfl⟩
  ·exact⟨rfl,rfl⟩
 ·exact⟨rfl,rfl⟩
theorem V.z6Y (s:S) (x:V):(x.q0A s).ty=x.ty∧(x.q0A s).plain=x.plain:=by
 cases x <;> simp only[V.q0A] <;> first|exact z6W s _|exact⟨rfl,rfl⟩
theorem V.q8Q (s:S):∀xs:List V,(V.q1a s xs).length=xs.length
 | []=>rfl
 |x::xs=>by simp[V.q1a,V.q8Q s xs]
theorem V.z7c (s:S) (sh:Sh) (x:V):(V.frz s sh x).ty=x.ty∧(V.frz s sh x).plain=x.plain:=by
 unfold V.frz
 split
 ·exact V.z6Y s x
 ·split <;> exact⟨rfl,rfl⟩
 ·exact⟨rfl,rfl⟩
theorem V.z06 (s:S):∀(l:List Sh) (xs:List V),(V.q1L s l xs).length=xs.length
 | [],xs=>by simp[V.q1L]
 |_::_,[]=>by simp[V.q1L]
 |sh::l,x::xs=>by simp[V.q1L,V.z06 s l xs]
section
variable {Γ Γ':G} {s:S} {js:List Nat} (p:s6 Γ Γ') (hc:∀(x:V) (v:Value),q9 Γ x v→(∀j∈q0Z x,j∈js)→q9 Γ' (Z9 s x) v)
include p hc
theorem q8.Z9 {x:V} {q:List Nat} {vs:List Value} (hx:x.plain=true) (ha:x.ty.isAgg=false) (h:q8 Γ none q x vs) (hk:∀j∈q0Z x,j∈js):q8 Γ' none q (Z9 s x) vs:=by
 by_cases hn:q0Z x=[]
 ·rw[z2B (fun j hj=>by rw[hn]at hj;cases hj)]
  exact h.z2p p
 ·cases x <;> (try (exact absurd rfl hn))
  rename_i k q0 lo n cp eb e
  cases k with
  |g k=>exact absurd rfl hn
  |l j=>
   have hv:∃v,vs=[v]∧q9 Γ (.sr (.l j) q0 lo n cp eb e) v:=by
    have h':=h
    simp only[q8]at h
    rcases h with⟨_,_,a,rfl⟩|⟨b,τ0,o,m,cap,_,_,_,⟨a,rfl,_⟩,_⟩
    ·exact⟨_,rfl,(w4 rfl rfl).2 ⟨by simpa only[q8]using h',rfl⟩⟩
    ·exact⟨_,rfl,(w4 rfl rfl).2 ⟨by simpa only[q8]using h',rfl⟩⟩
   obtain⟨v,rfl,hv⟩:=hv
   have h2:=hc _ _ hv hk
   have h3:=z6W s (.sr (.l j) q0 lo n cp eb e)
   have hvc:v.cells.toList=[v]:=by
    rcases q0k hv with⟨_,_,a,rfl⟩|⟨b,τ0,o,m,cap,a,_,_,_,rfl,_⟩ <;> rfl
   obtain⟨h4,_⟩:=(y8 (by rw[h3.2];rfl)).1 h2
   rw[hvc]at h4
   exact q8.c5 _ h4
mutual
theorem q8.q0A:∀(x:V) {q:List Nat} {vs:List Value},q8 Γ none q x vs→(∀j∈x.q9E,j∈js)→q8 Γ' none q (x.q0A s) vs
 | .agg τ xs,q,vs,h,hk=>by
  simp only[V.q0A,V.q9E]at hk ⊢
  simp only[q8]at h ⊢
  exact⟨h.1,h.2.1,by rw[V.q8Q];exact h.2.2.1,h.2.2.2.1,y4.q1a xs h.2.2.2.2 hk⟩
 | .any,q,vs,_,_=>by simp only[V.q0A,Go.E.Z9,q8]
 | .tup _,q,vs,h,_=>by simp only[q8]at h
 | .d τ c,q,vs,h,_=>by simp only[V.q0A,Go.E.Z9];exact h.z2p p
 | .sl _ _ _ _,q,vs,h,hk| .ts _ _ _,q,vs,h,hk| .emp _ _,q,vs,h,hk| .nilc,q,vs,h,hk| .ptr _ _ _,q,vs,h,hk| .cptr _ _,q,vs,h,hk| .mp _,q,vs,h,hk| .fn _ _,q,vs,h,hk| .top _,q,vs,h,hk=>by
  simp only[V.q0A,Go.E.Z9];exact h.z2p p
 | .sr k q0 lo n cp eb e,q,vs,h,hk=>by
  simp only[V.q0A]
  exact q8.Z9 p hc rfl rfl h (by simpa only[V.q9E]using hk)
theorem y4.q1a:∀(xs:List V) {q:List Nat} {i:Nat} {τ:Ty} {vs:List Value},y4 Γ none q i τ xs vs→(∀j∈V.z0h xs,j∈js)→y4 Γ' none q i τ (V.q1a s xs) vs
 | [],_,_,_,_,_,_=>by simp only[V.q1a,y4]
 |x::xs,_,_,_,_,h,hk=>by
  simp only[y4,V.q1a,(V.z6Y s x).1]at h ⊢
  simp only[V.z0h,List.mem_append]at hk
  obtain⟨⟨o,f,h1,h2,h3,h4⟩,h5⟩:=h
  exact⟨⟨o,f,h1,h2,h3,q8.q0A x h4 fun j hj=>hk j (.inl hj)⟩,y4.q1a xs h5 fun j hj=>hk j (.inr hj)⟩
end
mutual
theorem q8.frz:∀(sh:Sh) (x:V) {q:List Nat} {vs:List Value},q8 Γ none q x vs→(∀j∈V.q6U sh x,j∈js)→q8 Γ' none q (V.frz s sh x) vs
 | .d _,x,q,vs,h,hk=>by simp only[V.frz,V.q6U]at hk ⊢;exact q8.q0A p hc x h hk
 | .agg _ l,x,q,vs,h,hk=>by
  simp only[V.frz,V.q6U]at hk ⊢
  split
  ·simp only[q8]at h ⊢
   exact⟨h.1,h.2.1,by rw[V.z06];exact h.2.2.1,h.2.2.2.1,y4.q1L l _ h.2.2.2.2 hk⟩
  ·exact h.z2p p
 | .sl _ _ _,x,q,vs,h,_| .ts _ _,x,q,vs,h,_| .sr _ _ _ _ _,x,q,vs,h,_| .cptr _,x,q,vs,h,_| .arr _,x,q,vs,h,_| .as _,x,q,vs,h,_| .vec _ _ _,x,q,vs,h,_| .fnc _ _,x,q,vs,h,_=>by
  simp only[V.frz];exact h.z2p p
theorem y4.q1L:∀(l:List Sh) (xs:List V) {q:List Nat} {i:Nat} {τ:Ty} {vs:List Value},y4 Γ none q i τ xs vs→(∀j∈V.z5F l xs,j∈js)→y4 Γ' none q i τ (V.q1L s l xs) vs
 | [],xs,_,_,_,_,h,_=>by simp only[V.q1L];exact y4.o8 p (hm:=none) trivial xs h
 |_::_,[],_,_,_,_,_,_=>by simp only[V.q1L,y4]
 |sh::l,x::xs,_,_,_,_,h,hk=>by
  simp only[y4,V.q1L,(V.z7c s sh x).1]at h ⊢
  simp only[V.z5F,List.mem_append]at hk
  obtain⟨⟨o,f,h1,h2,h3,h4⟩,h5⟩:=h
  exact⟨⟨o,f,h1,h2,h3,q8.frz sh x h4 fun j hj=>hk j (.inl hj)⟩,y4.q1L l xs h5 fun j hj=>hk j (.inr hj)⟩
end
theorem q9.frz {sh:Sh} {x:V} {v:Value} (h:q9 Γ x v) (hk:∀j∈V.q6U sh x,j∈js):q9 Γ' (V.frz s sh x) v:=by
 by_cases hp:x.plain=true
 ·obtain⟨h1,h2⟩:=(y8 hp).1 h
  exact(y8 (by rw[(V.z7c s sh x).2];exact hp)).2 ⟨q8.frz p hc sh x h1 hk,by rw[(V.z7c s sh x).1];exact h2⟩
 ·have:V.frz s sh x=x:=by
   cases x <;> simp[V.plain]at hp <;> (unfold V.frz;split <;> rfl)
  rw[this];exact h.o8 p
end
def q1c (s:S):List (Nat × Sh)→List Nat
 | []=>[]
 |(i,sh)::l=>V.q6U sh (s.get i)++q1c s l
def q2e (s0:S):List (Nat × Sh)→S→S
 | [],s=>s
 |(i,sh)::l,s=>q2e s0 l (match V.q6U sh (s0.get i)with
  | []=>s
  |_=>s.set (some i) (V.frz s0 sh (s0.get i)))
def q8d (sh:SSh) (s:S):S:=
 match q1c s sh.env with
 | []=>s
 |js=>q2e s sh.env (W8 js s)
theorem q8e (s0:S):∀(l:List (Nat × Sh)) (s:S),(q2e s0 l s).loc=s.loc∧(q2e s0 l s).tk=s.tk∧(q2e s0 l s).A=s.A
 | [],s=>⟨rfl,rfl,rfl⟩
 |(i,sh)::l,s=>by
  simp only[q2e]
  have:=q8e s0 l (match V.q6U sh (s0.get i)with
   | []=>s
   |_=>s.set (some i) (V.frz s0 sh (s0.get i)))
  refine⟨this.1.trans ?_,this.2.1.trans ?_,this.2.2.trans ?_⟩ <;> (split <;> rfl)
theorem z2J {Γ':G} {tmps:Array Value} {s0:S} {js:List Nat} (h0:∀i sh,(∀j∈V.q6U sh (s0.get i),j∈js)→q9 Γ' (V.frz s0 sh (s0.get i)) (tmps.getD i undef)):∀(l:List (Nat × Sh)) (s:S),(∀j∈q1c s0 l,j∈js)→(∀i,q9 Γ' (s.get i) (tmps.getD i undef))→∀i,q9 Γ' ((q2e s0 l s).get i) (tmps.getD i undef)
 | [],s,_,h=>h
 |(i,sh)::l,s,hk,h=>by
  simp only[q2e]
  simp only[q1c,List.mem_append]at hk
  refine z2J h0 l _ (fun j hj=>hk j (.inr hj)) fun m=>?_
  split
  ·exact h m
  ·rw[q2v]
   split
   ·rename_i e
    cases e
    exact h0 i sh fun j hj=>hk j (.inl hj)
   ·exact h m
theorem y5A {X:Cx} {n:Nat} {Γ0:G} {a:Act} {w:World} {sh:SSh} {s:S} (h:At X n Γ0 s a w):At X n Γ0 (q8d sh s) a w:=by
 unfold q8d
 split
 ·exact h
 ·obtain⟨Γ,g1,g3,c,hs,hn,hf,hA⟩:=h
  obtain⟨Γ',g,p,c',hcv⟩:=q74 (q1c s sh.env) s c
  have hl:=q8e s sh.env (W8 (q1c s sh.env) s)
  have hE:=q4S (q1c s sh.env) s
  refine⟨Γ',g1.trans g,g.gl.trans g3,c'.congr (fun k=>?_) (fun t=>?_) (fun t ht=>?_),?_,hn,hf,by rw[hl.2.2,hE.2];exact hA⟩
  ·unfold S.obj;rw[hl.1,hl.2.2]
  ·unfold S.live;rw[hl.2.1]
  ·unfold S.known at ht ⊢;rw[hl.2.1];exact ht
  ·refine z2J (js:=q1c s sh.env) (fun i sh' hk=>q9.frz p hcv (hs i) hk) sh.env _ (fun j hj=>hj) fun i=>?_
   exact q1f hE.1 (hs.o8 p) i
mutual
theorem V.z6X (s:S) (A':Key→Option O):∀x:V,x.q0A (s.wA A')=x.q0A s
 | .agg τ vs=>by simp only[V.q0A];rw[V.z4G s A' vs]
 | .d _ _| .sl _ _ _ _| .ts _ _ _| .emp _ _| .nilc| .ptr _ _ _| .cptr _ _| .mp _| .fn _ _| .top _| .any| .tup _| .sr _ _ _ _ _ _ _=>by simp only[V.q0A];exact z6V s A' _
theorem V.z4G (s:S) (A':Key→Option O):∀xs:List V,V.q1a (s.wA A') xs=V.q1a s xs
 | []=>rfl
 |x::xs=>by simp only[V.q1a];rw[V.z6X s A' x,V.z4G s A' xs]
end
mutual
theorem V.y1C (s:S) (A':Key→Option O):∀(sh:Sh) (x:V),V.frz (s.wA A') sh x=V.frz s sh x
 | .d _,x=>by simp only[V.frz];exact V.z6X s A' x
 | .agg _ l,x=>by simp only[V.frz];split <;> (try rfl);rw[V.z8Z s A' l]
 | .sl _ _ _,x| .ts _ _,x| .sr _ _ _ _ _,x| .cptr _,x| .arr _,x| .as _,x| .vec _ _ _,x| .fnc _ _,x=>by simp only[V.frz]
theorem V.z8Z (s:S) (A':Key→Option O):∀(l:List Sh) (xs:List V),V.q1L (s.wA A') l xs=V.q1L s l xs
 | [],xs=>by simp only[V.q1L]
 |_::_,[]=>by simp only[V.q1L]
 |sh::l,x::xs=>by simp only[V.q1L];rw[V.y1C s A' sh x,V.z8Z s A' l xs]
end
theorem z2U (s:S) (A':Key→Option O):∀l:List (Nat × Sh),q1c (s.wA A') l=q1c s l
 | []=>rfl
 |(i,sh)::l=>by simp only[q1c];rw[z2U s A' l];rfl
theorem z4N (s0:S) (A':Key→Option O):∀(l:List (Nat × Sh)) (s:S),q2e (s0.wA A') l (s.wA A')=(q2e s0 l s).wA A'
 | [],_=>rfl
 |(i,sh)::l,s=>by
  simp only[q2e]
  rw[←z4N s0 A' l]
  congr 1
  show(match V.q6U sh (s0.get i)with
   | []=>s.wA A'
   |_=>(s.wA A').set (some i) (V.frz (s0.wA A') sh (s0.get i)))=_
  rw[V.y1C]
  split <;> rfl
theorem y4u (sh:SSh) (s:S) (A':Key→Option O):q8d sh (s.wA A')=(q8d sh s).wA A':=by
 unfold q8d
 rw[z2U]
 split
 ·rfl
 ·rw[z1B];exact z4N s A' sh.env _
end Go.E
namespace Go.E
open Go
def q5c {R:Type}:Key→(Key→Option R)→Option R
 | .l 0,K=>K (.l 0)
 | .l (n+1),K=>K (.l (n+1))
 | .g k,K=>q5c k fun k=>K (.g k)
theorem q29 {R:Type}:∀(k:Key) (K:Key→Option R),q5c k K=K k
 | .l 0,K=>rfl
 | .l (n+1),K=>rfl
 | .g k,K=>by simp only[q5c,q29 k]
mutual
def q5b {R:Type}:V→(V→Option R)→Option R
 | .d τ c,K=>K (.d τ c)
 | .sl eb e cs t,K=>K (.sl eb e cs t)
 | .ts eb e cs,K=>K (.ts eb e cs)
 | .emp eb e,K=>K (.emp eb e)
 | .nilc,K=>K .nilc
 | .ptr k q τ,K=>q5c k fun k=>K (.ptr k q τ)
 | .cptr τ c,K=>K (.cptr τ c)
 | .sr k q lo n cp eb e,K=>q5c k fun k=>K (.sr k q lo n cp eb e)
 | .mp k,K=>q5c k fun k=>K (.mp k)
 | .agg τ l,K=>z0m l fun l=>K (.agg τ l)
 | .fn f l,K=>K (.fn f l)
 | .tup l,K=>z0m l fun l=>K (.tup l)
 | .top τ,K=>K (.top τ)
 | .any,K=>K .any
def z0m {R:Type}:List V→(List V→Option R)→Option R
 | [],K=>K []
 |x::l,K=>q5b x fun x=>z0m l fun l=>K (x::l)
end
mutual
theorem q7y {R:Type}:∀(x:V) (K:V→Option R),q5b x K=K x
 | .d _ _,_| .sl _ _ _ _,_| .ts _ _ _,_| .emp _ _,_| .nilc,_| .cptr _ _,_| .fn _ _,_| .top _,_| .any,_=>by simp only[q5b]
 | .ptr k q τ,K=>by simp only[q5b,q29]
 | .sr k q lo n cp eb e,K=>by simp only[q5b,q29]
 | .mp k,K=>by simp only[q5b,q29]
 | .agg τ l,K=>by simp only[q5b,z1G l]
 | .tup l,K=>by simp only[q5b,z1G l]
theorem z1G {R:Type}:∀(l:List V) (K:List V→Option R),z0m l K=K l
 | [],K=>by simp only[z0m]
 |x::l,K=>by simp only[z0m,q7y x,z1G l]
end
def y0g {R:Type}:List (Nat × V)→(List (Nat × V)→Option R)→Option R
 | [],K=>K []
 |(i,x)::l,K=>q5b x fun x=>y0g l fun l=>K ((i,x)::l)
theorem z83 {R:Type}:∀(l:List (Nat × V)) (K:List (Nat × V)→Option R),y0g l K=K l
 | [],K=>rfl
 |(i,x)::l,K=>by simp only[y0g,q7y,z83 l]
def z7h {R:Type}:List (Key × O)→(List (Key × O)→Option R)→Option R
 | [],K=>K []
 |(k,.box x)::l,K=>q5c k fun k=>q5b x fun x=>z7h l fun l=>K ((k,.box x)::l)
 |(k,o)::l,K=>q5c k fun k=>z7h l fun l=>K ((k,o)::l)
theorem z82 {R:Type}:∀(l:List (Key × O)) (K:List (Key × O)→Option R),z7h l K=K l
 | [],K=>rfl
 |(k,o)::l,K=>by
  cases o <;> simp only[z7h,q29,q7y,z82 l]
def z7e {R:Type}:List (Nat × Option Nat)→(List (Nat × Option Nat)→Option R)→Option R
 | [],K=>K []
 |(i,none)::l,K=>z7e l fun l=>K ((i,none)::l)
 |(i,some n)::l,K=>z7e l fun l=>K ((i,some n)::l)
theorem z81 {R:Type}:∀(l:List (Nat × Option Nat)) (K:List (Nat × Option Nat)→Option R),z7e l K=K l
 | [],K=>rfl
 |(i,o)::l,K=>by cases o <;> simp only[z7e,z81 l]
def frc {R:Type} (s:S) (K:S→Option R):Option R:=
 match s with
 |⟨env,loc,A,tk⟩=>y0g env fun env=>z7h loc fun loc=>z7e tk fun tk=>K ⟨env,loc,A,tk⟩
theorem z7d {R:Type} (s:S) (K:S→Option R):frc s K=K s:=by
 unfold frc
 simp only[z83,z82,z81]
def z3V {R:Type}:List Cap→(List Cap→Option R)→Option R
 | [],K=>K []
 | .c τ::l,K=>z3V l fun l=>K (.c τ::l)
 | .v x::l,K=>q5b x fun x=>z3V l fun l=>K (.v x::l)
theorem z3U {R:Type}:∀(l:List Cap) (K:List Cap→Option R),z3V l K=K l
 | [],K=>rfl
 | .c τ::l,K=>by simp only[z3V,z3U l]
 | .v x::l,K=>by simp only[z3V,q7y,z3U l]
mutual
def q4y {R:Type}:Sh→(Sh→Option R)→Option R
 | .sr k q cp eb e,K=>q5c k fun k=>K (.sr k q cp eb e)
 | .vec k eb e,K=>q5c k fun k=>K (.vec k eb e)
 | .agg τ l,K=>q9L l fun l=>K (.agg τ l)
 | .as v,K=>q5b v fun v=>K (.as v)
 | .d τ,K=>K (.d τ)
 | .sl eb e t,K=>K (.sl eb e t)
 | .ts eb e,K=>K (.ts eb e)
 | .cptr τ,K=>K (.cptr τ)
 | .arr e,K=>K (.arr e)
 | .fnc f l,K=>z3V l fun l=>K (.fnc f l)
def q9L {R:Type}:List Sh→(List Sh→Option R)→Option R
 | [],K=>K []
 |x::l,K=>q4y x fun x=>q9L l fun l=>K (x::l)
end
mutual
theorem z1H {R:Type}:∀(x:Sh) (K:Sh→Option R),q4y x K=K x
 | .d _,_| .sl _ _ _,_| .ts _ _,_| .cptr _,_| .arr _,_=>by simp only[q4y]
 | .sr _ _ _ _ _,K=>by simp only[q4y,q29]
 | .vec _ _ _,K=>by simp only[q4y,q29]
 | .as v,K=>by simp only[q4y,q7y]
 | .fnc f l,K=>by simp only[q4y,z3U]
 | .agg τ l,K=>by simp only[q4y,z4O l]
theorem z4O {R:Type}:∀(l:List Sh) (K:List Sh→Option R),q9L l K=K l
 | [],K=>by simp only[q9L]
 |x::l,K=>by simp only[q9L,z1H x,z4O l]
end
def z5G {R:Type}:List (Nat × Sh)→(List (Nat × Sh)→Option R)→Option R
 | [],K=>K []
 |(i,x)::l,K=>q4y x fun x=>z5G l fun l=>K ((i,x)::l)
theorem z7g {R:Type}:∀(l:List (Nat × Sh)) (K:List (Nat × Sh)→Option R),z5G l K=K l
 | [],K=>rfl
 |(i,x)::l,K=>by simp only[z5G,z1H,z7g l]
def z2L {R:Type}:List (Key × OSh)→(List (Key × OSh)→Option R)→Option R
 | [],K=>K []
 |(k,.box x)::l,K=>q5c k fun k=>q4y x fun x=>z2L l fun l=>K ((k,.box x)::l)
 |(k,o)::l,K=>q5c k fun k=>z2L l fun l=>K ((k,o)::l)
theorem z7f {R:Type}:∀(l:List (Key × OSh)) (K:List (Key × OSh)→Option R),z2L l K=K l
 | [],K=>rfl
 |(k,o)::l,K=>by cases o <;> simp only[z2L,q29,z1H,z7f l]
def z2K {R:Type} (s:SSh) (K:SSh→Option R):Option R:=
 match s with
 |⟨env,loc⟩=>z5G env fun env=>z2L loc fun loc=>K ⟨env,loc⟩
theorem z1I {R:Type} (s:SSh) (K:SSh→Option R):z2K s K=K s:=by
 unfold z2K
 simp only[z7g,z7f]
def y10:List V→Bool
 | []=>false
 | .cptr _ _::_=>true
 |_::l=>y10 l
def z7O:List V→List Cap
 | []=>[]
 | .cptr τ _::l=>.c τ::z7O l
 |x::l=>.v x::z7O l
mutual
def V.y0H:V→Sh
 | .d τ _=>(match τ with
  | .ptr=>.as (.d .ptr .nil)
  | .map=>.as (.d .map .nil)
  | .func=>.as (.d .func .nil)
  |τ=>.d τ)
 | .sl eb e _ _=>.d (.slice eb e)
 | .ts eb e _=>.ts eb e
 | .sr k q _ _ cp eb e=>(match q,cp with
  | [],none=>.vec k eb e
  |q,cp=>.sr k q cp.isSome eb e)
 | .cptr τ _=>.cptr τ
 | .agg τ vs=>.agg τ (V.y3V vs)
 | .tup _=>.as .any
 | .fn f vs=>bif y10 vs then .fnc f (z7O vs)else .as (.fn f vs)
 |x=>.as x
def V.y3V:List V→List Sh
 | []=>[]
 |x::xs=>x.y0H::V.y3V xs
end
mutual
def V.z2F:V→List Key
 | .ptr k _ _| .mp k| .sr k _ _ _ _ _ _=>[k]
 | .agg _ vs| .fn _ vs| .tup vs=>V.y1p vs
 |_=>[]
def V.y1p:List V→List Key
 | []=>[]
 |x::xs=>x.z2F++V.y1p xs
end
def O.z2F:O→List Key
 | .box x=>x.z2F
 | .map _ _ _=>[]
 | .it _ _| .dead _=>[]
def y2M:Key→List Key→Bool
 |_,[]=>false
 |k,j::l=>if j=k then true else y2M k l
def z2n (s:S):Nat→List Key→List Key→List Key
 |0,_,acc=>acc
 |_,[],acc=>acc
 |f+1,k::ks,acc=>if y2M k acc=true then z2n s f ks acc else(match s.obj k with
  |some o=>z2n s f (o.z2F++ks) (acc++[k])
  |none=>z2n s f ks acc)
structure Hint where
 live:List Nat
 new:List (Nat × Sh)
 roots:List Key
 obs:List (Key × OSh)
 drop:List Key
 vecs:List Ty:=[]
def y3R (s:S):List Nat→List Key
 | []=>[]
 |i::l=>(s.get i).z2F++y3R s l
def z7X (s:S):List Nat→List (Nat × Sh)
 | []=>[]
 |i::l=>(match s.get i with
  | .any=>z7X s l
  |x=>(i,x.y0H)::z7X s l)
def z0j (e:Ty):List Ty→Bool
 | []=>false
 |t::l=>if Ty.beq t e=true then true else z0j e l
def z5M:Key→Nat
 | .l n=>2*n
 | .g k=>2*z5M k+1
def V1:Nat:=1000000000000
mutual
def Sh.y2j (ts:List Ty):Nat→Sh→V→Sh
 |b,.vec (.g k) eb e,_=>if z0j e ts=true then .vec (.l (V1+8*z5M (.g k)+2)) eb e else .vec (.g k) eb e
 |b,.as v,_=>(match v with
  | .emp eb e=>if z0j e ts=true then .vec (.l b) eb e else .as v
  |v=>.as v)
 |b,.ts eb e,x=>(match x with
  | .emp _ _=>if z0j e ts=true then .vec (.l b) eb e else .ts eb e
  |_=>.ts eb e)
 |b,.agg τ l,x=>(match x with
  | .agg _ xs=>.agg τ (Sh.y3B ts (64*b) l xs)
  |_=>.agg τ l)
 |_,s,_=>s
def Sh.y3B (ts:List Ty):Nat→List Sh→List V→List Sh
 |b,s::l,x::xs=>Sh.y2j ts b s x::Sh.y3B ts (b+1) l xs
 |_,_,_=>[]
end
mutual
def Sh.y2h:Sh→List (Key × OSh)
 | .vec (.l a) _ e=>if V1≤a then[(.l a,.box (.arr e))]else[]
 | .agg _ l=>Sh.y3A l
 |_=>[]
def Sh.y3A:List Sh→List (Key × OSh)
 | []=>[]
 |s::l=>s.y2h++Sh.y3A l
end
def z9b (s:S) (ts:List Ty):List (Nat × Sh)→List (Nat × Sh)
 | []=>[]
 |(i,sh)::l=>(i,sh.y2j ts (V1+8*i+3) (s.get i))::z9b s ts l
def q5D (s:S) (ts:List Ty):List (Key × OSh)→List (Key × OSh)
 | []=>[]
 |(k,.box sh)::l=>(match k,sh with
  | .g k,.arr e=>if z0j e ts=true then(.g k,.dead e)::(.l (V1+8*z5M (.g k)+2),.box (.arr e))::q5D s ts l else(.g k,.box sh)::q5D s ts l
  |k,sh=>(match s.obj k with
   |some (.box x)=>(k,.box (sh.y2j ts (V1+8*z5M k+1) x))::q5D s ts l
   |_=>(k,.box sh)::q5D s ts l))
 |p::l=>p::q5D s ts l
def z9a:List (Nat × Sh)→List (Key × OSh)
 | []=>[]
 |(_,sh)::l=>sh.y2h++z9a l
def z3J:List (Key × OSh)→List (Key × OSh)
 | []=>[]
 |(_,.box sh)::l=>sh.y2h++z3J l
 |_::l=>z3J l
def z7W:List (Key × OSh)→List (Key × OSh)→List (Key × OSh)
 | [],acc=>acc
 |(k,o)::l,acc=>if q6G acc k=true then z7W l acc else z7W l (acc++[(k,o)])
def y41 (s:S) (ts:List Ty) (sh:SSh):SSh:=
 match ts with
 | []=>sh
 |ts=>(match z9b s ts sh.env,q5D s ts sh.loc with
  |env,loc=>⟨env,z7W (z9a env++z3J loc) loc⟩)
def q4X (s:S) (h:Hint):List Key→List (Key × OSh)
 | []=>[]
 |k::l=>if y2M k h.drop=true then q4X s h l else if q6G h.obs k=true then q4X s h l else(match s.obj k with
  |some (.box x)=>(k,.box (match x with
    | .d (.arr M e) _=>(match k,M with
     |_,_=>if z0j e h.vecs=true then .arr e else .d (.arr M e))
    | .d τ _=>.d τ
    |x=>(match h.vecs with
     | []=>bif (s7 x).isSome then .d x.ty else x.q0D.y0H
     |_=>x.y0H)))::q4X s h l
  |some (.map kτ vτ _)=>(k,.map kτ vτ)::q4X s h l
  |some (.it _ _)=>(k,.it)::q4X s h l
  |some (.dead (.arr _ e))=>(k,.dead e)::q4X s h l
  |_=>q4X s h l)
def z7E:List (Key × O)→List Key
 | []=>[]
 |(.g k,.dead _)::l=>.g k::z7E l
 |_::l=>z7E l
def y2K (h:Hint) (s:S):SSh:=
 y41 s h.vecs ⟨z7X s h.live++h.new,h.obs++q4X s h (z2n s 1000 (y3R s h.live++h.roots) []++z7E s.loc)⟩
def q8h:List (Key × OSh)→S→S
 | [],s=>s
 |(k,.box _)::l,s=>(match s.obj k with
  |some (.box x)=>q8h l (s.put k (.box x.q0D))
  |_=>q8h l s)
 |_::l,s=>q8h l s
def q4i:List (Nat × Sh)→S→S
 | [],s=>s
 |(i,sh)::l,s=>(match sh with
  | .sl eb e t=>(match s.get i with
   | .nilc=>if s.known t=false then q4i l (S.set {s with tk:=(t,some 0)::s.tk} (some i) (.sl eb e [] t))else q4i l s
   | .emp eb' e'=>if eb'=eb∧e'=e∧s.known t=false then q4i l (S.set {s with tk:=(t,some 0)::s.tk} (some i) (.sl eb e [] t))else q4i l s
   |_=>q4i l s)
  |_=>q4i l s)
mutual
def V.un:V→V→List (Nat × Nat)
 | .ptr (.l a) _ _,.ptr (.l b) _ _=>[(b,a)]
 | .mp (.l a),.mp (.l b)=>[(b,a)]
 | .fn _ l,.fn _ l'=>V.uns l l'
 | .tup l,.tup l'=>V.uns l l'
 |_,_=>[]
def V.uns:List V→List V→List (Nat × Nat)
 |x::xs,y::ys=>V.un x y++V.uns xs ys
 |_,_=>[]
end
def y0C:List Cap→List V→List (Nat × Nat)
 | .v y::l,x::xs=>V.un y x++y0C l xs
 | .c _::l,_::xs=>y0C l xs
 |_,_=>[]
mutual
def Sh.un:Sh→V→List (Nat × Nat)
 | .sr (.l a) _ _ _ _,.sr (.l b) _ _ _ _ _ _=>[(b,a)]
 | .vec (.l a) _ _,.sr (.l b) _ _ _ _ _ _=>[(b,a)]
 | .as v,x=>V.un v x
 | .fnc _ l,.fn _ xs=>y0C l xs
 | .agg _ l,.agg _ xs=>Sh.uns l xs
 |_,_=>[]
def Sh.uns:List Sh→List V→List (Nat × Nat)
 |s::l,x::xs=>s.un x++Sh.uns l xs
 |_,_=>[]
end
def z9u (s:S):List (Nat × Sh)→List (Nat × Nat)
 | []=>[]
 |(i,sh)::l=>sh.un (s.get i)++z9u s l
def z5z (s:S):List (Nat × Sh)→List (Nat × Nat)
 | []=>[]
 |(i,sh)::l=>(match sh,s.get i with
  | .sl _ _ t,.sl _ _ _ t'=>(t',t)::z5z s l
  |_,_=>z5z s l)
def y3K:List (Key × OSh)→Key→Option OSh
 | [],_=>none
 |(j,x)::l,k=>if j=k then some x else y3K l k
def y3D (s:S) (l:List (Key × OSh)) (b a:Key):List (Nat × Nat):=
 match y3K l a,s.obj b with
 |some (.box sh),some (.box x)=>sh.un x
 |_,_=>[]
def unG (s:S) (l0:List (Key × OSh)):List (Key × OSh)→List (Nat × Nat)
 | []=>[]
 |(.g k,_)::l=>y3D s l0 (.g k) (.g k)++unG s l0 l
 |(.l _,_)::l=>unG s l0 l
def z5A (s:S) (l:List (Key × OSh)):Nat→List (Nat × Nat)→List (Nat × Nat)→List (Nat × Nat)
 |0,_,acc=>acc
 |_,[],acc=>acc
 |f+1,(b,a)::todo,acc=>(match look acc b with
  |some _=>z5A s l f todo acc
  |none=>z5A s l f (y3D s l (.l b) (.l a)++todo) ((b,a)::acc))
def z3m:List (Nat × Nat)→Bool
 | []=>true
 |(a,b)::l=>Nat.beq a b&&z3m l
def z4d (l:List (Nat × Nat)) (n:Nat):Nat:=(look l n).getD (n+1000000000)
def q9b (s:S):List (Nat × Sh)→Bool
 | []=>false
 |(i,sh)::l=>(match sh,s.get i with
  | .sl _ _ t,.nilc=>s.known t||q9b s l
  | .sl _ _ t,.emp _ _=>s.known t||q9b s l
  |_,_=>q9b s l)
def z9M (sh:SSh) (s:S):S:=
 match z5A s sh.loc 1000 (z9u s sh.env++unG s sh.loc sh.loc) [],z5z s sh.env with
 |ps,ts=>bif z3m ps&&z3m ts&& !q9b s sh.env then s
  else bif q8a (z4d ps) (q00 s.loc)&&q8a (z4d ts) (q0X s.tk)then s.ren (z4d ps) (z4d ts)else s
mutual
def Sh.ad:Sh→V→List (Key × Nat)
 | .vec (.l a) _ _,.sr (.g b) _ _ _ _ _ _=>[(.g b,a+T0)]
 | .agg _ l,.agg _ xs=>Sh.ads l xs
 |_,_=>[]
def Sh.ads:List Sh→List V→List (Key × Nat)
 |s::l,x::xs=>s.ad x++Sh.ads l xs
 |_,_=>[]
end
def y3U (s:S):List (Nat × Sh)→List (Key × Nat)
 | []=>[]
 |(i,sh)::l=>sh.ad (s.get i)++y3U s l
def z5P (s:S):List (Key × OSh)→List (Key × Nat)
 | []=>[]
 |(k,.box sh)::l=>(match s.obj k with
  |some (.box x)=>sh.ad x++z5P s l
  |_=>z5P s l)
 |_::l=>z5P s l
def y3L {α:Type}:List (Key × α)→List Key
 | []=>[]
 |(k,_)::l=>k::y3L l
def z7V (ks:List Key):List (Key × Nat)→S→S
 | [],s=>s
 |(K,t)::l,s=>z7V ks l (q93 K t ks s)
def y17:List (Key × OSh)→Bool
 | []=>false
 |(_,.box (.arr _))::_=>true
 |_::l=>y17 l
def z9r (sh:SSh) (s:S):S:=
 match y17 sh.loc with
 |false=>s
 |true=>(match z7V (y3L sh.loc) (y3U s sh.env++z5P s sh.loc) s with
  |s=>q5I sh.loc (q88 sh.env s))
def q6Y {R:Type} (sh:SSh) (s:S) (K:List C→List Es→Option R):Option R:=
 frc (q8d sh s) fun s=>frc (z9r sh s) fun s=>frc (q4i sh.env (q8h sh.loc (z9M sh s))) fun s=>y0z sh s K
theorem y4N {R:Type} (sh:SSh) (s:S) (K:List C→List Es→Option R):q6Y sh s K=y0z sh (q4i sh.env (q8h sh.loc (z9M sh (z9r sh (q8d sh s))))) K:=by
 unfold q6Y
 simp only[z7d]
def WkA (s s':S):Prop:=s'.A=s.A∧∀(X:Cx) (n:Nat) (A':Key→Option O),leA s.A A'→q0g X n (s.wA A') (s'.wA A')
theorem WkA.refl (s:S):WkA s s:=⟨rfl,fun _ _ _ _=>q0g.refl _⟩
theorem WkA.trans {a b c:S} (h:WkA a b) (h':WkA b c):WkA a c:=
 ⟨h'.1.trans h.1,fun X n A' hA=>(h.2 X n A' hA).trans (h'.2 X n A' (by rw[h.1];exact hA))⟩
theorem z0r:∀(l:List (Key × OSh)) (s:S),WkA s (q8h l s)
 | [],s=>WkA.refl s
 |(k,.box _)::l,s=>by
  simp only[q8h]
  split
  ·rename_i x hx
   exact WkA.trans (b:=s.put k (.box x.q0D)) ⟨rfl,fun X n A' hA=>y0S (Q7 hA hx)⟩ (z0r l _)
  ·exact z0r l s
 |(_,.map _ _)::l,s|(_,.dead _)::l,s|(_,.it)::l,s=>z0r l s
theorem q3T:∀(l:List (Nat × Sh)) (s:S),WkA s (q4i l s)
 | [],s=>WkA.refl s
 |(i,sh)::l,s=>by
  simp only[q4i]
  split
  ·rename_i eb e t
   have one:∀(hu:s.known t=false) (ht:s.get i= .nilc∨s.get i= .emp eb e),WkA s (S.set {s with tk:=(t,some 0)::s.tk} (some i) (.sl eb e [] t)):=fun hu ht=>
    ⟨rfl,fun X n A' hA=>y2f (s:=s.wA A') hu ht⟩
   split
   ·rename_i hx
    split
    ·rename_i hu
     exact(one hu (.inl hx)).trans (q3T l _)
    ·exact q3T l s
   ·rename_i eb' e' hx
    split
    ·rename_i hu
     obtain⟨rfl,rfl,hu⟩:=hu
     exact(one hu (.inr hx)).trans (q3T l _)
    ·exact q3T l s
   ·exact q3T l s
  ·exact q3T l s
theorem y4c (sh:SSh) (s:S):WkA s (z9M sh s):=by
 unfold z9M
 dsimp only
 generalize z5A s sh.loc 1000 (z9u s sh.env++unG s sh.loc sh.loc) []=ps
 generalize z5z s sh.env=ts
 cases z3m ps&&z3m ts&& !q9b s sh.env
 ·cases hi:q8a (z4d ps) (q00 s.loc)&&q8a (z4d ts) (q0X s.tk)
  ·exact WkA.refl s
  ·simp only[Bool.and_eq_true]at hi
   exact⟨rfl,fun X n A' _=>y2g (s:=s.wA A') _ _ hi.1 hi.2⟩
 ·exact WkA.refl s
theorem z45 (ks:List Key):∀(l:List (Key × Nat)) (s:S),WkA s (z7V ks l s)
 | [],s=>WkA.refl s
 |(K,t)::l,s=>WkA.trans (b:=q93 K t ks s) (y18 K t ks s) (z45 ks l _)
theorem y4Q {X:Cx} {n:Nat} {Γ0:G} {t:Nat} {e:Ty} {a:Act} {w:World} {s:S} (ht:s.obj (.l t)=none) (h:At X n Γ0 s a w):At X n Γ0 (s.put (.l t) (.box (.d (.arr 0 e) (.agg [])))) a w:=by
 obtain⟨Γ,g1,g3,c,hs,hn,hf,hA⟩:=h
 refine⟨Γ,g1,g3,⟨c.hH,c.hZ,c.hκ,fun j o hj=>?_,fun j hj=>?_,c.q5a (fun j hj=>?_),c.tok,c.tdom,c.hgl,c.hoo,c.hσ⟩,hs,hn,hf,hA⟩
 ·rw[b8]at hj
  split at hj
  ·rename_i e1;subst e1;cases hj
   exact .inl ⟨c.q61 ht,e,rfl⟩
  ·exact c.obj j o hj
 ·rw[b8]
  split
  ·simp
  ·exact c.dom j hj
 ·unfold S.o6 at hj ⊢
  rw[b8]
  split
  ·rename_i e1;subst e1;rw[ht]at hj;cases hj
  ·exact hj
theorem q7L:∀(l:List (Nat × Ty)) (s:S),WkA s (q95 l s)
 | [],s=>WkA.refl s
 |(t,e)::l,s=>by
  simp only[q95]
  split
  ·rename_i h
   have h':s.obj (.l t)=none:=by simpa using h
   exact WkA.trans (b:=s.put (.l t) (.box (.d (.arr 0 e) (.agg [])))) ⟨rfl,fun X n A' hA Γ0 a w hat=>y4Q (s:=s.wA A') (by rw[q16];exact h') hat⟩ (q7L l _)
  ·exact q7L l s
theorem q9.U9 {Γ:G} {sh:Sh} {x:V} {v:Value} (h:q9 Γ x v):q9 Γ (V.U9 sh x) v:=by
 by_cases hp:x.plain=true
 ·obtain⟨h1,h2⟩:=(y8 hp).1 h
  exact(y8 (by rw[V.z1W];exact hp)).2 ⟨q8.U9 sh x h1,by rw[V.q63];exact h2⟩
 ·have:V.U9 sh x=x:=by
   cases x <;> simp[V.plain]at hp <;> (unfold V.U9;split <;> rfl)
  rw[this];exact h
theorem q9.q86 {Γ:G} {sh:Sh} {x:V} {v:Value} (h:q9 Γ x v):q9 Γ (V.q86 sh x) v:=by
 unfold V.q86
 split
 ·have:=Q6 h
  subst this
  exact z0O
 ·exact h.U9
theorem q87:∀(l:List (Nat × Sh)) (s:S),WkA s (q88 l s)
 | [],s=>WkA.refl s
 |(i,sh)::l,s=>by
  simp only[q88]
  split
  ·exact q87 l s
  ·refine WkA.trans (b:=s.set (some i) (V.q86 sh (s.get i))) ⟨rfl,fun X n A' hA Γ0 a w hat=>?_⟩ (WkA.trans (q7L _ _) (q87 l _))
   obtain⟨Γ,g1,g3,c,hs,hn,hf,hA⟩:=hat
   refine⟨Γ,g1,g3,show z8 Γ w ((s.wA A').set (some i) (V.q86 sh (s.get i))) from q6b c _ _,fun j=>?_,hn,hf,hA⟩
   have hj:=hs j
   show q9 Γ (S.get (S.set (s.wA A') (some i) (V.q86 sh (s.get i))) j) _
   rw[q2v]
   split
   ·rename_i e
    cases e
    exact q9.q86 hj
   ·exact hj
theorem q4E:∀(l:List (Key × OSh)) (s:S),WkA s (q5I l s)
 | [],s=>WkA.refl s
 |(k,.box sh)::l,s=>by
  simp only[q5I]
  split
  ·rename_i x hx
   split
   ·exact q4E l s
   ·refine WkA.trans (b:=s.put k (.box (V.U9 sh x))) ⟨rfl,fun X n A' hA Γ0 a w hat=>?_⟩ (WkA.trans (q7L _ _) (q4E l _))
    obtain⟨Γ,g1,g3,c,hs,hn,hf,hAok⟩:=hat
    refine⟨Γ,g1,g3,c.z9F (Q7 hA hx) (fun hown=>?_) (fun hv=>?_),hs,hn,hf,hAok⟩
    ·obtain⟨b,cells,T,h1,h2,h3,h4,h5,h6,h7,h8⟩:=hown
     exact⟨b,cells,T,by rw[V.q63];exact h1,h2,h3,h4,by rw[V.q63];exact h5,by rw[V.q63];exact q8.U9 sh x h6,by rw[V.z1W];exact h7,by rw[V.z4l];exact h8⟩
    ·obtain⟨e,rfl⟩:=hv
     have:V.U9 sh (.d (.arr 0 e) (.agg []))= .d (.arr 0 e) (.agg []):=by unfold V.U9;split <;> rfl
     rw[this];exact⟨e,rfl⟩
  ·exact q4E l s
 |(_,.map _ _)::l,s|(_,.dead _)::l,s|(_,.it)::l,s=>q4E l s
theorem y3Z (sh:SSh) (s:S):WkA s (z9r sh s):=by
 unfold z9r
 split
 ·exact WkA.refl s
 ·exact((z45 _ _ s).trans (q87 _ _)).trans (q4E _ _)
theorem y4v (sh:SSh) (s:S):WkA s (q8d sh s):=by
 refine⟨?_,fun X n A' hA Γ0 a w hat=>?_⟩
 ·unfold q8d
  split
  ·rfl
  ·rw[(q8e _ _ _).2.2,(q4S _ _).2]
 ·rw[←y4u]
  exact y5A hat
def nbV:V→V
 | .d τ c=>(match τ with
  | .bool=>.d .bool (.bool c.toBool)
  |τ=>.d τ c)
 |x=>x
def nbE:List (Nat × V)→List (Nat × V)
 | []=>[]
 |(i,x)::l=>(i,nbV x)::nbE l
def nbS (s:S):S:={s with env:=nbE s.env}
theorem y4f {Γ:G} {x:V} {v:Value} (h:q9 Γ x v):q9 Γ (nbV x) v:=by
 cases x <;> (try exact h)
 rename_i τ c
 cases τ <;> (try exact h)
 obtain⟨_,e⟩:=Z2 h
 rw[e]at h
 exact h
theorem z6S:∀(l:List (Nat × V)) (i:Nat),look (nbE l) i=(look l i).map nbV
 | [],_=>rfl
 |(j,x)::l,i=>by
  simp only[nbE,look]
  by_cases e:j=i
  ·rw[if_pos e,if_pos e];rfl
  ·rw[if_neg e,if_neg e];exact z6S l i
theorem y1c (s:S):WkA s (nbS s):=by
 refine⟨rfl,fun X n A' _=>?_⟩
 rintro Γ0 a w ⟨Γ,g1,g3,c,hs,hn,hf,hA⟩
 refine⟨Γ,g1,g3,c.env _,fun i=>?_,hn,hf,hA⟩
 have:=hs i
 have e:((nbS s).wA A').get i=nbV ((s.wA A').get i):=by
  show(look (nbE s.env) i).getD .any=nbV ((look s.env i).getD .any)
  rw[z6S]
  cases look s.env i <;> rfl
 rw[e]
 exact y4f this
def q1T (sh:SSh) (A:Key→Option O) (ds:List C) (ms:List Es):S:=nbS (q5w sh A ds ms)
theorem q7I {R:Type} {r:R} {sh:SSh} {s:S} {K:List C→List Es→Option R} (h:q6Y sh s K=some r):∃ds ms,K ds ms=some r∧WkA s (q1T sh s.A ds ms):=by
 have key:∃ds ms,K ds ms=some r∧WkA s (q5w sh s.A ds ms):=by
  rw[y4N]at h
  obtain⟨ds,ms,h1,h2⟩:=y4M h
  have h3:=((((y4v sh s).trans (y3Z sh _)).trans (y4c sh _)).trans (z0r sh.loc _)).trans (q3T sh.env _)
  refine⟨ds,ms,h1,rfl,fun X n A' hA=>?_⟩
  have:=(h3.2 X n A' hA).trans (h2 X n A' (by rw[h3.1];exact hA))
  exact this
 obtain⟨ds,ms,h1,h2⟩:=key
 exact⟨ds,ms,h1,h2.trans (y1c _)⟩
def z6L (j:Nat):List Nat→List Nat
 | []=>[]
 |i::l=>if i=j then z6L j l else i::z6L j l
def fxS (t j:Nat) (s:S):S:=⟨q0B s (z6L t (slotsOf s.env)),q1m s.loc (z6L j (q00 s.loc)) s.loc,s.A,q0Q s (q0X s.tk)⟩
def fxB (t j:Nat) (s:S):Bool:=
 q3c (fxS t j s).loc&&q0z (j9 (fxS t j s).loc) (W0 (fxS t j s).tk) (fxS t j s).loc&&q3N (fxS t j s).loc s.loc&&q2J (j9 (fxS t j s).loc) (W0 (fxS t j s).tk) (fxS t j s).env&& !(j9 (fxS t j s).loc j)
def y23 (t:Nat) (s:S):S:=
 match s.get t with
 | .ptr (.l j) [] τ=>(match s.obj (.l j)with
  |some (.box x)=>(match s7 x with
   |some cc=>if x.ty=τ∧fxB t j s=true then(fxS t j s).set (some t) (.cptr τ cc)else s
   |none=>s)
  |_=>s)
 |_=>s
def y0A (t:Nat) (s:S):S:=
 match s.get t with
 | .ptr k [] _=>(match s.obj k with
  |some (.box x)=>(match x with
   | .d _ _=>s
   |x=>(match s7 x with
    |some c=>s.put k (.box (.d x.ty c))
    |none=>s))
  |_=>s)
 |_=>s
theorem y3r (t:Nat) (s:S):WkA s (y0A t s):=by
 unfold y0A
 split
 ·split
  ·rename_i x hx
   split
   ·exact WkA.refl s
   ·split
    ·rename_i c hc
     refine⟨rfl,fun X n A' hA Γ0 a w hat=>?_⟩
     obtain⟨Γ,g1,g3,cc,hs,hn,hf,hAok⟩:=hat
     have hin:V.u2 x (.d x.ty c):=by
      cases x <;> first|exact⟨hc,rfl⟩|(simp[s7]at hc)
     refine⟨Γ,g1,g3,cc.z9F (Q7 hA hx) (fun hown=>?_) (fun hv=>?_),hs,hn,hf,hAok⟩
     ·obtain⟨b,cells,T,h1,h2,h3,h4,h5,h6,h7,h8⟩:=hown
      exact⟨b,cells,T,h1,h2,h3,h4,h5,by have:=(q8.u2 _ _ hin h6).1;simp only[q8]at this ⊢;exact this,rfl,rfl⟩
     ·obtain⟨e,rfl⟩:=hv
      simp only[s7,Option.some.injEq]at hc
      subst hc
      exact⟨e,rfl⟩
    ·exact WkA.refl s
  ·exact WkA.refl s
 ·exact WkA.refl s
def y2P (t:Nat) (s:S):S:=
 match s.get t with
 | .sr (.l j) [] lo n _ eb e=>(match s.obj (.l j)with
  |some (.box (.d (.arr M e') cc))=>if e'=e then({s with loc:=(.l j,.dead (.arr M e))::s.loc}:S).set (some t) (.d (.slice eb e) (.slice ((cc.elems.drop lo).take n)))else s
  |_=>s)
 |_=>s
theorem y4l (t:Nat) (s:S):WkA s (y2P t s):=by
 unfold y2P
 split
 ·rename_i j lo n cp eb e hs
  split
  ·rename_i M e' cc ho
   split
   ·rename_i he
    subst he
    refine⟨rfl,fun X n' A' hA Γ0 a w hat=>?_⟩
    obtain⟨Γ,g1,g3,c,hsl,hn,hf,hAok⟩:=hat
    obtain⟨Γ',gle,p,c',h⟩:=c.y5s (show(s.wA A').obj (.l j)=some (.box (.d (.arr M _) cc)) from ho)
    have hrep:=hsl t
    rw[show(s.wA A').get t=_ from hs]at hrep
    have hv:=h hrep
    refine⟨Γ',g1.trans gle,gle.gl.trans g3,q6b (s:=(({s with loc:=(.l j,.dead (.arr M _))::s.loc}:S).wA A')) c' (some t) _,fun i=>?_,hn,hf,hAok⟩
    rw[show((({s with loc:=(.l j,.dead (.arr M _))::s.loc}:S).set (some t) (.d (.slice eb _) (.slice ((cc.elems.drop lo).take n)))).wA A').get i=(({s with loc:=(.l j,.dead (.arr M _))::s.loc}:S).set (some t) (.d (.slice eb _) (.slice ((cc.elems.drop lo).take n)))).get i from rfl,q2v]
    split
    ·rename_i hi
     cases hi
     exact hv
    ·exact(hsl i).o8 p
   ·exact WkA.refl s
  ·exact WkA.refl s
 ·exact WkA.refl s
def z3X:List (Nat × Nat)→S→S
 | [],s=>s
 |(t,m)::l,s=>z3X l (if m=6 then y23 t s else if m=16 then y0A t s else if m=17 then y2P (t-1000000) s else s)
theorem y4w (t:Nat) (s:S):WkA s (y23 t s):=by
 unfold y23
 split
 ·rename_i j τ hs
  split
  ·rename_i x hx
   split
   ·rename_i cc hcc
    split
    ·rename_i h
     obtain⟨hτ,h⟩:=h
     simp only[fxB,Bool.and_eq_true,Bool.not_eq_true']at h
     obtain⟨⟨⟨⟨h1,h2⟩,h3⟩,h4⟩,h5⟩:=h
     refine⟨rfl,fun X n A' hA=>?_⟩
     have henv:∀l,q0B (s.wA A') l=q0B s l:=by
      intro l
      induction l with
      |nil=>rfl
      |cons i l ih=>simp only[q0B,ih];rfl
     have htk:∀l,q0Q (s.wA A') l=q0Q s l:=by
      intro l
      induction l with
      |nil=>rfl
      |cons i l ih=>simp only[q0Q,ih];rfl
     exact z71 (s:=s.wA A') (s':=(fxS t j s).wA A') hs (Q7 hA hx) hcc hτ h5 rfl (q23 (s:=s.wA A') _ h1) h2 (q4f h3)
      (by show tkW (s.wA A') (q0Q s (q0X s.tk));rw[←htk];exact z1Y)
      (by
       have h4':q2J (j9 (fxS t j s).loc) (W0 (fxS t j s).tk) (q0B (s.wA A') (z6L t (slotsOf s.env)))=true:=by rw[henv];exact h4
       have:=z3Z h4'
       rw[henv]at this
       exact this)
    ·exact WkA.refl s
   ·exact WkA.refl s
  ·exact WkA.refl s
 ·exact WkA.refl s
theorem q7z:∀(l:List (Nat × Nat)) (s:S),WkA s (z3X l s)
 | [],s=>WkA.refl s
 |(t,m)::l,s=>by
  simp only[z3X]
  split
  ·exact(y4w t s).trans (q7z l _)
  ·split
   ·exact(y3r t s).trans (q7z l _)
   ·split
    ·exact(y4l _ s).trans (q7z l _)
    ·exact q7z l s
end Go.E
namespace Go.E
open Go
abbrev KD (R:Type):=List C→List Es→Option R
theorem y1j {α:Type} (_:String) (a:α):∃b,b=a:=⟨a,rfl⟩
noncomputable def lid {α:Type} (n:String) (a:α):α:=Classical.choose (y1j n a)
theorem Z8 {α:Type} (n:String) (a:α):lid n a=a:=Classical.choose_spec (y1j n a)
noncomputable def jn {R:Type}:KD R→(KD R→Option R)→Option R:=lid "" fun k b=>b k
theorem p9 {R:Type} (k:KD R) (b:KD R→Option R):jn k b=b k:=by unfold jn;rw[Z8]
def y3J {R:Type}:Nat→(KD R→List C→List Es→Option R)→List C→List Es→Option R
 |0,_,_,_=>none
 |n+1,F,ds,ms=>F (y3J n F) ds ms
noncomputable def Y1 {R:Type}:Nat→(KD R→List C→List Es→Option R)→List C→List Es→Option R:=lid "" y3J
theorem z2y {R:Type} (F:KD R→List C→List Es→Option R) (ds:List C) (ms:List Es):Y1 0 F ds ms=none:=by unfold Y1;rw[Z8];rfl
theorem q5q {R:Type} (n:Nat) (F:KD R→List C→List Es→Option R) (ds:List C) (ms:List Es):Y1 (n+1) F ds ms=F (Y1 n F) ds ms:=by unfold Y1;rw[Z8];rfl
abbrev Hints:=List (List Nat × Hint)
def q55:Hints→List Nat→Option Hint
 | [],_=>none
 |(q,h)::l,p=>if q=p then some h else q55 l p
noncomputable def exJ {R:Type} (h:Option Hint) (s:S) (K:S→Option R) (body:(S→Option R)→Option R):Option R:=
 match h with
 |none=>body K
 |some h=>z2K (y2K h s) fun sh=>jn (fun ds ms=>K (q1T sh s.A ds ms)) fun k=>body fun s1=>q6Y sh s1 k
theorem z2S {R:Type} {r:R} {h:Option Hint} {s:S} {K:S→Option R} {body:(S→Option R)→Option R} {P:S→Prop} {G:Prop} (hP:∀s1 s2,P s1→WkA s1 s2→P s2) (hA:∀s1,P s1→s1.A=s.A) (hj:exJ h s K body=some r)
  (hb:∀k:S→Option R,body k=some r→(∃s1,k s1=some r∧P s1)∨G):(∃s2,K s2=some r∧P s2)∨G:=by
 unfold exJ at hj
 split at hj
 ·exact hb _ hj
 ·rename_i h'
  rw[z1I,p9]at hj
  rcases hb _ hj with⟨s1,h1,h2⟩|hg
  ·obtain⟨ds,ms,h3,h4⟩:=q7I h1
   rw[hA s1 h2]at h4
   exact .inl ⟨_,h3,hP _ _ h2 h4⟩
  ·exact .inr hg
def q2d:Code→Option (List Code × Nat × Code)
 | .seq a b=>(match a with
  | .label l=>some ([],l,b)
  |a=>(match q2d b with
   |some x=>some (a::x.1,x.2)
   |none=>none))
 |_=>none
def z0f (l:Nat):List Code→Bool
 | []=>true
 |a::as=>(match findLabel a l with
  |some _=>false
  |none=>z0f l as)
theorem z04:∀(c:Code) {as:List Code} {r:Code} {l:Nat},q2d c=some (as,l,r)→z0f l as=true→findLabel c l=some (.seq .skip r)
 | .seq a b,as,r,l,h,hn=>by
  unfold q2d at h
  split at h
  ·cases h;simp[findLabel]
  ·split at h
   ·rename_i x hx
    obtain⟨as',l',r'⟩:=x
    cases h
    simp only[z0f]at hn
    simp only[findLabel]
    cases ha:findLabel a l with
    |some y=>rw[ha]at hn;cases hn
    |none=>rw[ha]at hn;exact z04 b hx hn
   ·cases h
 | .skip,_,_,_,h,_| .region _ _ _,_,_,_,h,_| .cond _ _ _,_,_,_,h,_| .block _ _,_,_,_,h,_| .loop _,_,_,_,h,_| .exit _,_,_,_,h,_| .scope _,_,_,_,h,_| .label _,_,_,_,h,_| .goto _,_,_,_,h,_| .ret,_,_,_,h,_| .rangeFunc _ _ _ _,_,_,_,h,_| .refuse _,_,_,_,h,_=>by simp[q2d]at h
def z0o {R:Type} (run:List Nat→Code→S→KE R→Option R):List Code→List Nat→S→(S→Option R)→KE R→Option R
 | [],_,s,k,_=>k s
 |a::l,p,s,k,K=>run (0::p) a s fun e s1=>match e with
  | .normal=>frc s1 fun s1=>z0o run l (1::p) s1 k K
  |e=>K e s1
noncomputable def exC {R:Type} (X:Cx) (call:U7 R) (ext:q0w) (tbl:Nat→List (Nat × Nat)) (hs:Hints) (N:Nat) (n:Nat):Nat→List Nat→Code→S→KE R→Option R
 |0,_,_,_,_=>none
 |f+1,p,c,s,K=>match c with
  | .skip=>K .normal s
  | .region id ops draw=>exJ (q55 hs p) (z3X (tbl id) s) (fun s=>K .normal s) fun k=>y0q X call ext (tbl id) n ops.toList draw (z3X (tbl id) s) k
  | .seq a b=>exC X call ext tbl hs N n f (0::p) a s fun e s1=>match e with
    | .normal=>frc s1 fun s1=>exC X call ext tbl hs N n f (1::p) b s1 K
    |e=>K e s1
  | .cond (.tmp t) a b=>exJ (q55 hs p) s (fun s=>K .normal s) fun k=>(match s.get t with
    | .d .bool c=>bif c.toBool then exC X call ext tbl hs N n f (2::p) a (s.lit t c true) fun e s1=>(match e with
      | .normal=>k s1
      |e=>K e s1)else exC X call ext tbl hs N n f (3::p) b (s.lit t c false) fun e s1=>(match e with
      | .normal=>k s1
      |e=>K e s1)
    |_=>none)
  | .block id a=>exJ (q55 hs p) s (fun s=>K .normal s) fun k=>exC X call ext tbl hs N n f (4::p) a s fun e s1=>match e with
     | .exit i=>if i=id then k s1 else K (.exit i) s1
     | .normal=>k s1
     |e=>K e s1
  | .loop a=>(match q55 hs p with
    |none=>q9T (exC X call ext tbl hs N n f (5::p) a) (slotsOf s.env) f s K
    |some h=>z2K (y2K h s) fun sh=>q6Y sh s fun ds ms=>Y1 N (fun rec ds ms=>exC X call ext tbl hs N n f (5::p) a (q1T sh s.A ds ms) fun e s1=>match e with
      | .normal=>q6Y sh s1 rec
      |e=>K e s1) ds ms)
  | .exit id=>K (.exit id) s
  | .scope a=>(match q55 hs p with
    |none=>exC X call ext tbl hs N n f (6::p) a s fun e s1=>match e with
     | .goto _=>none
     |e=>K e s1
    |some h=>(match q2d a with
     |some (as,l,rest)=>if z0f l as=true then z0o (exC X call ext tbl hs N n f) as (6::p) s
       (fun s1=>z2K (y2K h s1) fun sh=>q6Y sh s1 fun ds ms=>Y1 N (fun rec ds ms=>exC X call ext tbl hs N n f (7::p) rest (q1T sh s1.A ds ms) fun e s2=>match e with
        | .goto l'=>if l'=l then q6Y sh s2 rec else none
        |e=>K e s2) ds ms)
       (fun e s1=>match e with
        | .goto _=>none
        |e=>K e s1)else none
     |none=>none))
  | .label _=>K .normal s
  | .goto l=>K (.goto l) s
  | .ret=>K .ret s
  |_=>none
def Way (X:Cx) (n:Nat) (c:Code) (s:S) (e:Exit) (s':S):Prop:=
 s'.A=s.A∧∀A',leA s.A A'→∀Ψ:Exit→S→Prop,Ψ e (s'.wA A')→DC X n c (s.wA A') Ψ
theorem Way.q83 {X:Cx} {n:Nat} {c:Code} {s s1 s2:S} {e:Exit} (h:Way X n c s e s1) (hw:WkA s1 s2):Way X n c s e s2:=by
 refine⟨hw.1.trans h.1,fun A' hA Ψ hΨ=>?_⟩
 refine(h.2 A' hA (fun e1 s3=>e1=e∧s3=s1.wA A') ⟨rfl,rfl⟩).post ?_
 rintro e1 s3 ⟨rfl,rfl⟩
 exact⟨_,hw.2 X n A' (by rw[h.1];exact hA),hΨ⟩
section
variable {X:Cx} {R:Type} {call:U7 R} {ext:q0w} (hP:x4 X.P=true) (hmo:X.P.follows .mixedOrders=true) (hc:q1K X call) (he:q2h X ext)
theorem z6Q {c:Code} {n:Nat} {sh:SSh} {A0:Key→Option O} {body:S→KE R→Option R} {K:KE R} {r:R} (hb:∀s (K:KE R),body s K=some r→z1R X n c s r K):
  ∀(N:Nat) (ds:List C) (ms:List Es),Y1 N (fun rec ds ms=>body (q1T sh A0 ds ms) fun e s1=>match e with
      | .normal=>q6Y sh s1 rec
      |e=>K e s1) ds ms=some r→∃e s',K e s'=some r∧s'.A=A0∧∀A',leA A0 A'→∀Ψ:Exit→S→Prop,Ψ e (s'.wA A')→∀(Γ0:G) (a:Act) (w:World),At X n Γ0 ((q1T sh A0 ds ms).wA A') a w→Code.rounds X.P c (fun e a w=>∃s',Ψ e s'∧At X n Γ0 s' a w) N a w
 |0,ds,ms,h=>by simp[z2y]at h
 |N+1,ds,ms,h=>by
  simp only[q5q]at h
  obtain⟨e0,s1,h1,hA1,hD⟩:=hb _ _ h
  have hother:∀(hne:e0≠.normal),K e0 s1=some r→∃e s',K e s'=some r∧s'.A=A0∧∀A',leA A0 A'→∀Ψ:Exit→S→Prop,Ψ e (s'.wA A')→∀(Γ0:G) (a:Act) (w:World),At X n Γ0 ((q1T sh A0 ds ms).wA A') a w→Code.rounds X.P c (fun e a w=>∃s',Ψ e s'∧At X n Γ0 s' a w) (N+1) a w:=by
   intro hne h1
   refine⟨e0,s1,h1,hA1,fun A' hA Ψ hΨ Γ0 a w hat=>?_⟩
   rw[rounds_succ]
   refine wp_mono (hD A' hA (fun e1 s2=>e1=e0∧s2=s1.wA A') ⟨rfl,rfl⟩ Γ0 a w hat) ?_
   rintro e1 a1 w1 ⟨s2,⟨rfl,rfl⟩,hat1⟩
   cases e1 with
   |normal=>exact absurd rfl hne
   |exit _|goto _|ret|panic _|outgrown=>exact⟨_,hΨ,hat1⟩
  cases e0 with
  |normal=>
   obtain⟨ds',ms',h3,hw⟩:=q7I h1
   rw[show s1.A=A0 from hA1]at hw
   obtain⟨e,s',h4,h5,h6⟩:=z6Q hb N ds' ms' h3
   refine⟨e,s',h4,h5,fun A' hA Ψ hΨ Γ0 a w hat=>?_⟩
   rw[rounds_succ]
   refine wp_mono (hD A' hA (fun e1 s2=>e1= .normal∧s2=s1.wA A') ⟨rfl,rfl⟩ Γ0 a w hat) ?_
   rintro e1 a1 w1 ⟨s2,⟨rfl,rfl⟩,hat1⟩
   exact h6 A' hA Ψ hΨ Γ0 a1 w1 (hw.2 X n A' (by rw[show s1.A=A0 from hA1];exact hA) Γ0 a1 w1 hat1)
  |exit _|goto _|ret|panic _|outgrown=>exact hother (by simp) h1
theorem z2R {n:Nat} {r:R} {run:List Nat→Code→S→KE R→Option R} (hrun:∀p c s (K:KE R),run p c s K=some r→z1R X n c s r K):∀(as:List Code) (p:List Nat) (s:S) (k:S→Option R) (K:KE R),z0o run as p s k K=some r→
  (∃s1,k s1=some r∧s1.A=s.A∧∀c l rest,q2d c=some (as,l,rest)→∀A',leA s.A A'→∀Ψ:Exit→S→Prop,DC X n rest (s1.wA A') Ψ→DC X n c (s.wA A') Ψ)∨
  (∃e s1,e≠.normal∧K e s1=some r∧s1.A=s.A∧∀c l rest,q2d c=some (as,l,rest)→∀A',leA s.A A'→∀Ψ:Exit→S→Prop,Ψ e (s1.wA A')→DC X n c (s.wA A') Ψ)
 | [],p,s,k,K,h=>by
  refine .inl ⟨s,h,rfl,fun c l rest hc A' hA Ψ hd=>?_⟩
  cases c <;> simp only[q2d,reduceCtorEq]at hc
  rename_i a b
  split at hc
  ·cases hc
   exact q6a (z7G hd)
  ·split at hc
   ·cases hc
   ·cases hc
 |a::as,p,s,k,K,h=>by
  simp only[z0o]at h
  obtain⟨e,s1,h1,a1,d1⟩:=hrun _ _ _ _ h
  have inv:∀c l rest,q2d c=some (a::as,l,rest)→∃b,c= .seq a b∧q2d b=some (as,l,rest):=by
   intro c l rest hc
   cases c <;> simp only[q2d,reduceCtorEq]at hc
   split at hc
   ·cases hc
   ·split at hc
    ·rename_i x hx
     obtain⟨x1,x2⟩:=x
     cases hc
     exact⟨_,rfl,hx⟩
    ·cases hc
  cases e with
  |normal=>
   rcases z2R hrun as (1::p) s1 k K (by dsimp only at h1;rw[z7d]at h1;exact h1)with⟨s2,h2,a2,d2⟩|⟨e,s2,hne,h2,a2,d2⟩
   ·refine .inl ⟨s2,h2,a2.trans a1,fun c l rest hc A' hA Ψ hd=>?_⟩
    obtain⟨b,rfl,hb⟩:=inv c l rest hc
    exact q6a (d1 A' hA _ (d2 b l rest hb A' (by rw[a1];exact hA) Ψ hd))
   ·refine .inr ⟨e,s2,hne,h2,a2.trans a1,fun c l rest hc A' hA Ψ hd=>?_⟩
    obtain⟨b,rfl,hb⟩:=inv c l rest hc
    exact q6a (d1 A' hA _ (d2 b l rest hb A' (by rw[a1];exact hA) Ψ hd))
  |exit _|goto _|ret|panic _|outgrown=>
   refine .inr ⟨_,s1,by simp,h1,a1,fun c l rest hc A' hA Ψ hd=>?_⟩
   obtain⟨b,rfl,hb⟩:=inv c l rest hc
   exact q6a (d1 A' hA _ hd)
def Ends (X:Cx) (n:Nat) (l:Nat) (rest:Code) (sh:SSh) (A0:Key→Option O) (e:Exit) (s':S):Nat→List C→List Es→Prop
 |0,_,_=>False
 |m+1,ds,ms=>∃e2 s2,Way X n rest (q1T sh A0 ds ms) e2 s2∧((e2= .goto l∧∃ds' ms',WkA s2 (q1T sh A0 ds' ms')∧Ends X n l rest sh A0 e s' m ds' ms')∨((∀l',e2≠.goto l')∧e2=e∧s2=s'))
theorem z4o {n l:Nat} {rest:Code} {sh:SSh} {A0:Key→Option O} {body:S→KE R→Option R} {K:KE R} {r:R} (hb:∀s (K:KE R),body s K=some r→z1R X n rest s r K):
  ∀(N:Nat) (ds:List C) (ms:List Es),Y1 N (fun rec ds ms=>body (q1T sh A0 ds ms) fun e s2=>match e with
      | .goto l'=>if l'=l then q6Y sh s2 rec else none
      |e=>K e s2) ds ms=some r→∃e s',K e s'=some r∧s'.A=A0∧(∀l',e≠.goto l')∧Ends X n l rest sh A0 e s' N ds ms
 |0,ds,ms,h=>by simp[z2y]at h
 |N+1,ds,ms,h=>by
  rw[q5q]at h
  obtain⟨e0,s1,h1,a1,d1⟩:=hb _ _ h
  have a1:s1.A=A0:=a1
  cases e0 with
  |goto l'=>
   dsimp only at h1
   by_cases hl:l'=l
   ·rw[if_pos hl]at h1
    subst hl
    obtain⟨ds',ms',h2,hw⟩:=q7I h1
    rw[a1]at hw
    obtain⟨e,s',h3,h4,h5,h6⟩:=z4o hb N ds' ms' h2
    exact⟨e,s',h3,h4,h5,_,s1,⟨a1,d1⟩,.inl ⟨rfl,ds',ms',hw,h6⟩⟩
   ·rw[if_neg hl]at h1;cases h1
  |normal|exit _|ret|panic _|outgrown=>
   exact⟨_,s1,h1,a1,by simp,_,s1,⟨a1,d1⟩,.inr ⟨by simp,rfl,rfl⟩⟩
theorem y2x {n l:Nat} {c rest:Code} {sh:SSh} {A0:Key→Option O} {e:Exit} {s':S} (hf:findLabel c l=some (.seq .skip rest)) {N:Nat} {ds:List C} {ms:List Es} (hE:Ends X n l rest sh A0 e s' N ds ms) {A':Key→Option O} (hA:leA A0 A') {s0:S}
  (first:∀Ψ:Exit→S→Prop,DC X n rest ((q1T sh A0 ds ms).wA A') Ψ→DC X n c s0 Ψ) {Ψ:Exit→S→Prop} (hΨ:Ψ e (s'.wA A')):DC X n (.scope c) s0 Ψ:=by
 have pass:∀i:{x:Nat × List C × List Es // Ends X n l rest sh A0 e s' x.1 x.2.1 x.2.2},DC X n rest ((q1T sh A0 i.1.2.1 i.1.2.2).wA A') fun e2 s2=>match e2 with
   | .goto l'=>l'=l∧∃j:{x:Nat × List C × List Es // Ends X n l rest sh A0 e s' x.1 x.2.1 x.2.2},q0g X n s2 ((q1T sh A0 j.1.2.1 j.1.2.2).wA A')∧j.1.1<i.1.1
   |e2=>Ψ e2 s2:=by
  rintro⟨⟨m,ds,ms⟩,h⟩
  cases m with
  |zero=>exact h.elim
  |succ m=>
   obtain⟨e2,s2,hw,h1⟩:=h
   refine hw.2 A' hA _ ?_
   rcases h1 with⟨rfl,ds',ms',hwk,hE'⟩|⟨hne,rfl,rfl⟩
   ·exact⟨rfl,⟨⟨m,ds',ms'⟩,hE'⟩,hwk.2 X n A' (by rw[hw.1];exact hA),Nat.lt_succ_self m⟩
   ·cases e2 with
    |goto l'=>exact absurd rfl (hne l')
    |normal|exit _|ret|panic _|outgrown=>exact hΨ
 refine y3l l hf (fun i=>(q1T sh A0 i.1.2.1 i.1.2.2).wA A') (fun i=>i.1.1) ?_ (fun i=>q6a (z9i (pass i)))
 refine first _ ((pass ⟨⟨N,ds,ms⟩,hE⟩).post ?_)
 intro e2 s2 h
 refine⟨s2,q0g.refl _,?_⟩
 cases e2 with
 |goto l'=>exact⟨h.1,h.2.choose,h.2.choose_spec.1⟩
 |normal|exit _|ret|panic _|outgrown=>exact h
include hP hmo hc he
theorem y1G {tbl:Nat→List (Nat × Nat)} {hs:Hints} {N n:Nat} {r:R}:∀(f:Nat) (p:List Nat) (c:Code) (s:S) (K:KE R),exC X call ext tbl hs N n f p c s K=some r→z1R X n c s r K
 |0,p,c,s,K,h=>by simp[exC]at h
 |f+1,p,c,s,K,h=>by
  have IH:=y1G (tbl:=tbl) (hs:=hs) (N:=N) (n:=n) (r:=r) f
  cases c with
  |skip=>exact⟨_,_,h,rfl,fun A' hA Ψ hΨ=>z9i hΨ⟩
  |region id ops draw=>
   simp only[exC]at h
   have hw:=q7z (tbl id) s
   have:=z2S (P:=fun s1=>Way X n (.region id ops draw) (z3X (tbl id) s) .normal s1) (G:=False) (fun s1 s2 h1 h2=>h1.q83 h2) (fun s1 h=>h.1) h fun k hk=>by
    obtain⟨s',h1,h2,h3⟩:=y3e hP hmo hc he (id:=id) hk
    refine .inl ⟨s',h1,h2,fun A' hA Ψ hΨ=>?_⟩
    have:=h3 A' hA Ψ hΨ
    simpa using this
   rcases this with⟨s2,h1,h2⟩|h
   ·exact⟨_,s2,h1,h2.1.trans hw.1,fun A' hA Ψ hΨ=>DC.q83 (hw.2 X n A' hA) (h2.2 A' (by rw[hw.1];exact hA) Ψ hΨ)⟩
   ·exact h.elim
  |seq c1 c2=>
   simp only[exC]at h
   obtain⟨e0,s1,h1,a1,d1⟩:=IH _ c1 s _ h
   cases e0 with
   |normal=>
    obtain⟨e2,s2,h2,a2,d2⟩:=IH (1::p) c2 s1 K (by dsimp only at h1;rw[z7d]at h1;exact h1)
    exact⟨e2,s2,h2,a2.trans a1,fun A' hA Ψ hΨ=>q6a (d1 A' hA _ (d2 A' (by rw[a1];exact hA) Ψ hΨ))⟩
   |exit _|goto _|ret|panic _|outgrown=>exact⟨_,s1,h1,a1,fun A' hA Ψ hΨ=>q6a (d1 A' hA _ hΨ)⟩
  |cond t c1 c2=>
   cases t with
   |tmp t=>
    simp only[exC]at h
    have:=z2S (P:=fun s1=>Way X n (.cond (.tmp t) c1 c2) s .normal s1) (G:=z1R X n (.cond (.tmp t) c1 c2) s r K) (fun s1 s2 h1 h2=>h1.q83 h2) (fun s1 h=>h.1) h fun k hk=>by
     split at hk
     ·rename_i v hv
      cases hb:v.toBool with
      |true=>
       rw[hb]at hk
       simp only[cond_true]at hk
       rw[z6T hv hb]at hk
       obtain⟨e2,s2,h2,a2,d2⟩:=IH _ c1 s _ hk
       have w2:Way X n (.cond (.tmp t) c1 c2) s e2 s2:=⟨a2,fun A' hA Ψ hΨ=>z7H hv (fun _=>d2 A' hA Ψ hΨ) (fun h=>by rw[hb]at h;cases h)⟩
       cases e2 with
       |normal=>exact .inl ⟨s2,h2,w2⟩
       |exit _|goto _|ret|panic _|outgrown=>exact .inr ⟨_,s2,h2,w2⟩
      |false=>
       rw[hb]at hk
       simp only[cond_false]at hk
       rw[z6T hv hb]at hk
       obtain⟨e2,s2,h2,a2,d2⟩:=IH _ c2 s _ hk
       have w2:Way X n (.cond (.tmp t) c1 c2) s e2 s2:=⟨a2,fun A' hA Ψ hΨ=>z7H hv (fun h=>by rw[hb]at h;cases h) (fun _=>d2 A' hA Ψ hΨ)⟩
       cases e2 with
       |normal=>exact .inl ⟨s2,h2,w2⟩
       |exit _|goto _|ret|panic _|outgrown=>exact .inr ⟨_,s2,h2,w2⟩
     ·cases hk
    rcases this with⟨s2,h1,h2⟩|h
    ·exact⟨_,s2,h1,h2⟩
    ·exact h
   |const _|global _|func _=>simp[exC]at h
  |block id c1=>
   simp only[exC]at h
   have:=z2S (P:=fun s1=>Way X n (.block id c1) s .normal s1) (G:=z1R X n (.block id c1) s r K) (fun s1 s2 h1 h2=>h1.q83 h2) (fun s1 h=>h.1) h fun k hk=>by
    obtain⟨e0,s1,h1,a1,d1⟩:=IH _ c1 s _ hk
    cases e0 with
    |exit i=>
     dsimp only at h1
     by_cases hi:i=id
     ·rw[if_pos hi]at h1
      refine .inl ⟨s1,h1,a1,fun A' hA Ψ hΨ=>q8t (d1 A' hA _ ?_)⟩
      simp only
      rw[if_pos hi];exact hΨ
     ·rw[if_neg hi]at h1
      refine .inr ⟨_,s1,h1,a1,fun A' hA Ψ hΨ=>q8t (d1 A' hA _ ?_)⟩
      simp only
      rw[if_neg hi];exact hΨ
    |normal=>exact .inl ⟨s1,h1,a1,fun A' hA Ψ hΨ=>q8t (d1 A' hA _ hΨ)⟩
    |goto _|ret|panic _|outgrown=>exact .inr ⟨_,s1,h1,a1,fun A' hA Ψ hΨ=>q8t (d1 A' hA _ hΨ)⟩
   rcases this with⟨s2,h1,h2⟩|h
   ·exact⟨_,s2,h1,h2⟩
   ·exact h
  |loop c1=>
   simp only[exC]at h
   split at h
   ·obtain⟨e,s',h1,h2,h3⟩:=z4U (fun s K h=>IH _ c1 s K h) f s K h
    exact⟨e,s',h1,h2,fun A' hA Ψ hΨ Γ0 a w hat=>wp_loop_rounds f (h3 A' hA Ψ hΨ Γ0 a w hat)⟩
   ·rename_i hh
    rw[z1I]at h
    obtain⟨ds,ms,h1,hw⟩:=q7I h
    obtain⟨e,s',h4,h5,h6⟩:=z6Q (c:=c1) (body:=exC X call ext tbl hs N n f (5::p) c1) (fun s K h=>IH _ c1 s K h) N ds ms h1
    exact⟨e,s',h4,h5,fun A' hA Ψ hΨ Γ0 a w hat=>wp_loop_rounds N (h6 A' hA Ψ hΨ Γ0 a w (hw.2 X n A' hA Γ0 a w hat))⟩
  |exit id=>exact⟨_,_,h,rfl,fun A' hA Ψ hΨ=>y4L hΨ⟩
  |scope c1=>
   simp only[exC]at h
   split at h
   ·obtain⟨e0,s1,h1,a1,d1⟩:=IH _ c1 s _ h
    cases e0 with
    |goto i=>cases h1
    |normal|exit _|ret|panic _|outgrown=>exact⟨_,s1,h1,a1,fun A' hA Ψ hΨ=>q5j (d1 A' hA _ hΨ)⟩
   ·rename_i hh _
    split at h
    ·rename_i as l rest hd
     simp only[Option.ite_none_right_eq_some]at h
     obtain⟨hnl,h⟩:=h
     rcases z2R (fun p c s K h=>IH p c s K h) as _ s _ _ h with⟨s1,h1,a1,d1⟩|⟨e,s1,hne,h1,a1,d1⟩
     ·rw[z1I]at h1
      obtain⟨ds,ms,h2,hw⟩:=q7I h1
      obtain⟨e,s',h3,h4,h5,h6⟩:=z4o (rest:=rest) (body:=exC X call ext tbl hs N n f (7::p) rest) (fun s K h=>IH _ rest s K h) N ds ms h2
      refine⟨e,s',h3,h4.trans a1,fun A' hA Ψ hΨ=>?_⟩
      exact y2x (z04 _ hd hnl) h6 (by rw[a1];exact hA) (fun Ψ' hd'=>d1 c1 l rest hd A' hA Ψ' (DC.q83 (hw.2 X n A' (by rw[a1];exact hA)) hd')) hΨ
     ·cases e with
      |goto i=>cases h1
      |normal|exit _|ret|panic _|outgrown=>exact⟨_,s1,h1,a1,fun A' hA Ψ hΨ=>q5j (d1 c1 l rest hd A' hA _ hΨ)⟩
    ·cases h
  |label _=>exact⟨_,_,h,rfl,fun A' hA Ψ hΨ=>z7G hΨ⟩
  |goto _=>exact⟨_,_,h,rfl,fun A' hA Ψ hΨ=>y4K hΨ⟩
  |ret=>exact⟨_,_,h,rfl,fun A' hA Ψ hΨ=>y5y hΨ⟩
  |rangeFunc _ _ _ _=>simp[exC]at h
  |refuse _=>simp[exC]at h
end
noncomputable def exF {R:Type} (X:Cx) (ov:OvK R) (ext:q0w) (tbl:FuncId→Nat→List (Nat × Nat)) (hs:FuncId→Hints) (N fuel:Nat):Nat→U7 R
 |0,_,_,_,_=>none
 |d+1,f,xs,A,K=>match ov f with
  |some g=>g xs A K
  |none=>(match X.P.funcs[f]? with
   |some fn=>(match fn.body with
    |some c=>if xs.length≤fn.ntmps then exJ (q55 (hs f) [9]) (S.start xs A) (fun s=>y3S X fn s K) fun k=>exC X (exF X ov ext tbl hs N fuel d) ext (tbl f) (hs f) N fn.ntmps fuel [] c (nbS (S.start xs A)) fun e s=>(match e with
       | .normal=>k s
       | .ret=>k s
       |_=>none)else none
    |none=>none)
   |none=>none)
section
variable {X:Cx} {R:Type} {ov:OvK R} {ext:q0w} (hP:x4 X.P=true) (hmo:X.P.follows .mixedOrders=true) (hov:y0J X ov) (he:q2h X ext)
include hP hmo hov he
theorem y1F {tbl:FuncId→Nat→List (Nat × Nat)} {hs:FuncId→Hints} {N fuel:Nat}:∀d,q1K X (exF X ov ext tbl hs N fuel d)
 |0=>by intro f xs A K r h;simp[exF]at h
 |d+1=>by
  intro f xs A K r h
  simp only[exF]at h
  split at h
  ·rename_i g hg
   exact hov f g hg xs A K r h
  split at h
  ·rename_i fn hf
   split at h
   ·rename_i c hb
    simp only[Option.ite_none_right_eq_some]at h
    obtain⟨hl,h⟩:=h
    have:=z2S (P:=fun s1=>∃e:Exit,(e= .normal∨e= .ret)∧Way X fn.ntmps c (S.start xs A) e s1) (G:=False) (fun s1 s2 ⟨e,h1,h2⟩ h3=>⟨e,h1,h2.q83 h3⟩) (fun s1 ⟨e,_,h⟩=>h.1) h fun k hk=>by
     obtain⟨e,s',h1,h2⟩:=y1G hP hmo (y1F d) he fuel [] c (nbS (S.start xs A)) _ hk
     have h2:Way X fn.ntmps c (S.start xs A) e s':=⟨h2.1,fun A' hA Ψ hΨ=>DC.q83 ((y1c (S.start xs A)).2 X fn.ntmps A' hA) (h2.2 A' hA Ψ hΨ)⟩
     cases e with
     |normal=>exact .inl ⟨s',h1,_,.inl rfl,h2⟩
     |ret=>exact .inl ⟨s',h1,_,.inr rfl,h2⟩
     |exit _|goto _|panic _|outgrown=>cases h1
    rcases this with⟨s',h1,e,he',h2,h3⟩|h
    ·obtain⟨v,L,h4,h5⟩:=y3d h1
     refine⟨v,L,z7F hP hf hb rfl hl fun A' hA=>?_,h4⟩
     exact h3 A' hA (fun e s'=>(e= .normal∨e= .ret)∧z5B X fn A' v L s') ⟨he',h5 A' (by rw[h2];exact hA)⟩
    ·exact h.elim
   ·cases h
  ·cases h
end
end Go.E
namespace Go.E
open Go
def z0n:List (Nat × (List V→Option V))→q0w
 | [],_=>none
 |(i,g)::l,f=>bif Nat.beq f i then some g else z0n l f
def q4Z (X:Cx):List (Nat × (List V→Option V))→Prop
 | []=>True
 |p::l=>(∀xs v,p.2 xs=some v→z5T X p.1 xs v)∧q4Z X l
theorem z2Q {X:Cx}:∀{l:List (Nat × (List V→Option V))},q4Z X l→q2h X (z0n l)
 | [],_=>fun f g xs v h _=>by cases h
 |(i,g0)::l,h=>fun f g xs v hf hv=>by
  simp only[z0n]at hf
  cases hb:Nat.beq f i with
  |true=>
   rw[hb,cond_true]at hf
   cases hf
   obtain rfl:=Nat.eq_of_beq_eq_true hb
   exact h.1 xs v hv
  |false=>
   rw[hb,cond_false]at hf
   exact z2Q h.2 f g xs v hf hv
theorem q4Z.append {X:Cx}:∀{l m:List (Nat × (List V→Option V))},q4Z X l→q4Z X m→q4Z X (l++m)
 | [],_,_,h=>h
 |_::_,_,h,h'=>⟨h.1,h.2.append h'⟩
@[go_sem] theorem x7 {a0:C} {l:List C}:dk (a0::l) 0=a0:=rfl
@[go_sem] theorem Y4 {a0 a1:C} {l:List C}:dk (a0::a1::l) 1=a1:=rfl
@[go_sem] theorem Q5 {a0 a1 a2:C} {l:List C}:dk (a0::a1::a2::l) 2=a2:=rfl
@[go_sem] theorem X6 {a0 a1 a2 a3:C} {l:List C}:dk (a0::a1::a2::a3::l) 3=a3:=rfl
@[go_sem] theorem q5e {a0 a1 a2 a3 a4:C} {l:List C}:dk (a0::a1::a2::a3::a4::l) 4=a4:=rfl
@[go_sem] theorem q8p {a0 a1 a2 a3 a4 a5:C} {l:List C}:dk (a0::a1::a2::a3::a4::a5::l) 5=a5:=rfl
@[go_sem] theorem q8o {a0 a1 a2 a3 a4 a5 a6:C} {l:List C}:dk (a0::a1::a2::a3::a4::a5::a6::l) 6=a6:=rfl
@[go_sem] theorem q8n {a0 a1 a2 a3 a4 a5 a6 a7:C} {l:List C}:dk (a0::a1::a2::a3::a4::a5::a6::a7::l) 7=a7:=rfl
@[go_sem] theorem q8m {a0 a1 a2 a3 a4 a5 a6 a7 a8:C} {l:List C}:dk (a0::a1::a2::a3::a4::a5::a6::a7::a8::l) 8=a8:=rfl
@[go_sem] theorem z1M {a0 a1 a2 a3 a4 a5 a6 a7 a8 a9:C} {l:List C}:dk (a0::a1::a2::a3::a4::a5::a6::a7::a8::a9::l) 9=a9:=rfl
@[go_sem] theorem q8r {a0 a1 a2 a3 a4 a5 a6 a7 a8 a9 a10:C} {l:List C}:dk (a0::a1::a2::a3::a4::a5::a6::a7::a8::a9::a10::l) 10=a10:=rfl
@[go_sem] theorem q8q {a0 a1 a2 a3 a4 a5 a6 a7 a8 a9 a10 a11:C} {l:List C}:dk (a0::a1::a2::a3::a4::a5::a6::a7::a8::a9::a10::a11::l) 11=a11:=rfl
@[go_sem] theorem z5L {a0 a1 a2 a3 a4 a5 a6 a7 a8 a9 a10 a11 a12:C} {l:List C}:dk (a0::a1::a2::a3::a4::a5::a6::a7::a8::a9::a10::a11::a12::l) 12=a12:=rfl
@[go_sem] theorem z5K {a0 a1 a2 a3 a4 a5 a6 a7 a8 a9 a10 a11 a12 a13:C} {l:List C}:dk (a0::a1::a2::a3::a4::a5::a6::a7::a8::a9::a10::a11::a12::a13::l) 13=a13:=rfl
@[go_sem] theorem y3T {a0 a1 a2 a3 a4 a5 a6 a7 a8 a9 a10 a11 a12 a13 a14:C} {l:List C}:dk (a0::a1::a2::a3::a4::a5::a6::a7::a8::a9::a10::a11::a12::a13::a14::l) 14=a14:=rfl
@[go_sem] theorem y7d {a0 a1 a2 a3 a4 a5 a6 a7 a8 a9 a10 a11 a12 a13 a14 a15:C} {l:List C}:dk (a0::a1::a2::a3::a4::a5::a6::a7::a8::a9::a10::a11::a12::a13::a14::a15::l) 15=a15:=rfl
@[go_sem] theorem y7c {a0 a1 a2 a3 a4 a5 a6 a7 a8 a9 a10 a11 a12 a13 a14 a15 a16:C} {l:List C}:dk (a0::a1::a2::a3::a4::a5::a6::a7::a8::a9::a10::a11::a12::a13::a14::a15::a16::l) 16=a16:=rfl
@[go_sem] theorem y7b {a0 a1 a2 a3 a4 a5 a6 a7 a8 a9 a10 a11 a12 a13 a14 a15 a16 a17:C} {l:List C}:dk (a0::a1::a2::a3::a4::a5::a6::a7::a8::a9::a10::a11::a12::a13::a14::a15::a16::a17::l) 17=a17:=rfl
@[go_sem] theorem y7a {a0 a1 a2 a3 a4 a5 a6 a7 a8 a9 a10 a11 a12 a13 a14 a15 a16 a17 a18:C} {l:List C}:dk (a0::a1::a2::a3::a4::a5::a6::a7::a8::a9::a10::a11::a12::a13::a14::a15::a16::a17::a18::l) 18=a18:=rfl
@[go_sem] theorem y69 {a0 a1 a2 a3 a4 a5 a6 a7 a8 a9 a10 a11 a12 a13 a14 a15 a16 a17 a18 a19:C} {l:List C}:dk (a0::a1::a2::a3::a4::a5::a6::a7::a8::a9::a10::a11::a12::a13::a14::a15::a16::a17::a18::a19::l) 19=a19:=rfl
@[go_sem] theorem y68 {a0 a1 a2 a3 a4 a5 a6 a7 a8 a9 a10 a11 a12 a13 a14 a15 a16 a17 a18 a19 a20:C} {l:List C}:dk (a0::a1::a2::a3::a4::a5::a6::a7::a8::a9::a10::a11::a12::a13::a14::a15::a16::a17::a18::a19::a20::l) 20=a20:=rfl
@[go_sem] theorem y67 {a0 a1 a2 a3 a4 a5 a6 a7 a8 a9 a10 a11 a12 a13 a14 a15 a16 a17 a18 a19 a20 a21:C} {l:List C}:dk (a0::a1::a2::a3::a4::a5::a6::a7::a8::a9::a10::a11::a12::a13::a14::a15::a16::a17::a18::a19::a20::a21::l) 21=a21:=rfl
@[go_sem] theorem y66 {a0 a1 a2 a3 a4 a5 a6 a7 a8 a9 a10 a11 a12 a13 a14 a15 a16 a17 a18 a19 a20 a21 a22:C} {l:List C}:dk (a0::a1::a2::a3::a4::a5::a6::a7::a8::a9::a10::a11::a12::a13::a14::a15::a16::a17::a18::a19::a20::a21::a22::l) 22=a22:=rfl
@[go_sem] theorem y65 {a0 a1 a2 a3 a4 a5 a6 a7 a8 a9 a10 a11 a12 a13 a14 a15 a16 a17 a18 a19 a20 a21 a22 a23:C} {l:List C}:dk (a0::a1::a2::a3::a4::a5::a6::a7::a8::a9::a10::a11::a12::a13::a14::a15::a16::a17::a18::a19::a20::a21::a22::a23::l) 23=a23:=rfl
@[go_sem] theorem y64 {a0 a1 a2 a3 a4 a5 a6 a7 a8 a9 a10 a11 a12 a13 a14 a15 a16 a17 a18 a19 a20 a21 a22 a23 a24:C} {l:List C}:dk (a0::a1::a2::a3::a4::a5::a6::a7::a8::a9::a10::a11::a12::a13::a14::a15::a16::a17::a18::a19::a20::a21::a22::a23::a24::l) 24=a24:=rfl
@[go_sem] theorem y63 {a0 a1 a2 a3 a4 a5 a6 a7 a8 a9 a10 a11 a12 a13 a14 a15 a16 a17 a18 a19 a20 a21 a22 a23 a24 a25:C} {l:List C}:dk (a0::a1::a2::a3::a4::a5::a6::a7::a8::a9::a10::a11::a12::a13::a14::a15::a16::a17::a18::a19::a20::a21::a22::a23::a24::a25::l) 25=a25:=rfl
@[go_sem] theorem y6P {a0:C} {l:List C}:C.get (.agg (a0::l)) 0=a0:=rfl
@[go_sem] theorem y6O {a0 a1:C} {l:List C}:C.get (.agg (a0::a1::l)) 1=a1:=rfl
@[go_sem] theorem y6N {a0 a1 a2:C} {l:List C}:C.get (.agg (a0::a1::a2::l)) 2=a2:=rfl
@[go_sem] theorem y6M {a0 a1 a2 a3:C} {l:List C}:C.get (.agg (a0::a1::a2::a3::l)) 3=a3:=rfl
@[go_sem] theorem y6L {a0 a1 a2 a3 a4:C} {l:List C}:C.get (.agg (a0::a1::a2::a3::a4::l)) 4=a4:=rfl
@[go_sem] theorem y6K {a0 a1 a2 a3 a4 a5:C} {l:List C}:C.get (.agg (a0::a1::a2::a3::a4::a5::l)) 5=a5:=rfl
@[go_sem] theorem y6J {a0 a1 a2 a3 a4 a5 a6:C} {l:List C}:C.get (.agg (a0::a1::a2::a3::a4::a5::a6::l)) 6=a6:=rfl
@[go_sem] theorem y6I {a0 a1 a2 a3 a4 a5 a6 a7:C} {l:List C}:C.get (.agg (a0::a1::a2::a3::a4::a5::a6::a7::l)) 7=a7:=rfl
@[go_sem] theorem y6H {a0 a1 a2 a3 a4 a5 a6 a7 a8:C} {l:List C}:C.get (.agg (a0::a1::a2::a3::a4::a5::a6::a7::a8::l)) 8=a8:=rfl
@[go_sem] theorem y6G {a0 a1 a2 a3 a4 a5 a6 a7 a8 a9:C} {l:List C}:C.get (.agg (a0::a1::a2::a3::a4::a5::a6::a7::a8::a9::l)) 9=a9:=rfl
@[go_sem] theorem y6p {a0 a1 a2 a3 a4 a5 a6 a7 a8 a9 a10:C} {l:List C}:C.get (.agg (a0::a1::a2::a3::a4::a5::a6::a7::a8::a9::a10::l)) 10=a10:=rfl
@[go_sem] theorem y6o {a0 a1 a2 a3 a4 a5 a6 a7 a8 a9 a10 a11:C} {l:List C}:C.get (.agg (a0::a1::a2::a3::a4::a5::a6::a7::a8::a9::a10::a11::l)) 11=a11:=rfl
@[go_sem] theorem y6n {a0 a1 a2 a3 a4 a5 a6 a7 a8 a9 a10 a11 a12:C} {l:List C}:C.get (.agg (a0::a1::a2::a3::a4::a5::a6::a7::a8::a9::a10::a11::a12::l)) 12=a12:=rfl
@[go_sem] theorem y6m {a0 a1 a2 a3 a4 a5 a6 a7 a8 a9 a10 a11 a12 a13:C} {l:List C}:C.get (.agg (a0::a1::a2::a3::a4::a5::a6::a7::a8::a9::a10::a11::a12::a13::l)) 13=a13:=rfl
@[go_sem] theorem y6l {a0 a1 a2 a3 a4 a5 a6 a7 a8 a9 a10 a11 a12 a13 a14:C} {l:List C}:C.get (.agg (a0::a1::a2::a3::a4::a5::a6::a7::a8::a9::a10::a11::a12::a13::a14::l)) 14=a14:=rfl
@[go_sem] theorem y6k {a0 a1 a2 a3 a4 a5 a6 a7 a8 a9 a10 a11 a12 a13 a14 a15:C} {l:List C}:C.get (.agg (a0::a1::a2::a3::a4::a5::a6::a7::a8::a9::a10::a11::a12::a13::a14::a15::l)) 15=a15:=rfl
@[go_sem] theorem q9k {a0 b:C} {l:List C}:C.set (.agg (a0::l)) 0 b= .agg (b::l):=rfl
@[go_sem] theorem q9j {a0 a1 b:C} {l:List C}:C.set (.agg (a0::a1::l)) 1 b= .agg (a0::b::l):=rfl
@[go_sem] theorem q9i {a0 a1 a2 b:C} {l:List C}:C.set (.agg (a0::a1::a2::l)) 2 b= .agg (a0::a1::b::l):=rfl
@[go_sem] theorem q4J {a0 a1 a2 a3 b:C} {l:List C}:C.set (.agg (a0::a1::a2::a3::l)) 3 b= .agg (a0::a1::a2::b::l):=rfl
@[go_sem] theorem q9h {a0 a1 a2 a3 a4 b:C} {l:List C}:C.set (.agg (a0::a1::a2::a3::a4::l)) 4 b= .agg (a0::a1::a2::a3::b::l):=rfl
@[go_sem] theorem y6E {a0 a1 a2 a3 a4 a5 b:C} {l:List C}:C.set (.agg (a0::a1::a2::a3::a4::a5::l)) 5 b= .agg (a0::a1::a2::a3::a4::b::l):=rfl
@[go_sem] theorem y6D {a0 a1 a2 a3 a4 a5 a6 b:C} {l:List C}:C.set (.agg (a0::a1::a2::a3::a4::a5::a6::l)) 6 b= .agg (a0::a1::a2::a3::a4::a5::b::l):=rfl
@[go_sem] theorem y6C {a0 a1 a2 a3 a4 a5 a6 a7 b:C} {l:List C}:C.set (.agg (a0::a1::a2::a3::a4::a5::a6::a7::l)) 7 b= .agg (a0::a1::a2::a3::a4::a5::a6::b::l):=rfl
attribute [go_sem] p9 Nat.beq_refl Bool.and_true Bool.true_and Bool.not_true Bool.not_false beq_self_eq_true Int.toNat_natCast decide_true decide_false Bool.cond_decide Int.toNat_zero Int.toNat_one
attribute [go_sem 500] Int.ofNat_eq_natCast
attribute [go_sem] Int.cast_ofNat_Int
@[go_sem] theorem y6F (n:Nat):Int.ofNat (@OfNat.ofNat Nat n (instOfNatNat n))=@OfNat.ofNat Int n instOfNat:=rfl
@[go_sem] theorem y5T (n:Nat):((@OfNat.ofNat Nat n (instOfNatNat n):Nat):Int)=@OfNat.ofNat Int n instOfNat:=rfl
@[go_sem] theorem q24 (a b:Bool):z6U (.bool a) b= .bool b:=rfl
@[go_sem] theorem q9Y (c:C):C.beq c c=true:=(C.beq_iff c c).2 rfl
theorem z7S (a b:C):C.beq a b=decide (a=b):=by
 rw[Bool.eq_iff_iff,C.beq_iff,decide_eq_true_eq]
theorem q6C {R:Type} {ι:Type} {F:KD R→List C→List Es→Option R} (st:ι→List C) (sm:ι→List Es) (μ:ι→Nat) (P:ι→Prop) (spec:ι→Option R)
  (h:∀i,P i→∀rec:KD R,(∀j,P j→μ j<μ i→rec (st j) (sm j)=spec j)→F rec (st i) (sm i)=spec i):∀(N:Nat) (i:ι),P i→μ i<N→Y1 N F (st i) (sm i)=spec i
 |0,_,_,h2=>absurd h2 (Nat.not_lt_zero _)
 |N+1,i,h1,h2=>by
  rw[q5q]
  exact h i h1 _ fun j hj hlt=>q6C st sm μ P spec h N j hj (by omega)
theorem q0i {R:Type} {F:KD R→List C→List Es→Option R} (st:Nat→List C) (sm:Nat→List Es) (m:Nat) (r:Option R) (step:∀i,i<m→∀rec:KD R,F rec (st i) (sm i)=rec (st (i+1)) (sm (i+1))) (stop:∀rec:KD R,F rec (st m) (sm m)=r) {N:Nat} (hN:m<N):
  Y1 N F (st 0) (sm 0)=r:=by
 refine q6C (F:=F) st sm (fun i=>m-i) (fun i=>i≤m) (fun _=>r) (fun i hi rec hrec=>?_) N 0 (Nat.zero_le _) (by omega)
 by_cases e:i=m
 ·subst e;exact stop rec
 ·rw[step i (by omega) rec]
  exact hrec (i+1) (by omega) (by omega)
theorem y1S {X:Cx} {f:FuncId} {ts:List Ty} {cs:List C} {A:Key→Option O} {v:V} {L:List (Key × O)} (h:(∀(i:Nat) (t:Ty) (c:C),ts[i]? =some t→cs[i]? =some c→C.wf t c)→Q2 X f (List.zipWith V.d ts cs) A v L):Q2 X f (List.zipWith V.d ts cs) A v L:=by
 intro A' Γ w args hA hg hc hn hr
 refine h (fun i t c ht hcs=>?_) A' Γ w args hA hg hc hn hr
 have hx:(List.zipWith V.d ts cs)[i]? =some (.d t c):=by simp[List.getElem?_zipWith,ht,hcs]
 have hs:(Y9 1000 (List.zipWith V.d ts cs))[i]? =some (.d t c):=by rw[q4I,hx];rfl
 have hl:i<args.size:=by rw[←hn];exact(List.getElem?_eq_some_iff.1 hx).1
 exact(hr i _ _ hs (Array.getElem?_eq_getElem hl)).wf
theorem y2W {w:World} {gl gl':Nat→Option (Ty × C)} (h:z4h w gl) (hs:∀g x,gl' g=some x→gl g=some x):z4h w gl':=fun g τ c hg=>h g τ c (hs g (τ,c) hg)
theorem y5n {X:Cx} {f:FuncId} {g:OvG (V × List (Key × O))} (h:GOk X f g) {xs:List V} {A:Key→Option O} {v:V} {L:List (Key × O)} (hr:g xs A kR=some (v,L)):Q2 X f xs A v L:=by
 obtain⟨v',L',h1,h2⟩:=h xs A kR (v,L) hr
 simp only[kR,Option.some.injEq,Prod.mk.injEq]at h2
 obtain⟨rfl,rfl⟩:=h2
 exact h1
theorem q0h {i:Nat} (h:i<4611686018427387904):IntKind.i64.wrap ((i:Int)+1)=((i+1:Nat):Int):=by rw[IntWalk.i64_in _ (by omega)];omega
theorem wrap_u64 {n:Int} (h:0≤n) (h2:n<18446744073709551616):IntKind.u64.wrap n=n:=by
 have hm1:IntKind.u64.min=0:=by decide
 have hm2:IntKind.u64.max=18446744073709551615:=by decide
 exact y3Y (by omega) (by omega)
end Go.E
