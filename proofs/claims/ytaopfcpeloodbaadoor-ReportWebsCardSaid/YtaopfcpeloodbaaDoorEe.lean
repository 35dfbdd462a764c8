/-
 A framework for runs of Go code over abstract data: what it needs, and that it is sound, part 5.
 Conditions: none.
-/
import Derived.Test.YtaopfcpeloodbaaDoorEd
import Derived.ScopeJumps
import Derived.ProofKit
import Derived.LaidMore
import Derived.OpenShut
import Derived.Stop.Joined
set_option linter.all false
namespace Go.E
open Go
def q2B (s:S):List (Key × O)→Prop
 | []=>True
 |(k,o)::l=>(match s.obj k with|some o0=>O.u1 o0 o|none=>False)∧q2B s l
def q0f (τ:Ty):List (C × V)→Bool
 | []=>true
 |(_,v)::l=>(match v with| .d τ' _=>Ty.beq τ' τ|_=>false)&&q0f τ l
theorem z7r {f g:Nat→Bool} {τ:Ty}:∀{es:List (C × V)},q0f τ es=true→V.q0m f g es=true
 | [],_=>rfl
 |(_,v)::l,h=>by
  simp only[q0f,Bool.and_eq_true]at h
  simp only[V.q0m,Bool.and_eq_true]
  refine⟨?_,z7r h.2⟩
  cases v <;> simp at h
  rfl
def O.okB (f g:Nat→Bool):O→Bool
 | .map _ vτ es=>vτ.X2||q0f vτ es
 |o=>o.ok f g
theorem O.y4G {f g:Nat→Bool} {o:O} (h:o.okB f g=true):o.okP f g=true:=by
 cases o with
 |map kτ vτ es=>
  simp only[O.okB,O.okP,Bool.or_eq_true]at h ⊢
  exact h.imp id z7r
 |_=>exact h
def q0u (f g:Nat→Bool):List (Key × O)→Bool
 | []=>true
 |(_,o)::l=>o.okB f g&&q0u f g l
def q56 (L:List (Key × O)) (A:Key→Option O):List (Key × O)→Prop
 | []=>True
 |(.g k,o)::l=>((z6 L (.g k)).isSome=true∨A k=some o)∧q56 L A l
 |(.l _,_)::l=>q56 L A l
def q48 (f g:Nat→Bool) (s:S):List (Nat × V)→Prop
 | []=>True
 |(i,x)::l=>V.u1 (s.get i) x∧x.ok f g=true∧(x= .any∨x.ty.isAgg=(s.get i).ty.isAgg)∧q48 f g s l
def tkW (s:S):List (Nat × Option Nat)→Prop
 | []=>True
 |(t,x)::l=>(match x with|some L=>s.live t=some L|none=>s.known t=true)∧tkW s l
theorem q6t {s:S}:∀{l:List (Key × O)} {k:Key} {o:O},q2B s l→z6 l k=some o→∃o0,s.obj k=some o0∧O.u1 o0 o
 | [],_,_,_,h=>by simp[z6]at h
 |(j,p)::l,k,o,hw,h=>by
  simp only[z6]at h
  split at h
  ·rename_i e
   cases h;subst e
   have:=hw.1
   split at this
   ·rename_i o0 ho;exact⟨o0,ho,this⟩
   ·exact this.elim
  ·exact q6t hw.2 h
theorem z2b {f g:Nat→Bool}:∀{l:List (Key × O)} {k:Key} {o:O},q0u f g l=true→z6 l k=some o→o.okP f g=true
 | [],_,_,_,h=>by simp[z6]at h
 |(j,p)::l,k,o,hw,h=>by
  simp only[z6]at h
  simp only[q0u,Bool.and_eq_true]at hw
  split at h
  ·cases h;exact O.y4G hw.1
  ·exact z2b hw.2 h
theorem q9J {L:List (Key × O)} {A:Key→Option O}:∀{l:List (Key × O)} {k:Key} {o:O},q56 L A l→z6 l (.g k)=some o→(z6 L (.g k)).isSome=true∨A k=some o
 | [],_,_,_,h=>by simp[z6]at h
 |(.l j,p)::l,k,o,hw,h=>by simp[z6]at h;exact q9J (l:=l) hw h
 |(.g j,p)::l,k,o,hw,h=>by
  simp only[z6]at h
  split at h
  ·rename_i e;cases e;cases h;exact hw.1
  ·exact q9J hw.2 h
theorem q9v {f g:Nat→Bool} {s:S}:∀{l:List (Nat × V)} {i:Nat} {x:V},q48 f g s l→look l i=some x→V.u1 (s.get i) x∧x.ok f g=true∧(x= .any∨x.ty.isAgg=(s.get i).ty.isAgg)
 | [],_,_,_,h=>by simp[look]at h
 |(j,y)::l,i,x,hw,h=>by
  simp only[look]at h
  split at h
  ·rename_i e;cases h;subst e;exact⟨hw.1,hw.2.1,hw.2.2.1⟩
  ·exact q9v hw.2.2.2 h
theorem z0Y {s:S}:∀{l:List (Nat × Option Nat)} {t:Nat} {x:Option Nat},tkW s l→look l t=some x→match x with|some L=>s.live t=some L|none=>s.known t=true
 | [],_,_,_,h=>by simp[look]at h
 |(j,y)::l,t,x,hw,h=>by
  simp only[look]at h
  split at h
  ·rename_i e;cases h;subst e;exact hw.1
  ·exact z0Y hw.2 h
section
variable {Γ:G} {w:World} {s:S}
theorem q9V {s':S} (hA:s'.A=s.A) (hg:q56 s'.loc s.A s.loc) {k:Key} (h:z6 s'.loc (.g k)=none):s'.obj (.g k)=s.obj (.g k):=by
 unfold S.obj b6
 rw[h]
 simp only
 cases ho:z6 s.loc (.g k)with
 |none=>rw[hA]
 |some o=>
  rcases q9J hg ho with h1|h1
  ·rw[h]at h1;cases h1
  ·rw[hA];exact h1
theorem z8.sub (c:z8 Γ w s) {Γ':G} {f g:Nat→Bool} {s':S} (hs:Sub Γ Γ' f g) (hf:f=c9 s'.loc) (hι:∀n,f n=false→Γ'.ι (.l n)=none) (hA:s'.A=s.A) (hAok:AOk s.A)
  (hloc:q2B s s'.loc) (hlok:q0u f g s'.loc=true) (hg:q56 s'.loc s.A s.loc)
  (hκ:∀b o sz,Γ'.κ b=some (o,sz)→∃o',Γ.κ b=some (o',sz)∧∀T,z1t o' T→z1t o T)
  (tok:∀t L,s'.live t=some L→∃x,Γ'.τ t=some (x,L)∧∀b pos sz,x=some (b,pos,sz)→(∃l,Γ.H b=some l∧l.length=pos)∧Γ'.κ b=some (.tok t,sz))
  (tdom:∀t,Γ'.τ t≠none→s'.known t=true):z8 Γ' w s':=by
 subst hf
 have hfl:∀n,c9 s'.loc n=true↔z6 s'.loc (.l n)≠none:=by
  intro n;unfold c9;cases z6 s'.loc (.l n) <;> simp
 have keyok:∀k o,s'.obj k=some o→Γ'.ι k=Γ.ι k:=by
  intro k o h
  cases k with
  |g k=>exact hs.ιg k
  |l n=>
   refine hs.ιl n ?_
   rw[hfl]
   unfold S.obj b6 at h
   intro e
   rw[e]at h;cases h
 refine⟨fun b l h=>c.hH b l (by rw[←hs.H];exact h),fun b o h=>c.hZ b o (by rw[←hs.Z];exact h),fun b o sz h=>?_,fun k o h=>?_,fun k h=>?_,fun k k' b τ τ' h1 h2=>?_,fun t L h=>?_,tdom,fun gg τ cc h=>?_,by rw[hs.oo];exact c.hoo,fun b sz h=>c.hσ b sz (by rw[←hs.σ];exact h)⟩
 ·obtain⟨o',h',hT⟩:=hκ b o sz h
  obtain⟨a1,a2,arr,T,a3,a4,a5⟩:=c.hκ b o' sz h'
  exact⟨by rw[hs.Z];exact a1,by rw[hs.H];exact a2,arr,T,a3,a4,hT T a5⟩
 ·have hk:=keyok k o h
  cases hl:z6 s'.loc k with
  |some o1=>
   have:o1=o:=by unfold S.obj b6 at h;rw[hl]at h;cases h;rfl
   subst this
   obtain⟨o0,ho,hi⟩:=q6t hloc hl
   exact(c.obj k o0 ho).imp (fun h=>⟨hk.trans h.1,O.y0Y hi h.2⟩) fun hown=>(hown.u1 hi).sub hs hk (z2b hlok hl)
  |none=>
   cases k with
   |l n=>unfold S.obj b6 at h;rw[hl]at h;cases h
   |g k=>
    have h':s.obj (.g k)=some o:=by rw[←q9V hA hg hl];exact h
    have hAk:s.A k=some o:=by
     have h2:s'.A k=some o:=by unfold S.obj b6 at h;rw[hl]at h;exact h
     rw[←hA];exact h2
    exact(c.obj _ o h').imp (fun h=>⟨hk.trans h.1,h.2⟩) fun hown=>hown.sub hs hk (O.y4F (O.q7a (by simp[Q4]) (by simp[Q4]) o (hAok k o hAk)))
 ·cases k with
  |l n=>
   cases hh:c9 s'.loc n with
   |false=>exact absurd (hι n hh) h
   |true=>
    have:=(hfl n).1 hh
    unfold S.obj b6
    cases hl:z6 s'.loc (.l n)with
    |none=>exact absurd hl this
    |some o=>simp
  |g k=>
   rw[hs.ιg]at h
   have:=c.dom _ h
   cases hl:z6 s'.loc (.g k)with
   |some o=>unfold S.obj b6;rw[hl];simp
   |none=>rw[q9V hA hg hl];exact this
 ·have back:∀k x,Γ'.ι k=some x→Γ.ι k=some x:=by
   intro k x h
   cases k with
   |g k=>rw[←hs.ιg];exact h
   |l n=>
    cases hh:c9 s'.loc n with
    |false=>rw[hι n hh]at h;cases h
    |true=>rw[←hs.ιl n hh];exact h
  have hdead:∀k x,Γ'.ι k=some x→s.p9 k=true→s'.p9 k=true:=by
   intro k x hx h
   cases hl:z6 s'.loc k with
   |some o1=>
    obtain⟨o0,ho,hi⟩:=q6t hloc hl
    rw[c6 ho]at h
    have e:s'.obj k=some o1:=by unfold S.obj b6;rw[hl]
    rw[c6 e]
    exact O.z4g hi h
   |none=>
    cases k with
    |g k=>unfold S.p9 at h ⊢;rw[q9V hA hg hl];exact h
    |l n=>
     cases hh:c9 s'.loc n with
     |false=>rw[hι n hh]at hx;cases hx
     |true=>exact absurd hl ((hfl n).1 hh)
  exact(c.inj k k' b τ τ' (back _ _ h1) (back _ _ h2)).imp id (And.imp (Or.imp (hdead _ _ h1) (hdead _ _ h2)) id)
 ·obtain⟨x,a1,a2⟩:=tok t L h
  refine⟨x,a1,fun b pos sz hx=>?_⟩
  obtain⟨a3,a4⟩:=a2 b pos sz hx
  exact⟨by rw[hs.H];exact a3,a4⟩
 ·rw[hs.H];exact c.hgl gg τ cc (by rw[←hs.gl];exact h)
end
def G.part (Γ:G) (f g:Nat→Bool):G:=
 {Γ with ι:=fun k=>match k with| .l n=>if f n then Γ.ι (.l n)else none| .g k=>Γ.ι (.g k),τ:=fun t=>if g t then Γ.τ t else none}
theorem z77 {X:Cx} {n:Nat} {s s':S} (hA:s'.A=s.A) (hloc:q2B s s'.loc) (hlok:q0u (c9 s'.loc) (W5 s'.tk) s'.loc=true) (hg:q56 s'.loc s.A s.loc)
  (htk:tkW s s'.tk) (henv:q48 (c9 s'.loc) (W5 s'.tk) s s'.env):q0g X n s s':=by
 rintro Γ0 a w ⟨Γ,g1,g3,c,hs,hn,hf,hAok⟩
 have sub:Sub Γ (Γ.part (c9 s'.loc) (W5 s'.tk)) (c9 s'.loc) (W5 s'.tk):=
  ⟨rfl,rfl,rfl,rfl,rfl,fun _=>rfl,fun n h=>by simp[G.part,h],fun t h=>by simp[G.part,h],fun _ _ _ _ _=>rfl⟩
 refine⟨Γ.part (c9 s'.loc) (W5 s'.tk),⟨g1.H,g1.Z,g1.ZH,g1.g,g1.gl,g1.oo,g1.σ,g1.gn⟩,g3,c.sub sub rfl (fun n h=>by simp[G.part,h]) hA hAok hloc hlok hg (fun b o sz h=>⟨o,h,fun _ h=>h⟩) (fun t L h=>?_) (fun t h=>?_),fun i=>?_,hn,hf,by rw[hA];exact hAok⟩
 ·unfold S.live F1 at h
  cases hl:look s'.tk t with
  |none=>simp[hl]at h
  |some x=>
   cases x with
   |none=>simp[hl]at h
   |some M=>
    simp[hl]at h;subst h
    have hlive:s.live t=some M:=z0Y htk hl
    obtain⟨x,a1,a2⟩:=c.tok t M hlive
    exact⟨x,by simp[G.part,W5,hl,a1],fun b pos sz hx=>a2 b pos sz hx⟩
 ·cases hh:W5 s'.tk t with
  |true=>exact hh
  |false=>simp[G.part,hh]at h
 ·cases hl:look s'.env i with
  |none=>simp[S.get,hl,q9]
  |some x=>
   obtain⟨e1,e2,e3⟩:=q9v henv hl
   have hget:s'.get i=x:=by simp[S.get,hl]
   rw[hget]
   by_cases hx:x= .any
   ·subst hx;trivial
   ·have hr:=hs i
    have e3:=e3.resolve_left hx
    refine q9.sub sub e2 ?_
    cases hsi:s.get i with
    |any=>
     rw[hsi]at e1
     cases x <;> simp[V.u1,s9]at e1 hx
    |tup us=>
     rw[hsi]at e1 hr
     cases x <;> simp[V.u1,s9]at e1 hx
     subst e1;exact hr
    |_=>
     rw[hsi]at e1 hr e3
     have hpl:q8 Γ none [] _ (a.tmps.getD i undef).cells.toList∧_:=hr
     obtain⟨r1,r2⟩:=q8.u1 x _ e1 hpl.1
     have hxp:=V.q13 r1 hx
     exact(y8 hxp).2 ⟨r1,by rw[e3];exact hpl.2⟩
end Go.E
namespace Go.E
open Go
def q7F (X:Cx) (s:S) (r:ResultVar):V:=
 match r with
 | .tmp t=>s.get t
 | .cell a t=>(match s.get a with
   | .ptr k q τ=>(match s.obj k with
     |some (.box y)=>view (y.at q)
     |_=>.any)
   |_=>.any)
def q1g (X:Cx) (s:S):List ResultVar→List V
 | []=>[]
 |r::rs=>q7F X s r::q1g X s rs
def q6Z (X:Cx) (s:S) (r:ResultVar):Prop:=
 match r with
 | .tmp _=>True
 | .cell a t=>(match s.get a with
   | .ptr k q τ=>(match s.obj k with
     |some (.box y)=>τ=ty X.P t∧τ.known=true∧y.at q≠.any
     |_=>False)
   |_=>False)
def q5p (X:Cx) (s:S):List ResultVar→Prop
 | []=>True
 |r::rs=>q6Z X s r∧q5p X s rs
def H9 (s:S) (f:Nat→Bool) (x:V) (v:V):Prop:=
 match v with
 | .ts eb e cs=>(match x with
  | .sl eb' e' cs' t=>eb'=eb∧e'=e∧cs'=cs∧s.live t=some cs.length
  | .emp eb' e'=>eb'=eb∧e'=e∧cs=[]
  | .nilc=>cs=[]
  |_=>False)
 |v=>V.u1 x v∧v.ok f Q4=true∧v.plain=true∧v.ty.isAgg=x.ty.isAgg
def F6 (s:S) (f:Nat→Bool):List V→List V→Prop
 | [],[]=>True
 |x::xs,v::vs=>H9 s f x v∧F6 s f xs vs
 |_,_=>False
def q7E:List V→V→Option (List V)
 | [_],v=>some [v]
 |_,.tup vs=>some vs
 |_,_=>none
def q0H:Nat→List V→List V→List (Nat × Option Nat)
 |m,x::xs,v::vs=>(match v,x with
  | .ts _ _ _,.sl _ _ _ t=>[(m,some t)]
  | .ts _ _ _,_=>[(m,none)]
  |_,_=>[])++q0H (m+1) xs vs
 |_,_,_=>[]
def q3d:List (Nat × Option Nat)→List Nat
 | []=>[]
 |(_,some t)::l=>t::q3d l
 |(_,none)::l=>q3d l
def z48 (X:Cx) (fn:Func) (A:Key→Option O) (v:V) (L:List (Key × O)) (s:S):Prop:=
 s.A=A∧q2B s L∧q0u (c9 L) Q4 L=true∧q56 L A s.loc∧q5p X s fn.results.toList∧
  (match q7E (q1g X s fn.results.toList) v with
   |some vs=>F6 s (c9 L) (q1g X s fn.results.toList) vs∧q0o (q3d (q0H 2000 (q1g X s fn.results.toList) vs))=true
   |none=>False)
def q69:List (Nat × Option Nat)→Nat→Option Nat
 | [],_=>none
 |(m,some t)::l,u=>if t=u then some m else q69 l u
 |(_,none)::l,u=>q69 l u
theorem q7J:∀{l:List (Nat × Option Nat)} {m t:Nat},q0o (q3d l)=true→look l m=some (some t)→q69 l t=some m
 | [],_,_,_,h=>by simp[look]at h
 |(j,y)::l,m,t,hn,h=>by
  simp only[look]at h
  split at h
  ·rename_i e;cases h;subst e;simp[q69]
  ·cases y with
   |none=>exact q7J (l:=l) hn h
   |some u=>
    simp only[q3d,q0o,Bool.and_eq_true,Bool.not_eq_true']at hn
    have ih:=q7J hn.2 h
    have hne:u≠t:=by
     intro e;subst e
     have hm:∀{l:List (Nat × Option Nat)} {m:Nat},look l m=some (some u)→u∈q3d l:=by
      intro l
      induction l with
      |nil=>intro m h;simp[look]at h
      |cons z l ih=>
       obtain⟨j',y'⟩:=z
       intro m h
       simp only[look]at h
       split at h
       ·cases h;simp[q3d]
       ·cases y' with
        |none=>exact ih h
        |some t'=>simp[q3d,ih h]
     have:=hm h
     simp[this]at hn
    simp[q69,hne,ih]
def G.fin (Γ:G) (f:Nat→Bool) (pairs:List (Nat × Option Nat)):G:=
 {Γ with
  ι:=fun k=>match k with| .l n=>if f n then Γ.ι (.l n)else none| .g k=>Γ.ι (.g k)
  τ:=fun m=>match look pairs m with
   |some (some t)=>Γ.τ t
   |some none=>some (none,0)
   |none=>none
  κ:=fun b=>match Γ.κ b with
   |some (.tok t,sz)=>match q69 pairs t with
    |some m=>some (.tok m,sz)
    |none=>none
   |x=>x}
theorem q5e:∀{n:Nat} {xs vs:List V} {m:Nat},look (q0H n xs vs) m=if n≤m then(match xs[m-n]?,vs[m-n]? with
  |some (.sl _ _ _ t),some (.ts _ _ _)=>some (some t)
  |some _,some (.ts _ _ _)=>some none
  |_,_=>none)else none
 |n,[],vs,m=>by simp[q0H,look]
 |n,x::xs,[],m=>by simp only[q0H,look];split <;> simp
 |n,x::xs,v::vs,m=>by
  simp only[q0H,q0P]
  have ih:=q5e (n:=n+1) (xs:=xs) (vs:=vs) (m:=m)
  by_cases h1:n=m
  ·subst h1
   have hr:look (q0H (n+1) xs vs) n=none:=by rw[ih,if_neg (by omega)]
   cases v <;> cases x <;> simp[look,hr]
  ·have h0:look (match v,x with
     | .ts _ _ _,.sl _ _ _ t=>[(n,some t)]
     | .ts _ _ _,_=>[(n,none)]
     |_,_=>[]) m=none:=by
    cases v <;> cases x <;> simp[look,h1]
   rw[h0,ih]
   by_cases h2:n≤m
   ·rw[if_pos h2,if_pos (by omega),show m-n=(m-(n+1))+1 by omega]
    simp only[List.getElem?_cons_succ]
   ·rw[if_neg h2,if_neg (by omega)]
section
variable {X:Cx} {n:Nat} {s:S}
def q4H (a:Act):ResultVar→Sem Value
 | .tmp t=>pure (a.tmps.getD t undef)
 | .cell b t=>do loadVar t (←asAddr (a.tmps.getD b undef))
theorem z8Z (fn:Func) (a:Act):results fn a.tmps=(do
  let vs ←fn.results.mapM (q4H a)
  pure (if h:vs.size=1 then vs[0]else .tuple vs)):=by
 unfold results
 congr 2
theorem z8V (hP:x4 X.P=true) {Γ:G} {w:World} {a:Act} (c:z8 Γ w s) (hs:q1t Γ s a.tmps) {r:ResultVar} (hch:q6Z X s r):
  ∃v,(q4H a r).run X.P w= .ok v w∧q9 Γ (q7F X s r) v:=by
 cases r with
 |tmp t=>exact⟨_,rfl,hs t⟩
 |cell b t=>
  have hb:=hs b
  simp only[q6Z]at hch
  split at hch
  ·rename_i k q τ hk
   rw[hk]at hb
   split at hch
   ·rename_i y hy
    obtain⟨u,h1,h2⟩:=z1e hP c hb hy hch.2.2 hch.1 hch.2.1
    obtain⟨b',τ0,o,_,_,hv⟩:=X5 hb
    refine⟨u,?_,?_⟩
    ·rw[hv]at h1
     simp only[q4H,hv]
     simpa[Instr.loadAt,Instr.sureAddr,asAddr]using h1
    ·simp only[q7F,hk,hy]
     exact h2
   ·exact hch.elim
  ·exact hch.elim
theorem z0r (hP:x4 X.P=true) {Γ:G} {w:World} {a:Act} (c:z8 Γ w s) (hs:q1t Γ s a.tmps):∀(rs:List ResultVar),q5p X s rs→
  ∃vs:List Value,(rs.mapM (q4H a)).run X.P w= .ok vs w∧vs.length=rs.length∧
   ∀(i:Nat) x v,(q1g X s rs)[i]? =some x→vs[i]? =some v→q9 Γ x v
 | [],_=>⟨[],by simp,rfl,by simp[q1g]⟩
 |r::rs,hpl=>by
  simp only[q5p]at hpl
  obtain⟨v,h1,h2⟩:=z8V hP c hs hpl.1
  obtain⟨vs,h3,h4,h5⟩:=z0r hP c hs rs hpl.2
  refine⟨v::vs,?_,by simp[h4],?_⟩
  ·rw[List.mapM_cons]
   simp only[Sem.run_bind]
   rw[h1]
   simp only[Result.andThen_ok,Sem.run_bind]
   rw[h3]
   simp
  ·intro i x u hx hu
   cases i with
   |zero=>simp[q1g]at hx hu;subst hx;subst hu;exact h2
   |succ i=>exact h5 i x u (by simpa[q1g]using hx) (by simpa using hu)
theorem z0s:∀(rs:List ResultVar),(q1g X s rs).length=rs.length
 | []=>rfl
 |r::rs=>by simp[q1g,z0s rs]
theorem q00 {f:Nat→Bool}:∀{xs vs:List V} {i:Nat} {v:V},F6 s f xs vs→vs[i]? =some v→∃x,xs[i]? =some x∧H9 s f x v
 | [],[],_,_,_,h=>by simp at h
 |x::xs,v::vs,0,v',hr,h=>by simp at h;subst h;exact⟨x,rfl,hr.1⟩
 |x::xs,v::vs,i+1,v',hr,h=>by
  obtain⟨y,h1,h2⟩:=q00 hr.2 (show vs[i]? =some v' by simpa using h)
  exact⟨y,by simpa using h1,h2⟩
 | [],_::_,_,_,hr,_=>by simp[F6]at hr
 |_::_,[],_,_,hr,_=>by simp[F6]at hr
theorem q8Y {f:Nat→Bool}:∀{xs vs:List V},F6 s f xs vs→xs.length=vs.length
 | [],[],_=>rfl
 |x::xs,v::vs,h=>by simp[q8Y h.2]
 | [],_::_,hr=>by simp[F6]at hr
 |_::_,[],hr=>by simp[F6]at hr
theorem z7D {Γ:G} {w:World} (c:z8 Γ w s) {f:Nat→Bool} {pairs:List (Nat × Option Nat)} {m:Nat} {x v:V} {u:Value} (hsub:Sub Γ (Γ.fin f pairs) f Q4) (hr:q9 Γ x u) (hi:H9 s f x v)
  (hp:∀eb e cs,v= .ts eb e cs→match x with| .sl _ _ _ t=>look pairs m=some (some t)|_=>look pairs m=some none):q9 (Γ.fin f pairs) (v.slot m) u:=by
 have other:v.q6o=true→V.u1 x v∧v.ok f Q4=true∧v.plain=true∧v.ty.isAgg=x.ty.isAgg→q9 (Γ.fin f pairs) (v.slot m) u:=by
  intro hn ⟨h1,h2,h3,h4⟩
  have hvs:v.slot m=v:=by cases v <;> simp[V.slot];simp[V.q6o]at hn
  rw[hvs]
  refine q9.sub hsub h2 ?_
  cases x with
  |any=>
   cases v <;> simp[V.u1,s9,V.plain]at h1 h3
  |tup us=>
   cases v <;> simp[V.u1,s9,V.plain]at h1 h3
  |_=>
   obtain⟨q1,q2⟩:=hr
   obtain⟨r1,_⟩:=q8.u1 v _ h1 q1
   exact(y8 h3).2 ⟨r1,by rw[h4];exact q2⟩
 cases v
 case ts eb e cs=>
  have hp:=hp eb e cs rfl
  simp only[H9]at hi
  cases x <;> simp only at hi hp
  case sl eb' e' cs' t=>
   obtain⟨rfl,rfl,rfl,hl⟩:=hi
   obtain⟨h1,_⟩:=(x9 rfl rfl).1 hr
   simp only[q8]at h1
   obtain⟨a,n,cap,hv,hrc,y,L,h2,h3,h4⟩:=h1
   simp at hv;subst hv
   simp only[V.slot]
   refine(x9 rfl rfl).2 ⟨?_,rfl⟩
   simp only[q8]
   exact⟨a,n,cap,rfl,hrc,y,L,by simp[G.fin,hp,h2],h3,h4⟩
  case emp eb' e'=>
   obtain⟨rfl,rfl,rfl⟩:=hi
   obtain⟨h1,_⟩:=(x9 rfl rfl).1 hr
   simp only[q8]at h1
   obtain⟨a,hv⟩:=h1
   simp at hv;subst hv
   simp only[V.slot]
   refine(x9 rfl rfl).2 ⟨?_,rfl⟩
   simp only[q8]
   exact⟨a,0,0,rfl,v7 rfl (Nat.le_refl _) (Nat.zero_le _) (by rw[Nat.zero_mul];exact Nat.zero_le _) (.inl rfl),none,0,by simp[G.fin,hp],Nat.le_refl _,fun _=>rfl⟩
  case nilc=>
   subst hi
   have hp2:look pairs m=some none:=by assumption
   rw[Z5 hr]
   simp only[V.slot]
   refine(x9 rfl rfl).2 ⟨?_,rfl⟩
   simp only[q8]
   exact⟨none,0,0,rfl,v7 rfl (Nat.le_refl _) (Nat.zero_le _) (by rw[Nat.zero_mul];exact Nat.zero_le _) (.inl rfl),none,0,by simp[G.fin,hp2],Nat.le_refl _,fun _=>rfl⟩
 all_goals exact other rfl (by simpa only[H9]using hi)
theorem y4f {Γ:G}:∀(xs:List V) (vs:List Value),xs.length=vs.length→(∀(i:Nat) x,xs[i]? =some x→x.plain=true)→(∀(i:Nat) x v,xs[i]? =some x→vs[i]? =some v→q9 Γ x v)→y9 Γ xs vs:=
 fun xs vs hl hp hr=>q5f hl fun i x v hx hv=>⟨hp i x hx,hr i x v hx hv⟩
theorem q8t:∀(xs:List V) (i j:Nat),look (q3U i xs) j=if i≤j then xs[j-i]? else none
 | [],i,j=>by simp[q3U,look]
 |x::xs,i,j=>by
  simp only[q3U,look,q8t xs (i+1) j]
  by_cases h1:i=j
  ·subst h1;simp
  ·rw[if_neg h1]
   by_cases h2:i≤j
   ·rw[if_pos h2,if_pos (by omega),show j-i=(j-(i+1))+1 by omega,List.getElem?_cons_succ]
   ·rw[if_neg h2,if_neg (by omega)]
theorem z7c (hP:x4 X.P=true) {f:FuncId} {fn:Func} {c:Code} {xs:List V} {A:Key→Option O} {v:V} {L:List (Key × O)}
  (hf:X.P.funcs[f]? =some fn) (hb:fn.body=some c) (hn:fn.ntmps=n) (hlen:xs.length≤n)
  (h:∀A',(∀k o,A k=some o→A' k=some o)→DC X n c (S.start xs A') fun e s'=>(e= .normal∨e= .ret)∧z48 X fn A' v L s'):Q3 X f xs A v L:=by
 intro A' Γ w args hAA hgl ⟨c0,hA0⟩ hargs hrep
 subst hn
 refine calls_of_wp hf hb ?_
 refine wp_mono (h A' hAA Γ {tmps:=args++Array.replicate (fn.ntmps-args.size) undef,defers:=[]} w ⟨Γ,.refl Γ,hgl,c0,?_,by simp;omega,rfl,hA0⟩) ?_
 ·intro i
  have hget:(S.start xs A').get i=((X6 1000 xs)[i]?).getD .any:=by
   simp only[S.get,S.start,q8t,Nat.zero_le,if_true,Nat.sub_zero]
  rw[hget]
  cases hx:(X6 1000 xs)[i]? with
  |none=>simp[q9]
  |some x=>
   have hi:i<args.size:=by rw[←hargs,←q5C 1000 xs];exact(List.getElem?_eq_some_iff.1 hx).1
   have hv:args[i]? =some args[i]:=Array.getElem?_eq_getElem hi
   have:=hrep i x _ hx hv
   rw[Array.getD_eq_getD_getElem?,Array.getElem?_append_left hi,hv]
   simpa using this
 ·rintro e a w' ⟨s',⟨he,hA,hL,hLok,hall,hch,hres⟩,Γ',g1,g3,c',hs,hn,hfr,hAok⟩
  obtain⟨us,hvs,hvl,hvr⟩:=z0r hP c' hs _ hch
  split at hres
  ·rename_i vs hretV
   obtain⟨hri,hnd⟩:=hres
   generalize hxs:q1g X s' fn.results.toList=rs at*
   have hrl:rs.length=fn.results.toList.length:=by rw[←hxs];exact z0s _
   have hsub:Sub Γ' (Γ'.fin (c9 L) (q0H 2000 rs vs)) (c9 L) Q4:=
    ⟨rfl,rfl,rfl,rfl,rfl,fun _=>rfl,fun n h=>by simp[G.fin,h],fun t h=>by simp[Q4]at h,fun b k p sz h=>by simp[G.fin,h]⟩
   have hvlen:=q8Y hri
   have hul:us.length=rs.length:=by rw[hvl,hrl]
   -- what the places of the result's tokens are
   have htk:∀m,look (v.tkR 2000) m=if 2000≤m then(match vs[m-2000]? with|some (.ts _ _ cs)=>some (some cs.length)|_=>none)else none:=by
    intro m
    cases rs with
    |nil=>cases v <;> simp[q7E]at hretV;subst hretV;simp only[V.tkR,q3b] <;> rfl
    |cons x1 rs1=>cases rs1 with
     |nil=>
      simp only[q7E]at hretV
      cases hretV
      obtain⟨x',_,hi'⟩:=q00 hri (i:=0) (v:=v) rfl
      have hnt:v.tkR 2000=v.q0N 2000:=by
       cases v <;> simp[V.tkR]
       simp[H9,V.plain]at hi'
      rw[hnt,z3T]
      by_cases hm:2000=m
      ·subst hm;simp;cases v <;> rfl
      ·rw[if_neg hm]
       by_cases hm2:2000≤m
       ·rw[if_pos hm2,show m-2000=(m-2001)+1 by omega];simp
       ·rw[if_neg hm2]
     |cons x2 rs2=>cases v <;> simp[q7E]at hretV;subst hretV;simp only[V.tkR,q3b] <;> rfl
   have cfin:z8 (Γ'.fin (c9 L) (q0H 2000 rs vs)) w' (S.fin v L A'):=by
    refine c'.sub (s':=S.fin v L A') hsub rfl (fun n h=>by simp[G.fin,show c9 L n=false from h]) hA.symm hAok hL hLok (hA ▸ hall) (fun b o sz h=>?_) (fun m M h=>?_) (fun m h=>?_)
    ·simp only[G.fin]at h
     cases hk:Γ'.κ b with
     |none=>simp[hk]at h
     |some y=>
      obtain⟨o',sz'⟩:=y
      cases o' with
      |home k p=>simp[hk]at h;exact⟨_,by rw[h.2],fun T hT=>by rw[←h.1];exact hT⟩
      |tok t=>
       simp only[hk]at h
       split at h
       ·simp at h;exact⟨_,by rw[h.2],fun T _=>by rw[←h.1];trivial⟩
       ·cases h
    · -- a live token of the result
     have h:look (v.tkR 2000) m=some (some M):=by
      unfold S.live F1 at h
      change (match look (v.tkR 2000) m with|some (some L)=>some L|_=>none)=some M at h
      cases hl:look (v.tkR 2000) m with
      |none=>simp[hl]at h
      |some y=>cases y with
       |none=>simp[hl]at h
       |some M'=>simp[hl]at h;rw[h]
     rw[htk]at h
     by_cases hm:2000≤m
     ·rw[if_pos hm]at h
      cases hv:vs[m-2000]? with
      |none=>simp[hv]at h
      |some v1=>
       obtain⟨x1,hx1,hi1⟩:=q00 hri hv
       cases v1 <;> simp[hv]at h
       rename_i eb e cs
       subst h
       have hlook:=q5e (n:=2000) (xs:=rs) (vs:=vs) (m:=m)
       rw[if_pos hm,hx1,hv]at hlook
       simp only[H9]at hi1
       cases x1 <;> simp only at hi1 hlook
       ·obtain⟨rfl,rfl,rfl,hlive⟩:=hi1
        rename_i cs' t
        obtain⟨y,a1,a2⟩:=c'.tok t _ hlive
        refine⟨y,by simp[G.fin,hlook,a1],fun b pos sz hy=>?_⟩
        obtain⟨a3,a4⟩:=a2 b pos sz hy
        exact⟨a3,by simp[G.fin,a4,q7J hnd hlook]⟩
       ·obtain⟨rfl,rfl,rfl⟩:=hi1
        exact⟨none,by simp[G.fin,hlook],fun b pos sz h=>by cases h⟩
       ·subst hi1
        exact⟨none,by simp[G.fin,hlook],fun b pos sz h=>by cases h⟩
     ·rw[if_neg hm]at h;cases h
    · -- tokens known
     have:look (q0H 2000 rs vs) m≠none:=by
      intro e;simp[G.fin,e]at h
     rw[q5e]at this
     unfold S.known
     change (look (v.tkR 2000) m).isSome=true
     rw[htk]
     by_cases hm:2000≤m
     ·rw[if_pos hm]at this ⊢
      cases hv:vs[m-2000]? with
      |none=>rw[hv]at this;cases hx1:rs[m-2000]? with
       |none=>simp[hx1]at this
       |some x1=>simp[hx1]at this
      |some v1=>
       rw[hv]at this
       cases v1
       case ts=>rfl
       all_goals (exfalso;cases hx1:rs[m-2000]? with
        |none=>simp[hx1]at this
        |some x1=>simp[hx1]at this)
     ·rw[if_neg hm]at this;exact absurd rfl this
   have hres':(results fn a.tmps).run X.P w'= .ok (if h:us.length=1 then us[0]else .tuple us.toArray) w':=by
    have hmap:(fn.results.mapM (q4H a)).run X.P w'= .ok us.toArray w':=by
     rw[Array.mapM_eq_mapM_toList]
     simp only[Sem.run_map]at hvs ⊢
     rw[hvs]
     rfl
    rw[z8Z]
    simp only[Sem.run_bind]
    rw[hmap]
    simp only[Result.andThen_ok,Sem.run_pure,List.size_toArray]
    split <;> simp
   have hone:∀(i:Nat) (v1:V) (u:Value),vs[i]? =some v1→us[i]? =some u→q9 (Γ'.fin (c9 L) (q0H 2000 rs vs)) (v1.slot (2000+i)) u:=by
    intro i v1 u hv1 hu
    obtain⟨x1,hx1,hi1⟩:=q00 hri hv1
    refine z7D c' hsub (hvr i x1 u hx1 hu) hi1 fun eb e cs hts=>?_
    subst hts
    have hlook:=q5e (n:=2000) (xs:=rs) (vs:=vs) (m:=2000+i)
    rw[if_pos (by omega),show 2000+i-2000=i by omega,hx1,hv1]at hlook
    simp only[H9]at hi1
    cases x1 <;> simp only at hi1 hlook ⊢ <;> exact hlook
   have hpl:∀(i:Nat) (x:V),(X6 2000 vs)[i]? =some x→x.plain=true:=by
    intro i x hx
    rw[q4F]at hx
    cases hv1:vs[i]? with
    |none=>simp[hv1]at hx
    |some v1=>
     simp[hv1]at hx
     subst hx
     obtain⟨x1,_,hi1⟩:=q00 hri hv1
     cases v1 <;> simp only[H9]at hi1 <;> first|rfl|(exact hi1.2.2.1)
   have hrv:q9 (Γ'.fin (c9 L) (q0H 2000 rs vs)) (v.X7 2000) (if h:us.length=1 then us[0]else .tuple us.toArray):=by
    by_cases h1:us.length=1
    ·rw[dif_pos h1]
     cases rs with
     |nil=>rw[hul]at h1;simp at h1
     |cons x1 rs1=>cases rs1 with
      |nil=>
       simp only[q7E]at hretV;cases hretV
       have:=hone 0 v us[0] rfl (List.getElem?_eq_getElem (by omega))
       have hsr:v.X7 2000=v.slot 2000:=by
        cases v <;> simp[V.X7]
        obtain⟨x',_,hi'⟩:=q00 hri (i:=0) rfl
        simp[H9,V.plain]at hi'
       rw[hsr];exact this
      |cons x2 rs2=>rw[hul]at h1;simp at h1
    ·rw[dif_neg h1]
     have hcap:y9 (Γ'.fin (c9 L) (q0H 2000 rs vs)) (X6 2000 vs) us:=y4f _ _ (by rw[q5C];omega) hpl fun i x u hx hu=>by
      rw[q4F]at hx
      cases hv1:vs[i]? with
      |none=>simp[hv1]at hx
      |some v1=>simp[hv1]at hx;subst hx;exact hone i v1 u hv1 hu
     have hvt:v= .tup vs:=by
      cases rs with
      |nil=>cases v <;> simp[q7E]at hretV;rw[hretV]
      |cons x1 rs1=>cases rs1 with
       |nil=>exact absurd hul h1
       |cons x2 rs2=>cases v <;> simp[q7E]at hretV;rw[hretV]
     subst hvt
     exact⟨_,rfl,by simpa using hcap⟩
   have gfin:GLe Γ' (Γ'.fin (c9 L) (q0H 2000 rs vs)):=⟨Hp.le_refl _,rfl,fun _ _=>rfl,fun _ _ h=>h,rfl,rfl,fun _ _ h=>h,fun _ h=>h⟩
   rcases he with rfl|rfl
   ·exact⟨hfr,_,hres',_,_,rfl,g1.trans gfin,cfin,hrv⟩
   ·exact⟨hfr,_,hres',_,_,rfl,g1.trans gfin,cfin,hrv⟩
  ·exact hres.elim
end
end Go.E
namespace Go.E
open Go
def dep (ops:List Oper) (i j:Nat):Prop:=∃o,ops[i]? =some o∧∃e∈o.after,Region.binds .any e=true∧e.on=j
inductive Anc (ops:List Oper):Nat→Nat→Prop where
 |one {i j:Nat}:dep ops i j→Anc ops j i
 |step {i j k:Nat}:dep ops i k→Anc ops j k→Anc ops j i
theorem Anc.closed {ops:List Oper} {D:Nat→Prop} (hD:∀i j,D i→dep ops i j→D j) {i j:Nat} (h:Anc ops j i) (hi:D i):D j:=by
 induction h with
 |one h=>exact hD _ _ hi h
 |step h _ ih=>exact ih (hD _ _ hi h)
structure Res where
 t:Nat
 v:V
 lo:List (Key × O)
 tn:List (Nat × Option Nat)
 s1:S
def om (s:S):Key ⊕ Nat→Option (O ⊕ Option Nat)
 | .inl k=>(s.obj k).map .inl
 | .inr t=>(look s.tk t).map .inr
def Res.om (r:Res):Key ⊕ Nat→Option (O ⊕ Option Nat)
 | .inl k=>(z6 r.lo k).map .inl
 | .inr t=>(look r.tn t).map .inr
def S.step (s:S) (o:Oper) (r:Res):S:=
 bif r.t==0 then s.set o.dst r.v else bif r.t==1 then(s.add r.lo r.tn).set o.dst r.v else r.s1.set o.dst r.v
theorem z58 (s:S) (d:Option Nat) (v:V):om (s.set d v)=om s:=by cases d <;> rfl
theorem y0e (s:S) (d:Option Nat) (v:V):(s.set d v).A=s.A:=by cases d <;> rfl
theorem y0z (s:S) (lo:List (Key × O)) (tn:List (Nat × Option Nat)) (k:Key ⊕ Nat) {r:Res} (h1:r.lo=lo) (h2:r.tn=tn):om (s.add lo tn) k=match r.om k with|some x=>some x|none=>om s k:=by
 subst h1;subst h2
 cases k with
 |inl k=>
  simp only[om,Res.om,S.add,S.obj,b6,H2]
  cases z6 r.lo k <;> rfl
 |inr t=>
  simp only[om,Res.om,S.add,q0P]
  cases look r.tn t <;> rfl
theorem z08 {s:S} {o:Oper} {r:Res} (h:r.t=0):om (s.step o r)=om s:=by unfold S.step;rw[h];exact z58 _ _ _
theorem q7L {s:S} {o:Oper} {r:Res} (h:r.t=1) (k:Key ⊕ Nat):om (s.step o r) k=match r.om k with|some x=>some x|none=>om s k:=by
 unfold S.step;rw[h]
 exact(congrFun (z58 _ _ _) k).trans (y0z s _ _ k rfl rfl)
theorem z57 {s:S} {o:Oper} {r:Res} (h:r.t=2):om (s.step o r)=om r.s1:=by unfold S.step;rw[h];exact z58 _ _ _
theorem y2j {s:S} {o:Oper} {r:Res} (h3:r.t=0∨r.t=1∨r.t=2) (h2:r.t=2→r.s1.env=s.env) (t:Nat):(s.step o r).get t=if o.dst=some t then r.v else s.get t:=by
 unfold S.step
 rcases h3 with h|h|h
 ·rw[h];exact q2w _ _ _ _
 ·rw[h];exact q2w _ _ _ _
 ·have e:r.s1.get t=s.get t:=by simp only[S.get,h2 h]
  rw[h,←e];exact q2w _ _ _ _
theorem y42 {s:S} {o:Oper} {r:Res} (h3:r.t=0∨r.t=1∨r.t=2) (h2:r.t=2→r.s1.A=s.A):(s.step o r).A=s.A:=by
 unfold S.step
 rcases h3 with h|h|h
 ·rw[h];exact y0e _ _ _
 ·rw[h];exact y0e _ _ _
 ·rw[h,←h2 h];exact y0e _ _ _
def U8 (ops:Array Oper) (s:S) (o:Oper):Option Bool:=
 match o.guard with
 |none=>some true
 |some (j,want)=>match q1p ops j with
  |none=>none
  |some t=>match s.get t with
   | .d .bool c=>some (c.toBool==want)
   | .tup []=>some false
   |_=>none
def z0f (X:Cx) (Q:S→Prop) (o:Oper) (ρ:Operand→V) (v:V):Prop:=
 ∀(Γ:G) (w:World) (a:Act) (s:S),Γ.gl=X.gl→z8 Γ w s→Q s→(∀y∈o.op.operands,q9 Γ (ρ y) (a.eval y))→w4 X.P o a w (u2 Γ w s v)
def OkR (X:Cx) (Q:S→Prop) (ops:Array Oper) (base s:S) (o:Oper) (r:Res):Prop:=
 (U8 ops s o=some false∧r.t=0∧r.v= .tup [])∨
 (U8 ops s o=some true∧(
  (r.t=0∧z0f X Q o (y5 X.gl s) r.v)∨
  (r.t=1∧y0a X base o (y5 X.gl s) s r.v r.lo r.tn∧z5r s r.lo r.tn)∨
  (r.t=2∧y3i X o (y5 X.gl s) s r.v r.s1)))
theorem OkR.mono {X:Cx} {Q Q':S→Prop} {ops:Array Oper} {base s:S} {o:Oper} {r:Res} (h:OkR X Q ops base s o r) (hq:∀s,Q' s→Q s):OkR X Q' ops base s o r:=by
 rcases h with h|⟨h0,h|h|h⟩
 ·exact .inl h
 ·exact .inr ⟨h0,.inl ⟨h.1,fun Γ w a s g c q=>h.2 Γ w a s g c (hq s q)⟩⟩
 ·exact .inr ⟨h0,.inr (.inl h)⟩
 ·exact .inr ⟨h0,.inr (.inr h)⟩
def QC (n:Nat) (c:Nat→S) (s:S):Prop:=∀k o,(∀p,p≤n→(c p).obj k=some o)→s.obj k=some o
def p8 (rs:Nat→Res):Nat→Nat
 |0=>0
 |i+1=>if(rs i).t=2 then i+1 else p8 rs i
theorem F8 (rs:Nat→Res):∀i,p8 rs i≤i
 |0=>Nat.le_refl _
 |i+1=>by simp only[p8];split;exact Nat.le_refl _;exact Nat.le_succ_of_le (F8 rs i)
theorem q9Y (rs:Nat→Res):∀i k,k<i→(rs k).t=2→k<p8 rs i
 |0,k,h,_=>by omega
 |i+1,k,h,ht=>by
  simp only[p8]
  split
  ·exact h
  ·rename_i hi
   refine q9Y rs i k ?_ ht
   rcases Nat.lt_succ_iff_lt_or_eq.1 h with h|h
   ·exact h
   ·subst h;exact absurd ht hi
theorem z1i (rs:Nat→Res):∀i,p8 rs i=0∨∃k,p8 rs i=k+1∧(rs k).t=2
 |0=>.inl rfl
 |i+1=>by
  simp only[p8]
  split
  ·exact .inr ⟨i,rfl,‹_›⟩
  ·exact z1i rs i
structure Canon (X:Cx) (ops:List Oper) (s0:S) (rs:Nat→Res) (c:Nat→S):Prop where
 c0:c 0=s0
 cs:∀i o,ops[i]? =some o→c (i+1)=(c i).step o (rs i)
 ok:∀i o,ops[i]? =some o→OkR X (QC ops.length c) ops.toArray (c (p8 rs i)) (c i) o (rs i)
 tri:∀i,(rs i).t=0∨(rs i).t=1∨(rs i).t=2
def writes (ops:List Oper) (j t:Nat):Prop:=∃o,ops[j]? =some o∧o.dst=some t
def looks (ops:List Oper) (i t:Nat):Prop:=∃o,ops[i]? =some o∧t∈o.looksAt ops.toArray
structure Orders (ops:List Oper) (rs:Nat→Res):Prop where
 lt:∀i j,dep ops i j→j<i
 tt:∀i j,i<ops.length→j<ops.length→(rs i).t=2→(rs j).t≠0→j≠i→(j<i∧Anc ops j i)∨(i<j∧Anc ops i j)
 X6:∀i j t,j≠i→writes ops j t→looks ops i t→(j<i∧Anc ops j i)∨(i<j∧Anc ops i j)
 one:∀i j t,writes ops i t→writes ops j t→i=j
theorem OkR.env {X:Cx} {Q:S→Prop} {ops:Array Oper} {base s:S} {o:Oper} {r:Res} (h:OkR X Q ops base s o r) (ht:r.t=2):r.s1.env=s.env∧r.s1.A=s.A:=by
 rcases h with h|⟨_,h|h|h⟩
 ·omega
 ·omega
 ·omega
 ·exact⟨h.2.2.1,h.2.1⟩
section
variable {X:Cx} {ops:List Oper} {s0:S} {rs:Nat→Res} {c:Nat→S}
theorem getOp {i:Nat} (h:i<ops.length):∃o,ops[i]? =some o:=⟨_,List.getElem?_eq_getElem h⟩
theorem Canon.A (K:Canon X ops s0 rs c):∀i,i≤ops.length→(c i).A=s0.A
 |0,_=>by rw[K.c0]
 |i+1,h=>by
  obtain⟨o,ho⟩:=getOp (ops:=ops) (i:=i) (by omega)
  rw[K.cs i o ho,y42 (K.tri i) (fun ht=>((K.ok i o ho).env ht).2),K.A i (by omega)]
theorem Canon.y3c (K:Canon X ops s0 rs c) {i:Nat} {o:Oper} (ho:ops[i]? =some o) (t:Nat):(c (i+1)).get t=if o.dst=some t then(rs i).v else(c i).get t:=by
 rw[K.cs i o ho];exact y2j (K.tri i) (fun ht=>((K.ok i o ho).env ht).1) t
theorem Canon.z9A (K:Canon X ops s0 rs c) (Od:Orders ops rs) {j t:Nat} (hw:writes ops j t):∀i,j<i→i≤ops.length→(c i).get t=(rs j).v
 |0,h,_=>by omega
 |i+1,h,hi=>by
  obtain⟨o,ho⟩:=getOp (ops:=ops) (i:=i) (by omega)
  rw[K.y3c ho]
  by_cases hji:j=i
  ·subst hji
   obtain⟨o',h1,h2⟩:=hw
   rw[ho]at h1;cases h1
   rw[if_pos h2]
  ·have hd:¬o.dst=some t:=fun e=>hji (Od.one j i t hw ⟨o,ho,e⟩)
   rw[if_neg hd]
   exact K.z9A Od hw i (by omega) (by omega)
theorem Canon.z5f (K:Canon X ops s0 rs c) {t:Nat}:∀i,i≤ops.length→(∀j,j<i→¬writes ops j t)→(c i).get t=s0.get t
 |0,_,_=>by rw[K.c0]
 |i+1,hi,hw=>by
  obtain⟨o,ho⟩:=getOp (ops:=ops) (i:=i) (by omega)
  have hd:¬o.dst=some t:=fun e=>hw i (by omega) ⟨o,ho,e⟩
  rw[K.y3c ho,if_neg hd]
  exact K.z5f i (by omega) (fun j hj=>hw j (by omega))
theorem Canon.fresh (K:Canon X ops s0 rs c) {i:Nat} (hi:i<ops.length) (ht:(rs i).t=1) {k:Key ⊕ Nat} {x:O ⊕ Option Nat} (h:(rs i).om k=some x):om (c i) k=none:=by
 obtain⟨o,ho⟩:=getOp hi
 rcases K.ok i o ho with h1|⟨_,h1|h1|h1⟩
 ·omega
 ·omega
 ·have hf:=h1.2.2
  cases k with
  |inl k=>
   simp only[Res.om,Option.map_eq_some_iff]at h
   obtain⟨y,h,_⟩:=h
   simp only[om,hf.l k y h,Option.map_none]
  |inr t=>
   simp only[Res.om,Option.map_eq_some_iff]at h
   obtain⟨y,h,_⟩:=h
   have:=hf.t t y h
   simp only[S.known]at this
   simp only[om]
   cases hh:look (c i).tk t with
   |none=>rfl
   |some z=>rw[hh]at this;cases this
 ·omega
theorem Canon.mono (K:Canon X ops s0 rs c) {k:Key ⊕ Nat} {x:O ⊕ Option Nat} {i:Nat}:∀j,i≤j→j≤ops.length→(∀m,i≤m→m<j→(rs m).t≠2)→om (c i) k=some x→om (c j) k=some x
 |0,h,_,_,hx=>by have:i=0:=by omega
                 subst this;exact hx
 |j+1,h,hj,hn,hx=>by
  by_cases he:i=j+1
  ·subst he;exact hx
  ·have ih:=K.mono j (by omega) (by omega) (fun m h1 h2=>hn m h1 (by omega)) hx
   obtain⟨o,ho⟩:=getOp (ops:=ops) (i:=j) (by omega)
   rw[K.cs j o ho]
   rcases K.tri j with h1|h1|h1
   ·rw[z08 h1];exact ih
   ·rw[q7L h1]
    cases hr:(rs j).om k with
    |none=>exact ih
    |some y=>have:=K.fresh (by omega) h1 hr;rw[ih]at this;cases this
   ·exact absurd h1 (hn j (by omega) (by omega))
theorem Canon.obj (K:Canon X ops s0 rs c) (k:Key ⊕ Nat):∀i,i≤ops.length→
  (∀j x,j<i→p8 rs i≤j→(rs j).t=1→(rs j).om k=some x→om (c i) k=some x)∧
  ((∀j,j<i→p8 rs i≤j→(rs j).t=1→(rs j).om k=none)→om (c i) k=om (c (p8 rs i)) k)
 |0,_=>⟨fun j x h=>by omega,fun _=>rfl⟩
 |i+1,hi=>by
  obtain⟨h1,h2⟩:=K.obj k i (by omega)
  obtain⟨o,ho⟩:=getOp (ops:=ops) (i:=i) (by omega)
  simp only[p8]
  rcases K.tri i with ht|ht|ht
  ·rw[if_neg (by omega),K.cs i o ho,z08 ht]
   refine⟨fun j x h3 h4 h5 h6=>?_,fun h3=>h2 fun j h4 h5 h6=>h3 j (by omega) h5 h6⟩
   rcases Nat.lt_succ_iff_lt_or_eq.1 h3 with h7|h7
   ·exact h1 j x h7 h4 h5 h6
   ·subst h7;omega
  ·rw[if_neg (by omega),K.cs i o ho,q7L ht]
   refine⟨fun j x h3 h4 h5 h6=>?_,fun h3=>?_⟩
   ·rcases Nat.lt_succ_iff_lt_or_eq.1 h3 with h7|h7
    ·have:=h1 j x h7 h4 h5 h6
     cases hr:(rs i).om k with
     |none=>exact this
     |some y=>have h8:=K.fresh (by omega) ht hr;rw[this]at h8;cases h8
    ·subst h7;rw[h6]
   ·rw[h3 i (by omega) (Nat.le_of_lt_succ (Nat.lt_succ_of_le (F8 rs i))) ht]
    exact h2 fun j h4 h5 h6=>h3 j (by omega) h5 h6
  ·rw[if_pos ht]
   exact⟨fun j x h3 h4=>by omega,fun _=>rfl⟩
end
end Go.E
namespace Go.E
open Go
section
variable {X:Cx} {ops:List Oper} {s0:S} {rs:Nat→Res} {c:Nat→S}
def q59 (X:Cx) (ops:List Oper) (s0:S) (rs:Nat→Res) (c:Nat→S) (Γ0:G) (n:Nat) (D:Nat→Prop) (a:Act) (w:World):Prop:=
 ∃Γ sD p,GLe Γ0 Γ∧Γ.gl=X.gl∧z8 Γ w sD∧AOk s0.A∧a.tmps.size=n∧a.defers=[]∧
  p≤ops.length∧(p=0∨∃k,p=k+1∧(rs k).t=2∧D k)∧(∀k,D k→(rs k).t=2→k<p)∧
  (∀k j x,D j→p≤j→(rs j).t=1→(rs j).om k=some x→om sD k=some x)∧
  (∀k,(∀j,D j→p≤j→(rs j).t=1→(rs j).om k=none)→om sD k=om (c p) k)∧
  (∀j t,D j→writes ops j t→q9 Γ (rs j).v (a.tmps.getD t undef))∧
  (∀t,(∀j,D j→¬writes ops j t)→q9 Γ (s0.get t) (a.tmps.getD t undef))
theorem z3Q {Γ:G} {a:Act} {s:S} {o:Oper} {b:Bool} {l:Array Oper} (h:U8 l s o=some b) (hs:∀t,t∈o.looksAt l→q9 Γ (s.get t) (a.tmps.getD t undef)):
  Region.wanted o (yielded l a.tmps)=b:=by
 unfold U8 at h
 split at h
 ·rename_i hg
  cases h
  simp[Region.wanted,hg]
 ·rename_i j want hg
  split at h
  ·cases h
  ·rename_i t ht
   have hst:=hs t (by
    simp only[Oper.looksAt,hg,List.mem_append]
    right
    simp only[q1p]at ht
    rw[ht];simp)
   split at h
   ·rename_i b' hb
    cases h
    rw[hb]at hst
    exact z2k hg ht hst
   ·rename_i hb
    cases h
    rw[hb]at hst
    exact z0P hg ht hst
   ·cases h
theorem z9I {Γ:G} {w:World} {s s':S} {a:Act} (hgl:Γ.gl=X.gl) (c:z8 Γ w s') {y:Operand} (hy:q6m y=true) (ht:∀t,y= .tmp t→q9 Γ (s.get t) (a.tmps.getD t undef)):
  q9 Γ (y5 X.gl s y) (a.eval y):=by
 cases y with
 |tmp t=>exact ht t rfl
 |const v=>exact q6y (y:=.const v) (s:=⟨[],[],fun _=>none,[]⟩) hgl c (fun i=>by simp[S.get,look,q9]) hy
 |global g=>exact q6y (y:=.global g) (s:=⟨[],[],fun _=>none,[]⟩) (a:=a) hgl c (fun i=>by simp[S.get,look,q9]) hy
 |func f=>exact q6y (y:=.func f) (s:=⟨[],[],fun _=>none,[]⟩) (a:=a) hgl c (fun i=>by simp[S.get,look,q9]) hy
theorem z8i {a:Act} {d:Option Nat} {v:Value} {t:Nat} (h:d≠some t):(a.put d v).tmps.getD t undef=a.tmps.getD t undef:=by
 cases d with
 |none=>rfl
 |some e=>
  have:e≠t:=fun he=>h (by rw[he])
  simp only[Act.put,Array.getD_eq_getD_getElem?,Array.getElem?_setIfInBounds_ne this]
theorem y1Y {a:Act} {t:Nat} {v:Value} (h:t<a.tmps.size):(a.put (some t) v).tmps.getD t undef=v:=by
 simp[Act.put,h]
theorem y4E {s s':S} (h:∀k,om s' k=om s k) (k:Key):s'.obj k=s.obj k:=by
 have:=h (.inl k)
 simp only[om]at this
 cases h1:s'.obj k <;> cases h2:s.obj k <;> rw[h1,h2]at this
 ·cases this
 ·cases this
 ·cases this;rfl
theorem y23 {s s':S} (h:∀k,om s' k=om s k) (t:Nat):look s'.tk t=look s.tk t:=by
 have:=h (.inr t)
 simp only[om]at this
 cases h1:look s'.tk t <;> cases h2:look s.tk t <;> rw[h1,h2]at this
 ·cases this
 ·cases this
 ·cases this;rfl
theorem z8.om {Γ:G} {w:World} {s s':S} (c:z8 Γ w s) (h:∀k,Go.E.om s' k=Go.E.om s k):z8 Γ w s':=
 c.congr (y4E h) (q9j (y23 h)) (fun t ht=>by rw[q8x (y23 h)];exact ht)
theorem q9U {s:S} {k:Key} {o:O}:om s (.inl k)=some (.inl o)↔s.obj k=some o:=by simp[om]
theorem z9e {s:S} {k:Key}:om s (.inl k)=none↔s.obj k=none:=by simp[om]
variable {Γ0:G} {n:Nat} {D:Nat→Prop}
theorem y1N (hP:x4 X.P=true) (K:Canon X ops s0 rs c) (Od:Orders ops rs) (hok:∀o∈ops,q4Z n o=true) (hDl:∀j,D j→j<ops.length) (hD:∀i j,D i→dep ops i j→D j) {i:Nat} (hi:i<ops.length) (hiD:¬D i) (hdep:∀j,dep ops i j→D j)
  {a:Act} {w:World} {Q:Exit→Act→World→Prop} (h:q59 X ops s0 rs c Γ0 n D a w):wpOp X.P ops.toArray Q i (q59 X ops s0 rs c Γ0 n (fun j=>D j∨j=i)) a w:=by
 obtain⟨Γ,sD,p,g1,g3,hc,hA,hn,hf,hp0,hp1,hp2,ob1,ob2,ew,e0⟩:=h
 obtain⟨o,ho⟩:=getOp hi
 -- what is before i is done; what is behind i is not
 have hD':∀k j,(D k∨k=i)→dep ops k j→(D j∨j=i):=by
  rintro k j (h|rfl) hd
  ·exact .inl (hD k j h hd)
  ·exact .inl (hdep j hd)
 have before:∀j,j≠i→Anc ops j i→D j:=fun j hj ha=>(Anc.closed hD' ha (.inr rfl)).resolve_right hj
 have behind:∀k,D k→¬Anc ops i k:=fun k hk ha=>hiD (Anc.closed hD ha hk)
 have later:∀k,D k→(rs k).t=2→i<k→(rs i).t=0:=by
  intro k hk ht hik
  by_cases h0:(rs i).t=0
  ·exact h0
  ·rcases Od.tt k i (hDl k hk) hi ht h0 (by omega)with⟨_,ha⟩|⟨h1,_⟩
   ·exact absurd ha (behind k hk)
   ·omega
 have slot:∀t,looks ops i t→q9 Γ ((c i).get t) (a.tmps.getD t undef):=by
  intro t ht
  by_cases hw:∃j,j≠i∧writes ops j t
  ·obtain⟨j,hj,hw⟩:=hw
   rcases Od.X6 i j t hj hw ht with⟨hlt,ha⟩|⟨hlt,ha⟩
   ·rw[K.z9A Od hw i hlt (by omega)]
    exact ew j t (before j hj ha) hw
   ·have hDj:¬D j:=fun h=>behind j h ha
    have uniq:∀j',writes ops j' t→j'=j:=fun j' h=>Od.one j' j t h hw
    rw[K.z5f (t:=t) i (by omega) (fun j' hj' h=>by have:=uniq j' h;omega)]
    exact e0 t (fun j' hj' h=>hDj (uniq j' h ▸ hj'))
  ·have nw:∀j',writes ops j' t→j'=i:=fun j' h=>Classical.byContradiction fun hne=>hw ⟨j',hne,h⟩
   rw[K.z5f (t:=t) i (by omega) (fun j' hj' h=>by have:=nw j' h;omega)]
   exact e0 t (fun j' hj' h=>hiD (nw j' h ▸ hj'))
 have hko:=hok o (List.mem_of_getElem? ho)
 simp only[q4Z,Bool.and_eq_true,Array.all_eq_true']at hko
 have hd:∀t,o.dst=some t→t<a.tmps.size:=by
  intro t ht
  have h2:=hko.2
  rw[ht]at h2
  rw[hn]
  exact of_decide_eq_true h2
 have hops:∀y∈o.op.operands,q9 Γ (y5 X.gl (c i) y) (a.eval y):=fun y hy=>z9I g3 hc (hko.1 y hy) fun t ht=>slot t ⟨o,ho,by
  subst ht
  simp only[Oper.looksAt,List.mem_append,List.mem_filterMap]
  exact .inl ⟨.tmp t,by simpa using hy,rfl⟩⟩
 have wr:∀j t,writes ops j t→j≠i→o.dst≠some t:=fun j t hw hj hdt=>hj (Od.one j i t hw ⟨o,ho,hdt⟩)
 -- what all kinds of operations share
 have fin:∀{u:Value} {w':World} {Γ':G} {sD':S} {p':Nat},GLe Γ Γ'→Γ'.gl=X.gl→z8 Γ' w' sD'→p'≤ops.length→(p'=0∨∃k,p'=k+1∧(rs k).t=2∧(D k∨k=i))→
   (∀k,(D k∨k=i)→(rs k).t=2→k<p')→(∀k j x,(D j∨j=i)→p'≤j→(rs j).t=1→(rs j).om k=some x→om sD' k=some x)→
   (∀k,(∀j,(D j∨j=i)→p'≤j→(rs j).t=1→(rs j).om k=none)→om sD' k=om (c p') k)→
   s8 Γ Γ'→q9 Γ' (rs i).v u→
   q59 X ops s0 rs c Γ0 n (fun j=>D j∨j=i) (a.put o.dst u) w':=by
  intro u w' Γ' sD' p' gle hgl' c' q0 q1 q2 qo1 qo2 keep hv
  refine⟨Γ',sD',p',g1.trans gle,hgl',c',hA,?_,?_,q0,q1,q2,qo1,qo2,?_,?_⟩
  ·cases o.dst <;> simp[Act.put,hn]
  ·cases o.dst <;> simp[Act.put,hf]
  ·rintro j t (hj|rfl) hw
   ·have hji:j≠i:=fun e=>hiD (e ▸ hj)
    rw[z8i (wr j t hw hji)]
    exact(ew j t hj hw).o6 keep
   ·obtain⟨o',h1,h2⟩:=hw
    rw[ho]at h1;cases h1
    rw[h2,y1Y (hd t h2)];exact hv
  ·intro t hw
   rw[z8i (fun e=>hw i (.inr rfl) ⟨o,ho,e⟩)]
   exact(e0 t (fun j hj=>hw j (.inl hj))).o6 keep
 -- a value alone
 have value:∀{u:Value} {w':World} {Γ':G},(rs i).t=0→GLe Γ Γ'→Γ'.gl=X.gl→z8 Γ' w' sD→s8 Γ Γ'→q9 Γ' (rs i).v u→
   q59 X ops s0 rs c Γ0 n (fun j=>D j∨j=i) (a.put o.dst u) w':=by
  intro u w' Γ' ht gle hgl' c' keep hv
  refine fin gle hgl' c' hp0 ?_ ?_ ?_ ?_ keep hv
  ·rcases hp1 with h|⟨k,h1,h2,h3⟩
   ·exact .inl h
   ·exact .inr ⟨k,h1,h2,.inl h3⟩
  ·rintro k (hk|rfl) htk
   ·exact hp2 k hk htk
   ·omega
  ·rintro k j x (hj|rfl) h1 h2 h3
   ·exact ob1 k j x hj h1 h2 h3
   ·omega
  ·exact fun k h=>ob2 k fun j hj h1 h2=>h j (.inl hj) h1 h2
 -- the phase
 have hpL:(rs i).t≠0→p=p8 rs i:=by
  intro hti
  have hTD:∀k,(rs k).t=2→k<i→D k:=by
   intro k hk hki
   rcases Od.tt k i (by omega) hi hk hti (by omega)with⟨h1,_⟩|⟨_,ha⟩
   ·omega
   ·exact before k (by omega) ha
  have h1:p≤p8 rs i:=by
   rcases hp1 with h|⟨k,h1,h2,h3⟩
   ·omega
   ·have hki:k<i:=by
     rcases Nat.lt_or_ge k i with h|h
     ·exact h
     ·rcases Nat.lt_or_eq_of_le h with h|h
      ·exact absurd (later k h3 h2 h) hti
      ·subst h;exact absurd h3 hiD
    have:=q9Y rs i k hki h2
    omega
  have h2:p8 rs i≤p:=by
   rcases z1i rs i with h|⟨k,h3,h4⟩
   ·omega
   ·have:=F8 rs i
    have:=hp2 k (hTD k h4 (by omega)) h4
    omega
  omega
 have noTj:∀j,D j→(rs j).t≠0→∀m,p≤m→m<j→(rs m).t≠2:=by
  intro j hj ht m hm hmj htm
  rcases Od.tt m j (by have:=hDl j hj;omega) (hDl j hj) htm ht (by omega)with⟨h1,_⟩|⟨_,ha⟩
  ·omega
  ·have:=hp2 m (Anc.closed hD ha hj) htm
   omega
 have noTi:(rs i).t≠0→∀m,p≤m→m<i→(rs m).t≠2:=by
  intro hti m hm hmi htm
  have:=q9Y rs i m hmi htm
  have:=hpL hti
  omega
 -- a key is one of an operation's that is done, or stands as at the phase's start
 have split2:∀k,(∃j x,D j∧p≤j∧(rs j).t=1∧(rs j).om k=some x)∨(∀j,D j→p≤j→(rs j).t=1→(rs j).om k=none):=by
  intro k
  by_cases h:∃j x,D j∧p≤j∧(rs j).t=1∧(rs j).om k=some x
  ·exact .inl h
  ·refine .inr fun j h1 h2 h3=>?_
   cases hr:(rs j).om k with
   |none=>rfl
   |some x=>exact absurd ⟨j,x,h1,h2,h3,hr⟩ h
 simp only[wpOp,List.getElem?_toArray,ho]
 have hslots:∀t,t∈o.looksAt ops.toArray→q9 Γ ((c i).get t) (a.tmps.getD t undef):=fun t ht=>slot t ⟨o,ho,ht⟩
 rcases K.ok i o ho with⟨hw,ht,hv⟩|⟨hw,hrest⟩
 ·rw[z3Q hw hslots]
  simp only[Bool.false_eq_true,if_false]
  exact value ht (.refl Γ) g3 hc (.refl Γ) (by rw[hv];exact z1Q)
 ·rw[z3Q hw hslots]
  simp only[if_true]
  left
  rcases hrest with⟨ht,hdo⟩|⟨ht,hdo,hfr⟩|⟨ht,hdo⟩
  ·have hQ:QC ops.length c sD:=fun k ob hk=>by
    rcases split2 (.inl k)with⟨j,y,hj,hpj,htj,hy⟩|hB
    ·have:=K.fresh (hDl j hj) htj hy
     rw[z9e,hk j (Nat.le_of_lt (hDl j hj))]at this
     cases this
    ·rw[←q9U,ob2 _ hB,q9U]
     exact hk p hp0
   refine hdo Γ w a sD g3 hc hQ hops _ _ ?_
   rintro u w' ⟨Γ',gle,kp,c',hv⟩
   exact value ht gle (gle.gl.trans g3) c' kp hv
  ·have hne:(rs i).t≠0:=by omega
   have hpl:=hpL hne
   have hpi:p≤i:=by rw[hpl];exact F8 rs i
   obtain⟨co1,co2⟩:(∀k j x,j<i→p≤j→(rs j).t=1→(rs j).om k=some x→om (c i) k=some x)∧(∀k,(∀j,j<i→p≤j→(rs j).t=1→(rs j).om k=none)→om (c i) k=om (c p) k):=by
    refine⟨fun k=>?_,fun k=>?_⟩
    ·rw[hpl];exact(K.obj k i (by omega)).1
    ·rw[hpl];exact(K.obj k i (by omega)).2
   have freshi:∀k x,(rs i).om k=some x→om sD k=none:=by
    intro k x hx
    have hfi:=K.fresh hi ht hx
    rcases split2 k with⟨j,y,hj,hpj,htj,hy⟩|hB
    ·exfalso
     rcases Nat.lt_or_ge j i with hlt|hge
     ·have:=co1 k j y hlt hpj htj hy
      rw[hfi]at this;cases this
     ·have hij:i≠j:=fun e=>hiD (e ▸ hj)
      have h1:om (c (i+1)) k=some x:=by rw[K.cs i o ho,q7L ht,hx]
      have h2:=K.mono j (by omega) (Nat.le_of_lt (hDl j hj)) (fun m hm hmj=>noTj j hj (by omega) m (by omega) hmj) h1
      have h3:=K.fresh (hDl j hj) htj hy
      rw[h2]at h3;cases h3
    ·rw[ob2 k hB]
     cases hcpk:om (c p) k with
     |none=>rfl
     |some y=>
      have:=K.mono i hpi (by omega) (noTi hne) hcpk
      rw[hfi]at this;cases this
   have hcompat:Compat sD (c i) (c (p8 rs i)):=by
    rw[←hpl]
    refine⟨fun k x hx hne'=>?_,fun k x hx=>?_⟩
    ·rw[←q9U]at hx ⊢
     rw[Ne,←z9e]at hne'
     rcases split2 (.inl k)with⟨j,y,hj,hpj,htj,hy⟩|hB
     ·have hsD:=ob1 _ j y hj hpj htj hy
      have hfj:=K.fresh (hDl j hj) htj hy
      rcases Nat.lt_or_ge j i with hlt|hge
      ·have h1:=co1 _ j y hlt hpj htj hy
       rw[hx]at h1;cases h1
       exact hsD
      ·have:=K.mono j hge (Nat.le_of_lt (hDl j hj)) (fun m hm hmj=>noTj j hj (by omega) m (by omega) hmj) hx
       rw[hfj]at this;cases this
     ·have hsD:=ob2 _ hB
      cases hcpk:om (c p) (.inl k)with
      |some y=>
       have:=K.mono i hpi (by omega) (noTi hne) hcpk
       rw[hx]at this;cases this
       rw[hsD,hcpk]
      |none=>rw[hcpk]at hsD;exact absurd hsD hne'
    ·rw[←q9U]at hx ⊢
     rcases split2 (.inl k)with⟨j,y,hj,hpj,htj,hy⟩|hB
     ·exfalso
      have hfj:=K.fresh (hDl j hj) htj hy
      have:=K.mono j hpj (Nat.le_of_lt (hDl j hj)) (fun m' hm hmj=>noTj j hj (by omega) m' hm hmj) hx
      rw[hfj]at this;cases this
     ·rw[ob2 _ hB];exact hx
   have hfresh:z5r sD (rs i).lo (rs i).tn:=by
    refine⟨fun k x hx=>?_,fun t x hx=>?_⟩
    ·exact z9e.1 (freshi (.inl k) (.inl x) (by simp[Res.om,hx]))
    ·have:=freshi (.inr t) (.inr x) (by simp[Res.om,hx])
     simp only[om,Option.map_eq_none_iff]at this
     simp[S.known,this]
   refine hdo Γ w a sD g3 hc hcompat hfresh hops _ _ ?_
   rintro u w' ⟨Γ',gle,kp,c',hv⟩
   have hom:∀k,om (sD.add (rs i).lo (rs i).tn) k=match(rs i).om k with|some x=>some x|none=>om sD k:=fun k=>y0z sD _ _ k rfl rfl
   refine fin gle (gle.gl.trans g3) c' hp0 ?_ ?_ ?_ ?_ kp hv
   ·rcases hp1 with h|⟨k,h1,h2,h3⟩
    ·exact .inl h
    ·exact .inr ⟨k,h1,h2,.inl h3⟩
   ·rintro k (hk|rfl) htk
    ·exact hp2 k hk htk
    ·omega
   ·rintro k j x (hj|rfl) h1 h2 h3
    ·rw[hom k]
     have:=ob1 k j x hj h1 h2 h3
     cases hr:(rs i).om k with
     |none=>exact this
     |some y=>rw[freshi k y hr]at this;cases this
    ·rw[hom k,h3]
   ·intro k h
    rw[hom k,h i (.inr rfl) hpi ht]
    exact ob2 k fun j hj h1 h2=>h j (.inl hj) h1 h2
  ·have hne:(rs i).t≠0:=by omega
   have hpl:=hpL hne
   have hpi:p≤i:=by rw[hpl];exact F8 rs i
   have notD:∀j,D j→(rs j).t≠0→j<i:=by
    intro j hj htj
    rcases Od.tt i j hi (hDl j hj) ht htj (fun e=>hiD (e ▸ hj))with⟨h1,_⟩|⟨_,ha⟩
    ·exact h1
    ·exact absurd ha (behind j hj)
   have hom:∀k,om (c i) k=om sD k:=by
    intro k
    rcases split2 k with⟨j,y,hj,hpj,htj,hy⟩|hB
    ·rw[ob1 k j y hj hpj htj hy]
     refine(K.obj k i (by omega)).1 j y (notD j hj (by omega)) (by rw[←hpl];exact hpj) htj hy
    ·rw[ob2 k hB,hpl]
     refine(K.obj k i (by omega)).2 fun j hj hpj htj=>?_
     rw[←hpl]at hpj
     rcases Od.tt i j hi (by omega) ht (by omega) (by omega)with⟨_,ha⟩|⟨h1,_⟩
     ·exact hB j (before j (by omega) ha) hpj htj
     ·omega
   refine hdo.2.2 Γ w a g3 (hc.om hom) hops _ _ ?_
   rintro u w' ⟨Γ',gle,kp,c',hv⟩
   refine fin (p':=i+1) gle (gle.gl.trans g3) c' (by omega) (.inr ⟨i,rfl,ht,.inr rfl⟩) ?_ ?_ ?_ kp hv
   ·rintro k (hk|rfl) htk
    ·have:=notD k hk (by omega);omega
    ·omega
   ·rintro k j x (hj|rfl) h1 h2 h3
    ·have:=notD j hj (by omega);omega
    ·omega
   ·intro k _
    rw[K.cs i o ho,z57 ht]
end
end Go.E
namespace Go.E
open Go
theorem z7Z {p q:Nat→Bool} {i:Nat} (hi:p i=false) (hq:∀j,q j=(p j||j==i)):∀n,i<n→(List.range n).countP q=(List.range n).countP p+1:=by
 have low:∀m,m≤i→(List.range m).countP q=(List.range m).countP p:=by
  intro m hm
  apply List.countP_congr
  intro j hj
  have:j≠i:=by have:=List.mem_range.1 hj;omega
  simp[hq j,this]
 intro n hn
 induction n with
 |zero=>omega
 |succ n ih=>
  rw[List.range_succ,List.countP_append,List.countP_append]
  by_cases h:i<n
  ·rw[ih h]
   have:n≠i:=by omega
   simp only[List.countP_singleton,hq n]
   have hb:(n==i)=false:=by simpa using this
   rw[hb,Bool.or_false];omega
  ·have:n=i:=by omega
   subst this
   rw[low n (Nat.le_refl _)]
   simp[hq n,hi]
section
variable {X:Cx} {ops:List Oper} {s0:S} {rs:Nat→Res} {c:Nat→S} {Γ0:G} {n:Nat}
theorem q59.congr {D D':Nat→Prop} (h:∀j,D j↔D' j) {a:Act} {w:World} (hi:q59 X ops s0 rs c Γ0 n D a w):q59 X ops s0 rs c Γ0 n D' a w:=by
 have:D=D':=funext fun j=>propext (h j)
 rw[←this];exact hi
theorem z1U {listed:Array Bool} {i:Nat} (hsz:listed.size=ops.length) (h:i∈Region.ready .any ops.toArray listed):
  i<ops.length∧listed.getD i false=false∧∀j,dep ops i j→listed.getD j false=true:=by
 simp only[Region.ready,List.size_toArray,List.mem_filter,List.mem_range,Bool.and_eq_true,Bool.not_eq_true',List.getElem?_toArray]at h
 obtain⟨h1,h2,h3⟩:=h
 refine⟨h1,?_,?_⟩
 ·have:i<listed.size:=by omega
  simpa[Array.getD,this]using h2
 ·rintro j ⟨o,ho,e,he,hb,rfl⟩
  rw[ho]at h3
  simp only[Option.map_some,Option.getD_some,Array.all_eq_true']at h3
  have:=h3 e he
  rw[hb]at this
  simpa using this
theorem y0x (Od:Orders ops rs) {listed:Array Bool} (hsz:listed.size=ops.length) (h:Region.ready .any ops.toArray listed=[]):∀i,i<ops.length→listed.getD i false=true:=by
 intro i
 induction i using Nat.strongRecOn with
 |_ i ih=>
  intro hi
  cases hl:listed.getD i false with
  |true=>rfl
  |false=>
   exfalso
   have:i∈Region.ready .any ops.toArray listed:=by
    simp only[Region.ready,List.size_toArray,List.mem_filter,List.mem_range,Bool.and_eq_true,Bool.not_eq_true',List.getElem?_toArray]
    have hs:i<listed.size:=by omega
    refine⟨hi,by simpa[Array.getD,hs]using hl,?_⟩
    rw[List.getElem?_eq_getElem hi]
    simp only[Option.map_some,Option.getD_some,Array.all_eq_true']
    intro e he
    cases hb:Region.binds .any e with
    |false=>rfl
    |true=>
     have hd:dep ops i e.on:=⟨_,List.getElem?_eq_getElem hi,e,he,hb,rfl⟩
     have hlt:=Od.lt i e.on hd
     simp only[Bool.not_true,Bool.false_or]
     exact ih e.on hlt (by omega)
   rw[h]at this
   cases this
theorem y1u (hP:x4 X.P=true) (K:Canon X ops s0 rs c) (Od:Orders ops rs) (hok:∀o∈ops,q4Z n o=true) {Q:Exit→Act→World→Prop}
  (hQ:∀a w,q59 X ops s0 rs c Γ0 n (fun j=>j<ops.length) a w→Q .normal a w):
  ∀(fuel:Nat) (listed:Array Bool) (a:Act) (w:World),listed.size=ops.length→fuel+(List.range ops.length).countP (fun j=>listed.getD j false)=ops.length→
   (∀i j,i<ops.length→listed.getD i false=true→dep ops i j→listed.getD j false=true)→
   q59 X ops s0 rs c Γ0 n (fun j=>j<ops.length∧listed.getD j false=true) a w→wpAny X.P .any ops.toArray Q fuel listed a w:=by
 intro fuel
 induction fuel with
 |zero=>
  intro listed a w hsz hc hcl hI
  have hall:∀j,j<ops.length→listed.getD j false=true:=by
   have:(List.range ops.length).countP (fun j=>listed.getD j false)=(List.range ops.length).length:=by rw[List.length_range];omega
   rw[List.countP_eq_length]at this
   exact fun j hj=>this j (List.mem_range.2 hj)
  refine⟨?_,hQ a w (hI.congr fun j=>⟨fun h=>h.1,fun h=>⟨h,hall j h⟩⟩)⟩
  apply List.eq_nil_iff_forall_not_mem.2
  intro i hi
  obtain⟨h1,h2,_⟩:=z1U hsz hi
  rw[hall i h1]at h2;cases h2
 |succ fuel ih=>
  intro listed a w hsz hc hcl hI
  refine⟨fun hr=>hQ a w (hI.congr fun j=>⟨fun h=>h.1,fun h=>⟨h,y0x Od hsz hr j h⟩⟩),fun i hi=>?_⟩
  obtain⟨h1,h2,h3⟩:=z1U hsz hi
  have hD:∀i j,(i<ops.length∧listed.getD i false=true)→dep ops i j→(j<ops.length∧listed.getD j false=true):=
   fun i j h hd=>⟨by have:=Od.lt i j hd;omega,hcl i j h.1 h.2 hd⟩
  have hstep:=y1N (Q:=Q) hP K Od hok (fun j h=>h.1) hD h1 (fun h=>by rw[h2]at h;cases h.2) (fun j hd=>⟨by have:=Od.lt i j hd;omega,h3 j hd⟩) hI
  refine wpOp_mono ?_ hstep
  intro a' w' hI'
  have hset:∀j,(listed.setIfInBounds i true).getD j false=(listed.getD j false||j==i):=by
   intro j
   simp only[Array.getD_eq_getD_getElem?,Array.getElem?_setIfInBounds]
   by_cases hji:i=j
   ·subst hji
    have:i<listed.size:=by omega
    simp[this]
   ·have:(j==i)=false:=by simpa using fun e=>hji e.symm
    simp[hji,this]
  refine ih _ a' w' (by simp[hsz]) ?_ ?_ (hI'.congr fun j=>?_)
  ·have:=z7Z (p:=fun j=>listed.getD j false) (q:=fun j=>(listed.setIfInBounds i true).getD j false) (i:=i) h2 hset ops.length h1
   omega
  ·intro k j hk hlk hd
   rw[hset]at hlk ⊢
   rcases Bool.or_eq_true_iff.1 hlk with h|h
   ·rw[hcl k j hk h hd];rfl
   ·have:k=i:=by simpa using h
    subst this
    rw[h3 j hd];rfl
  ·rw[hset]
   constructor
   ·rintro(h|rfl)
    ·exact⟨h.1,by rw[h.2];rfl⟩
    ·exact⟨h1,by simp⟩
   ·rintro⟨ha,hb⟩
    rcases Bool.or_eq_true_iff.1 hb with h|h
    ·exact .inl ⟨ha,h⟩
    ·exact .inr (by simpa using h)
theorem y0X (K:Canon X ops s0 rs c) {a:Act} {w:World} (h:At X n Γ0 s0 a w):q59 X ops s0 rs c Γ0 n (fun j=>j<ops.length∧(Array.replicate ops.length false).getD j false=true) a w:=by
 obtain⟨Γ,g1,g3,hc,hs,hn,hf,hA⟩:=h
 have no:∀j,¬(j<ops.length∧(Array.replicate ops.length false).getD j false=true):=by
  rintro j ⟨h1,h2⟩
  simp[Array.getD,h1]at h2
 exact⟨Γ,s0,0,g1,g3,hc,hA,hn,hf,Nat.zero_le _,.inl rfl,fun k h=>absurd h (no k),fun k j x h=>absurd h (no j),fun k _=>by rw[K.c0],fun j t h=>absurd h (no j),fun t _=>hs t⟩
theorem y3M (K:Canon X ops s0 rs c) (Od:Orders ops rs) {a:Act} {w:World} (h:q59 X ops s0 rs c Γ0 n (fun j=>j<ops.length) a w):At X n Γ0 (c ops.length) a w:=by
 obtain⟨Γ,sD,p,g1,g3,hc,hA,hn,hf,hp0,hp1,hp2,ob1,ob2,ew,e0⟩:=h
 have hpl:p=p8 rs ops.length:=by
  have h1:p≤p8 rs ops.length:=by
   rcases hp1 with h|⟨k,h1,h2,h3⟩
   ·omega
   ·have:=q9Y rs ops.length k h3 h2;omega
  have h2:p8 rs ops.length≤p:=by
   rcases z1i rs ops.length with h|⟨k,h3,h4⟩
   ·omega
   ·have:=F8 rs ops.length
    have:=hp2 k (by omega) h4
    omega
  omega
 have hom:∀k,om (c ops.length) k=om sD k:=by
  intro k
  by_cases h:∃j x,j<ops.length∧p≤j∧(rs j).t=1∧(rs j).om k=some x
  ·obtain⟨j,x,h1,h2,h3,h4⟩:=h
   rw[ob1 k j x h1 h2 h3 h4]
   exact(K.obj k _ (Nat.le_refl _)).1 j x h1 (by rw[←hpl];exact h2) h3 h4
  ·have hn:∀j,j<ops.length→p≤j→(rs j).t=1→(rs j).om k=none:=by
    intro j h1 h2 h3
    cases hr:(rs j).om k with
    |none=>rfl
    |some x=>exact absurd ⟨j,x,h1,h2,h3,hr⟩ h
   rw[ob2 k hn,hpl]
   exact(K.obj k _ (Nat.le_refl _)).2 fun j h1 h2 h3=>hn j h1 (by rw[hpl];exact h2) h3
 refine⟨Γ,g1,g3,hc.om hom,fun t=>?_,hn,hf,by rw[K.A _ (Nat.le_refl _)];exact hA⟩
 by_cases hw:∃j,j<ops.length∧writes ops j t
 ·obtain⟨j,hj,hw⟩:=hw
  rw[K.z9A Od hw _ hj (Nat.le_refl _)]
  exact ew j t hj hw
 ·rw[K.z5f (t:=t) _ (Nat.le_refl _) (fun j hj h=>hw ⟨j,hj,h⟩)]
  exact e0 t (fun j hj h=>hw ⟨j,hj,h⟩)
theorem y1j (hP:x4 X.P=true) (hm:X.P.follows .mixedOrders=true) {id:Nat} {Ψ:Exit→S→Prop} (K:Canon X ops s0 rs c) (Od:Orders ops rs) (hok:∀o∈ops,q4Z n o=true) (h:Ψ .normal (c ops.length)):
  DC X n (.region id ops.toArray true) s0 Ψ:=by
 intro Γ0 a w hat
 obtain⟨Γ,g1,g3,hc,hs,hn,hf⟩:=hat
 have hat':At X n Γ0 s0 a {w with drawn:=w.drawn+1}:=by
  exact⟨Γ,g1,g3,hc.ext (Ext.drew w),hs,hn,hf⟩
 refine wp_region_any hm ?_
 refine y1u hP K Od hok (fun a w hI=>⟨c ops.length,h,y3M K Od hI⟩) ops.length (Array.replicate ops.length false) a _ (by simp) ?_ ?_ (y0X K hat')
 ·have:(List.range ops.length).countP (fun j=>(Array.replicate ops.length false).getD j false)=0:=by
   apply List.countP_eq_zero.2
   intro j hj
   simp[Array.getD,List.mem_range.1 hj]
  omega
 ·intro i j hi hl
  simp[Array.getD,hi]at hl
end
end Go.E
namespace Go.E
open Go
def q7u (o:Oper):List Nat:=(o.after.toList.filter (Region.binds .any)).map (·.on)
def y4L (acc:List Nat) (ds:List Nat):Nat:=ds.foldl (fun m k=>m|||2^k|||acc.getD k 0) 0
def z3M:List Oper→List Nat→List Nat
 | [],acc=>acc
 |o::rest,acc=>z3M rest (acc++[y4L acc (q7u o)])
def y6x (ops:List Oper) (j i:Nat):Bool:=((z3M ops []).getD i 0).testBit j
theorem q8R (acc:List Nat) (j:Nat):∀(ds:List Nat) (m:Nat),(ds.foldl (fun m k=>m|||2^k|||acc.getD k 0) m).testBit j=true→m.testBit j=true∨∃k∈ds,j=k∨(acc.getD k 0).testBit j=true
 | [],m,h=>.inl h
 |k::ds,m,h=>by
  rcases q8R acc j ds _ h with h1|⟨k',hk,h1⟩
  ·simp only[Nat.testBit_or,Bool.or_eq_true,Nat.testBit_two_pow,decide_eq_true_eq]at h1
   rcases h1 with(h1|h1)|h1
   ·exact .inl h1
   ·exact .inr ⟨k,by simp,.inl h1.symm⟩
   ·exact .inr ⟨k,by simp,.inr h1⟩
  ·exact .inr ⟨k',by simp[hk],h1⟩
theorem z9k {ops:List Oper} {i k:Nat} {o:Oper} (ho:ops[i]? =some o) (h:k∈q7u o):dep ops i k:=by
 simp only[q7u,List.mem_map,List.mem_filter]at h
 obtain⟨e,⟨h1,h2⟩,h3⟩:=h
 exact⟨o,ho,e,by simpa using h1,h2,h3⟩
theorem z9S {ops:List Oper} {i k:Nat} {o:Oper} (ho:ops[i]? =some o) (h:dep ops i k):k∈q7u o:=by
 obtain⟨o',h1,e,h2,h3,h4⟩:=h
 rw[ho]at h1;cases h1
 simp only[q7u,List.mem_map,List.mem_filter]
 exact⟨e,⟨by simpa using h2,h3⟩,h4⟩
theorem z2T (ops:List Oper):∀(rest done:List Oper) (acc:List Nat),ops=done++rest→acc.length=done.length→(∀i j,(acc.getD i 0).testBit j=true→Anc ops j i)→
  ∀i j,((z3M rest acc).getD i 0).testBit j=true→Anc ops j i
 | [],_,acc,_,_,h=>h
 |o::rest,done,acc,he,hl,h=>by
  refine z2T ops rest (done++[o]) _ (by simp[he]) (by simp[hl]) ?_
  intro i j hij
  have ho:ops[acc.length]? =some o:=by rw[he,hl];simp
  simp only[List.getD_eq_getElem?_getD]at hij
  by_cases hi:i<acc.length
  ·rw[List.getElem?_append_left hi]at hij
   exact h i j (by simpa[List.getD_eq_getElem?_getD]using hij)
  ·by_cases hi2:i=acc.length
   ·subst hi2
    simp only[List.getElem?_concat_length,Option.getD_some]at hij
    rcases q8R acc j _ _ hij with h1|⟨k,hk,h1⟩
    ·simp at h1
    ·have hd:=z9k ho hk
     rcases h1 with rfl|h1
     ·exact .one hd
     ·exact .step hd (h k j h1)
   ·rw[List.getElem?_eq_none (by simp;omega)]at hij
    simp at hij
theorem z2U {ops:List Oper} {j i:Nat} (h:y6x ops j i=true):Anc ops j i:=
 z2T ops ops [] [] rfl rfl (fun i j h=>by simp at h) i j h
def tmpsOf:List Operand→List Nat
 | []=>[]
 | .tmp t::l=>t::tmpsOf l
 |_::l=>tmpsOf l
def lk (ops:Array Oper) (o:Oper):List Nat:=
 tmpsOf o.op.operands.toList++(match o.guard with
  |some (g,_)=>(match q1p ops g with|some t=>[t] |none=>[])
  |none=>[])
theorem z17 {t:Nat}:∀{l:List Operand},Operand.tmp t∈l→t∈tmpsOf l
 | [],h=>by simp at h
 |y::l,h=>by
  rcases List.mem_cons.1 h with h1|h1
  ·subst h1;simp[tmpsOf]
  ·have:=z17 h1
   cases y <;> simp[tmpsOf,this]
theorem y4K {ops:Array Oper} {o:Oper} {t:Nat} (h:t∈o.looksAt ops):t∈lk ops o:=by
 simp only[Oper.looksAt,List.mem_append,List.mem_filterMap]at h
 simp only[lk,List.mem_append]
 rcases h with⟨y,hy,ht⟩|h
 ·left
  cases y <;> simp at ht
  subst ht
  exact z17 hy
 ·right
  cases hg:o.guard with
  |none=>simp[hg]at h
  |some x=>
   obtain⟨g,b⟩:=x
   simp only[hg]at h ⊢
   simp only[q1p]
   cases hs:(ops[g]?).bind (·.dst)with
   |none=>simp[hs]at h
   |some t'=>simpa[hs]using h
def z3h (ops:List Oper) (ts:List Nat):Bool:=
 let m:=z3M ops []
 let anc:=fun j i=>(m.getD i 0).testBit j
 let ix:=List.range ops.length
 let both:=fun i j=>(decide (j<i)&&anc j i)||(decide (i<j)&&anc i j)
 (ix.all fun i=>match ops[i]? with|some o=>(q7u o).all fun k=>decide (k<i)|none=>true)&&
 (ix.all fun i=>ts.getD i 0 != 2||ix.all fun j=>ts.getD j 0==0||j==i||both i j)&&
 (ix.all fun j=>match(ops[j]?).bind (·.dst)with
  |none=>true
  |some t=>ix.all fun i=>j==i||((match(ops[i]?).bind (·.dst)with|some t'=>t' != t|none=>true)&&
    (match ops[i]? with|some o=> !(lk ops.toArray o).contains t||both i j|none=>true)))
def s00:S:=⟨[],[],fun _=>none,[]⟩
theorem q6Y (k:Key):s00.obj k=none:=by cases k <;> rfl
noncomputable def kop (X:Cx) (md:List (Nat × Nat)) (k:Option Nat) (base s:S) (o:Oper) (K0:V→Prop) (K1:V→List (Key × O)→List (Nat × Option Nat)→Prop) (K2:V→S→Prop):Prop:=
 match k with
 |some 0=>iop X md s00 (y6 o) o (y5 X.gl s) s00 (fun v lo tn=>lo=[]∧tn=[]∧K0 v)∨fop X o (y5 X.gl s) K0
 |some 1=>iop X md base (y6 o) o (y5 X.gl s) s K1
 |some 2=>top X md (y6 o) o (y5 X.gl s) s K2
 |_=>False
noncomputable def vd (X:Cx) (md:List (Nat × Nat)) (ops:Array Oper) (Φ:S→Prop):List Oper→List Nat→S→S→Prop
 | [],_,_,s=>Φ s
 |o::rest,ts,base,s=>
  match o.guard with
  |none=>kop X md ts.head? base s o (fun v=>vd X md ops Φ rest ts.tail base (s.set o.dst v))
    (fun v lo tn=>H7 s lo∧H6 s tn∧vd X md ops Φ rest ts.tail base ((s.add lo tn).set o.dst v))
    (fun v s'=>vd X md ops Φ rest ts.tail (s'.set o.dst v) (s'.set o.dst v))
  |some (j,want)=>gx (gv ops s j) want (kop X md ts.head? base s o (fun v=>vd X md ops Φ rest ts.tail base (s.set o.dst v))
         (fun v lo tn=>H7 s lo∧H6 s tn∧vd X md ops Φ rest ts.tail base ((s.add lo tn).set o.dst v))
         (fun v s'=>vd X md ops Φ rest ts.tail (s'.set o.dst v) (s'.set o.dst v)))
     (vd X md ops Φ rest ts.tail base (s.set o.dst (.tup [])))
end Go.E
namespace Go.E
open Go
def y1U:Res:=⟨0,.any,[],[],s00⟩
def r8 (rl:List Res) (i:Nat):Res:=rl.getD i y1U
def cst (s0:S) (ops:List Oper) (rl:List Res):Nat→S
 |0=>s0
 |i+1=>match ops[i]? with
  |some o=>(cst s0 ops rl i).step o (r8 rl i)
  |none=>cst s0 ops rl i
theorem q4k {rl q:List Res} {i:Nat} (h:i<rl.length):r8 (rl++q) i=r8 rl i:=by
 simp only[r8,List.getD_eq_getElem?_getD,List.getElem?_append_left h]
theorem q20 (rl:List Res) (r:Res):r8 (rl++[r]) rl.length=r:=by
 simp[r8,List.getD_eq_getElem?_getD]
theorem q1r {s0:S} {ops:List Oper} {rl q:List Res}:∀i,i≤rl.length→cst s0 ops (rl++q) i=cst s0 ops rl i
 |0,_=>rfl
 |i+1,h=>by
  simp only[cst]
  rw[q1r i (by omega),q4k (by omega)]
theorem q19 {rl q:List Res}:∀i,i≤rl.length→p8 (r8 (rl++q)) i=p8 (r8 rl) i
 |0,_=>rfl
 |i+1,h=>by
  simp only[p8]
  rw[q19 i (by omega),q4k (by omega)]
section
variable {X:Cx} {Q:S→Prop} {ops:List Oper} {s0:S} {Φ:S→Prop} {ts0:List Nat} {md:List (Nat × Nat)}
structure Pre (X:Cx) (Q:S→Prop) (ops:List Oper) (s0:S) (ts0:List Nat) (pre:List Res):Prop where
 ok:∀i o,i<pre.length→ops[i]? =some o→OkR X Q ops.toArray (cst s0 ops pre (p8 (r8 pre) i)) (cst s0 ops pre i) o (r8 pre i)
 kind:∀i,i<pre.length→(r8 pre i).t=0∨(r8 pre i).t=ts0.getD i 0
 tri:∀i,(r8 pre i).t=0∨(r8 pre i).t=1∨(r8 pre i).t=2
theorem Pre.snoc {pre:List Res} (p:Pre X Q ops s0 ts0 pre) {o:Oper} (ho:ops[pre.length]? =some o) {r:Res}
  (hok:OkR X Q ops.toArray (cst s0 ops pre (p8 (r8 pre) pre.length)) (cst s0 ops pre pre.length) o r) (hk:r.t=0∨r.t=ts0.getD pre.length 0) (htri:r.t=0∨r.t=1∨r.t=2):Pre X Q ops s0 ts0 (pre++[r]):=by
 have rl:∀i,i<pre.length→r8 (pre++[r]) i=r8 pre i:=fun i h=>q4k h
 have cl:∀i,i≤pre.length→cst s0 ops (pre++[r]) i=cst s0 ops pre i:=fun i h=>q1r i h
 have tl:∀i,i≤pre.length→p8 (r8 (pre++[r])) i=p8 (r8 pre) i:=fun i h=>q19 i h
 have rlast:r8 (pre++[r]) pre.length=r:=q20 pre r
 have cases_:∀i,i<(pre++[r]).length→i<pre.length∨i=pre.length:=by intro i h;simp at h;omega
 refine⟨?_,?_,?_⟩
 ·intro i o' hi ho'
  rcases cases_ i hi with h|rfl
  ·rw[rl i h,cl i (by omega),tl i (by omega),cl _ (by have:=F8 (r8 pre) i;omega)]
   exact p.ok i o' h ho'
  ·rw[ho]at ho';cases ho'
   rw[rlast,cl _ (Nat.le_refl _),tl _ (Nat.le_refl _),cl _ (F8 _ _)]
   exact hok
 ·intro i hi
  rcases cases_ i hi with h|rfl
  ·rw[rl i h];exact p.kind i h
  ·rw[rlast];exact hk
 ·intro i
  by_cases h:i<pre.length
  ·rw[rl i h];exact p.tri i
  ·by_cases h2:i=pre.length
   ·subst h2;rw[rlast];exact htri
   ·left
    simp only[r8,List.getD_eq_getElem?_getD]
    rw[List.getElem?_eq_none (by simp;omega)]
    rfl
theorem y0l (hP:x4 X.P=true):∀(rest:List Oper) (ts:List Nat) (pre:List Res) (done:List Oper),
  ops=done++rest→pre.length=done.length→ts=ts0.drop pre.length→Pre X Q ops s0 ts0 pre→
  vd X md ops.toArray Φ rest ts (cst s0 ops pre (p8 (r8 pre) pre.length)) (cst s0 ops pre pre.length)→
  ∃rl,rl.length=ops.length∧Pre X Q ops s0 ts0 rl∧Φ (cst s0 ops rl ops.length)
 | [],ts,pre,done,he,hl,_,p,h=>by
  have:pre.length=ops.length:=by rw[he,hl];simp
  exact⟨pre,this,p,by rw[←this];simpa[vd]using h⟩
 |o::rest,ts,pre,done,he,hl,hts,p,h=>by
  have ho:ops[pre.length]? =some o:=by rw[he,hl];simp
  have next:∀(r:Res),Pre X Q ops s0 ts0 (pre++[r])→
    vd X md ops.toArray Φ rest ts.tail (if r.t=2 then(cst s0 ops pre pre.length).step o r else cst s0 ops pre (p8 (r8 pre) pre.length)) ((cst s0 ops pre pre.length).step o r)→
    ∃rl,rl.length=ops.length∧Pre X Q ops s0 ts0 rl∧Φ (cst s0 ops rl ops.length):=by
   intro r p' hv
   refine y0l hP rest ts.tail (pre++[r]) (done++[o]) (by simp[he]) (by simp[hl]) ?_ p' ?_
   ·rw[hts];simp
   ·have e1:cst s0 ops (pre++[r]) (pre++[r]).length=(cst s0 ops pre pre.length).step o r:=by
     rw[List.length_append]
     simp only[List.length_cons,List.length_nil,Nat.zero_add,cst,ho]
     rw[q1r _ (Nat.le_refl _),q20]
    have e2:cst s0 ops (pre++[r]) (p8 (r8 (pre++[r])) (pre++[r]).length)=if r.t=2 then(cst s0 ops pre pre.length).step o r else cst s0 ops pre (p8 (r8 pre) pre.length):=by
     have e3:(pre++[r]).length=pre.length+1:=by simp
     rw[e3]
     simp only[p8,q20]
     split
     ·rw[←e3];exact e1
     ·rw[q19 _ (Nat.le_refl _),q1r _ (F8 _ _)]
    rw[e1,e2]
    exact hv
  have kind:∀k,ts.head? =some k→k=ts0.getD pre.length 0:=by
   intro k hk
   rw[hts,List.head?_drop]at hk
   simp[List.getD_eq_getElem?_getD,hk]
  simp only[vd]at h
  generalize hs:cst s0 ops pre pre.length=s at*
  have skip:U8 ops.toArray s o=some false→vd X md ops.toArray Φ rest ts.tail (cst s0 ops pre (p8 (r8 pre) pre.length)) (s.set o.dst (.tup []))→
    ∃rl,rl.length=ops.length∧Pre X Q ops s0 ts0 rl∧Φ (cst s0 ops rl ops.length):=by
   intro hw hv
   exact next ⟨0,.tup [],[],[],s00⟩ (p.snoc ho (.inl ⟨by rw[hs];exact hw,rfl,rfl⟩) (.inl rfl) (.inl rfl)) hv
  have go:U8 ops.toArray s o=some true→kop X md ts.head? (cst s0 ops pre (p8 (r8 pre) pre.length)) s o
      (fun v=>vd X md ops.toArray Φ rest ts.tail (cst s0 ops pre (p8 (r8 pre) pre.length)) (s.set o.dst v))
      (fun v lo tn=>H7 s lo∧H6 s tn∧vd X md ops.toArray Φ rest ts.tail (cst s0 ops pre (p8 (r8 pre) pre.length)) ((s.add lo tn).set o.dst v))
      (fun v s'=>vd X md ops.toArray Φ rest ts.tail (s'.set o.dst v) (s'.set o.dst v))→∃rl,rl.length=ops.length∧Pre X Q ops s0 ts0 rl∧Φ (cst s0 ops rl ops.length):=by
   intro hw hr
   unfold kop at hr
   split at hr
   ·rcases hr with hr|hr
    rotate_left
    ·obtain⟨v,hv,hI⟩:=q9s hP hr
     have hd:z0f X Q o (y5 X.gl s) v:=fun Γ w a s' hgl c _ hops=>hI Γ w a s' c hops
     exact next ⟨0,v,[],[],s00⟩ (p.snoc ho (.inr ⟨by rw[hs];exact hw,.inl ⟨rfl,by rw[hs];exact hd⟩⟩) (.inl rfl) (.inl rfl)) hv
    obtain⟨v,lo,tn,⟨rfl,rfl,hv⟩,hI⟩:=q2b hP hr
    have hd:z0f X Q o (y5 X.gl s) v:=fun Γ w a s' hgl c _ hops=>
     hI Γ w a s' hgl c ⟨fun k o h=>(by rw[q6Y]at h;cases h),fun k o h=>(by rw[q6Y]at h;cases h)⟩ ⟨fun k o h=>(by simp[z6]at h),fun t x h=>(by simp[look]at h)⟩ hops
    exact next ⟨0,v,[],[],s00⟩ (p.snoc ho (.inr ⟨by rw[hs];exact hw,.inl ⟨rfl,by rw[hs];exact hd⟩⟩) (.inl rfl) (.inl rfl)) hv
   ·rename_i hk
    obtain⟨v,lo,tn,⟨hf1,hf2,hv⟩,hI⟩:=q2b hP hr
    exact next ⟨1,v,lo,tn,s00⟩ (p.snoc ho (.inr ⟨by rw[hs];exact hw,.inr (.inl ⟨rfl,by rw[hs];exact hI,by rw[hs];exact q73 hf1 hf2⟩)⟩) (.inr (kind 1 hk)) (.inr (.inl rfl))) hv
   ·rename_i hk
    obtain⟨v,s1,hv,hT⟩:=q6c hP hr
    exact next ⟨2,v,[],[],s1⟩ (p.snoc ho (.inr ⟨by rw[hs];exact hw,.inr (.inr ⟨rfl,by rw[hs];exact hT⟩)⟩) (.inr (kind 2 hk)) (.inr (.inr rfl))) hv
   ·exact hr.elim
  split at h
  ·rename_i hg
   exact go (by simp[U8,hg]) h
  ·rename_i j want hg
   cases ht:q1p ops.toArray j with
   |none=>simp[gv,ht,gx]at h
   |some t=>
    simp only[gv,ht]at h
    unfold gx at h
    split at h
    ·rename_i cb hb
     by_cases hbw:cb.toBool=want
     ·exact go (by simp[U8,hg,ht,hb,hbw]) (h.1 hbw)
     ·exact skip (by simp[U8,hg,ht,hb,hbw]) (h.2 hbw)
    ·rename_i hb
     exact skip (by simp[U8,hg,ht,hb]) h
    ·exact h.elim
end
section
variable {X:Cx} {n:Nat} {s:S} {Ψ:Exit→S→Prop}
theorem z8K {ops:List Oper} {i j:Nat} (h:((decide (j<i)&&((z3M ops []).getD i 0).testBit j)||(decide (i<j)&&((z3M ops []).getD j 0).testBit i))=true):(j<i∧Anc ops j i)∨(i<j∧Anc ops i j):=by
 simp only[Bool.or_eq_true,Bool.and_eq_true,decide_eq_true_eq]at h
 rcases h with⟨h1,h2⟩|⟨h1,h2⟩
 ·exact .inl ⟨h1,z2U h2⟩
 ·exact .inr ⟨h1,z2U h2⟩
theorem z3Y {Q:S→Prop} {ops:List Oper} {ts:List Nat} {s0:S} {rl:List Res} (hl:rl.length=ops.length) (p:Pre X Q ops s0 ts rl) (h:z3h ops ts=true):
  Orders ops (r8 rl):=by
 simp only[z3h,Bool.and_eq_true,List.all_eq_true,List.mem_range]at h
 obtain⟨⟨h1,h2⟩,h3⟩:=h
 refine⟨?_,?_,?_,?_⟩
 ·intro i j hd
  obtain⟨o,ho,_⟩:=id hd
  have hi:i<ops.length:=(List.getElem?_eq_some_iff.1 ho).1
  have:=h1 i hi
  rw[ho]at this
  simp only[List.all_eq_true,decide_eq_true_eq]at this
  exact this j (z9S ho hd)
 ·intro i j hi hj ht htj hji
  have hk:=p.kind i (by omega)
  have hti:ts.getD i 0=2:=by rcases hk with h|h <;> omega
  have htj':ts.getD j 0≠0:=by
   rcases p.kind j (by omega)with h|h
   ·exact absurd h htj
   ·rw[←h];exact htj
  have:=h2 i hi
  rw[hti]at this
  simp only[bne_self_eq_false,Bool.false_or,List.all_eq_true,List.mem_range]at this
  have:=this j hj
  have e1:(ts.getD j 0==0)=false:=by simpa using htj'
  have e2:(j==i)=false:=by simpa using hji
  rw[e1,e2]at this
  simp only[Bool.false_or]at this
  exact z8K this
 ·rintro i j t hji ⟨o,ho,hd⟩ ⟨o',ho',hl'⟩
  have hj:j<ops.length:=(List.getElem?_eq_some_iff.1 ho).1
  have hi:i<ops.length:=(List.getElem?_eq_some_iff.1 ho').1
  have:=h3 j hj
  rw[ho]at this
  simp only[Option.bind_some,hd,List.all_eq_true,List.mem_range]at this
  have:=this i hi
  have e2:(j==i)=false:=by simpa using hji
  rw[e2,ho']at this
  have e3:(lk ops.toArray o').contains t=true:=by simpa using y4K hl'
  simp only[Bool.false_or,Bool.and_eq_true,e3,Bool.not_true]at this
  exact z8K this.2
 ·rintro i j t ⟨o,ho,hd⟩ ⟨o',ho',hd'⟩
  refine Classical.byContradiction fun hne=>?_
  have hi:i<ops.length:=(List.getElem?_eq_some_iff.1 ho).1
  have hj:j<ops.length:=(List.getElem?_eq_some_iff.1 ho').1
  have:=h3 j hj
  rw[ho']at this
  simp only[Option.bind_some,hd',List.all_eq_true,List.mem_range]at this
  have:=this i hi
  have e2:(j==i)=false:=by simpa using fun e=>hne e.symm
  rw[e2,ho]at this
  simp[hd]at this
theorem y2H (hP:x4 X.P=true) (hm:X.P.follows .mixedOrders=true) (md:List (Nat × Nat)) {id:Nat} {l:List Oper} (ts:List Nat) (hok:l.all (q4Z n)=true) (hord:z3h l ts=true)
  (h:vd X md l.toArray (fun s'=>Ψ .normal s') l ts s s):DC X n (.region id l.toArray true) s Ψ:=by
 have p0:Pre X (fun _=>True) l s ts []:=⟨fun i o h=>by simp at h,fun i h=>by simp at h,fun i=>.inl (by simp[r8,y1U])⟩
 obtain⟨rl,hl,p,hΦ⟩:=y0l hP l ts [] [] rfl rfl (by simp) p0 h
 have K:Canon X l s (r8 rl) (cst s l rl):=⟨rfl,fun i o ho=>by simp only[cst,ho],fun i o ho=>(p.ok i o (by rw[hl];exact(List.getElem?_eq_some_iff.1 ho).1) ho).mono fun _ _=>trivial,p.tri⟩
 exact y1j hP hm K (z3Y hl p hord) (fun o ho=>List.all_eq_true.1 hok o ho) hΦ
end
end Go.E
namespace Go.E
open Go
def tK:Nat→Nat
 |3=>2
 |4=>0
 |n=>n
def sF (F:List Key) (s:S):S:=⟨[],F.filterMap fun k=>(s.obj k).map fun o=>(k,o),fun _=>none,[]⟩
theorem y3G {F:List Key} {s:S} {k:Key} {o:O}:z6 (F.filterMap fun k=>(s.obj k).map fun o=>(k,o)) k=some o→k∈F∧s.obj k=some o:=by
 induction F with
 |nil=>intro h;simp[z6]at h
 |cons f F ih=>
  intro h
  simp only[List.filterMap_cons]at h
  cases hf:s.obj f with
  |none=>
   rw[hf]at h
   exact⟨List.mem_cons_of_mem _ (ih h).1,(ih h).2⟩
  |some o'=>
   rw[hf]at h
   simp only[Option.map_some,z6]at h
   by_cases e:f=k
   ·subst e
    simp at h
    subst h
    exact⟨List.mem_cons_self ..,hf⟩
   ·have:(if f=k then some o' else z6 (F.filterMap fun k=>(s.obj k).map fun o=>(k,o)) k)=some o:=by simpa using h
    rw[if_neg e]at this
    exact⟨List.mem_cons_of_mem _ (ih this).1,(ih this).2⟩
def QF (F:List Key) (s s':S):Prop:=∀k∈F,∀o,s.obj k=some o→s'.obj k=some o
theorem z1I {F:List Key} {s:S} {k:Key} {o:O} (h:(sF F s).obj k=some o):k∈F∧s.obj k=some o:=by
 unfold S.obj sF b6 at h
 dsimp only at h
 cases hl:z6 (F.filterMap fun k=>(s.obj k).map fun o=>(k,o)) k with
 |some o'=>
  rw[hl]at h
  cases h
  exact y3G hl
 |none=>
  rw[hl]at h
  cases k <;> cases h
noncomputable def q6H (X:Cx) (F:List Key) (md:List (Nat × Nat)) (k:Option Nat) (base s:S) (o:Oper) (K0:V→Prop) (K1:V→List (Key × O)→List (Nat × Option Nat)→Prop) (K2:V→S→Prop):Prop:=
 match k with
 |some 4=>iop X md (sF F s) (y6 o) o (y5 X.gl s) (sF F s) (fun v lo tn=>lo=[]∧tn=[]∧K0 v)
 |some 3=>top X md (y6 o) o (y5 X.gl s) s fun v s'=>(∀k∈F,s'.obj k=s.obj k)∧K2 v s'
 |some 2=>False
 |k=>kop X md k base s o K0 K1 K2
noncomputable def vdF (X:Cx) (F:List Key) (md:List (Nat × Nat)) (ops:Array Oper) (Φ:S→Prop):List Oper→List Nat→S→S→Prop
 | [],_,_,s=>Φ s
 |o::rest,ts,base,s=>
  match o.guard with
  |none=>q6H X F md ts.head? base s o (fun v=>vdF X F md ops Φ rest ts.tail base (s.set o.dst v))
    (fun v lo tn=>H7 s lo∧H6 s tn∧vdF X F md ops Φ rest ts.tail base ((s.add lo tn).set o.dst v))
    (fun v s'=>vdF X F md ops Φ rest ts.tail (s'.set o.dst v) (s'.set o.dst v))
  |some (j,want)=>gx (gv ops s j) want (q6H X F md ts.head? base s o (fun v=>vdF X F md ops Φ rest ts.tail base (s.set o.dst v))
         (fun v lo tn=>H7 s lo∧H6 s tn∧vdF X F md ops Φ rest ts.tail base ((s.add lo tn).set o.dst v))
         (fun v s'=>vdF X F md ops Φ rest ts.tail (s'.set o.dst v) (s'.set o.dst v)))
     (vdF X F md ops Φ rest ts.tail base (s.set o.dst (.tup [])))
section
variable {X:Cx} {F:List Key} {ops:List Oper} {s0:S} {Φ:S→Prop} {ts0:List Nat} {md:List (Nat × Nat)}
structure q3M (X:Cx) (F:List Key) (ops:List Oper) (s0:S) (ts0:List Nat) (pre:List Res):Prop where
 ok:∀i o,i<pre.length→ops[i]? =some o→OkR X (QF F (cst s0 ops pre i)) ops.toArray (cst s0 ops pre (p8 (r8 pre) i)) (cst s0 ops pre i) o (r8 pre i)
 kind:∀i,i<pre.length→(r8 pre i).t=0∨(r8 pre i).t=tK (ts0.getD i 0)
 tri:∀i,(r8 pre i).t=0∨(r8 pre i).t=1∨(r8 pre i).t=2
 keep:∀i,i<pre.length→(r8 pre i).t=2→∀k∈F,(r8 pre i).s1.obj k=(cst s0 ops pre i).obj k
theorem q3M.snoc {pre:List Res} (p:q3M X F ops s0 ts0 pre) {o:Oper} (ho:ops[pre.length]? =some o) {r:Res}
  (hok:OkR X (QF F (cst s0 ops pre pre.length)) ops.toArray (cst s0 ops pre (p8 (r8 pre) pre.length)) (cst s0 ops pre pre.length) o r) (hk:r.t=0∨r.t=tK (ts0.getD pre.length 0)) (htri:r.t=0∨r.t=1∨r.t=2)
  (hkeep:r.t=2→∀k∈F,r.s1.obj k=(cst s0 ops pre pre.length).obj k):q3M X F ops s0 ts0 (pre++[r]):=by
 have rl:∀i,i<pre.length→r8 (pre++[r]) i=r8 pre i:=fun i h=>q4k h
 have cl:∀i,i≤pre.length→cst s0 ops (pre++[r]) i=cst s0 ops pre i:=fun i h=>q1r i h
 have tl:∀i,i≤pre.length→p8 (r8 (pre++[r])) i=p8 (r8 pre) i:=fun i h=>q19 i h
 have rlast:r8 (pre++[r]) pre.length=r:=q20 pre r
 have cases_:∀i,i<(pre++[r]).length→i<pre.length∨i=pre.length:=by intro i h;simp at h;omega
 refine⟨?_,?_,?_,?_⟩
 ·intro i o' hi ho'
  rcases cases_ i hi with h|rfl
  ·rw[rl i h,cl i (by omega),tl i (by omega),cl _ (by have:=F8 (r8 pre) i;omega)]
   exact p.ok i o' h ho'
  ·rw[ho]at ho';cases ho'
   rw[rlast,cl _ (Nat.le_refl _),tl _ (Nat.le_refl _),cl _ (F8 _ _)]
   exact hok
 ·intro i hi
  rcases cases_ i hi with h|rfl
  ·rw[rl i h];exact p.kind i h
  ·rw[rlast];exact hk
 ·intro i
  by_cases h:i<pre.length
  ·rw[rl i h];exact p.tri i
  ·by_cases h2:i=pre.length
   ·subst h2;rw[rlast];exact htri
   ·left
    simp only[r8,List.getD_eq_getElem?_getD]
    rw[List.getElem?_eq_none (by simp;omega)]
    rfl
 ·intro i hi ht
  rcases cases_ i hi with h|rfl
  ·rw[rl i h,cl i (by omega)]
   rw[rl i h]at ht
   exact p.keep i h ht
  ·rw[rlast,cl _ (Nat.le_refl _)]
   rw[rlast]at ht
   exact hkeep ht
theorem z79 (hP:x4 X.P=true):∀(rest:List Oper) (ts:List Nat) (pre:List Res) (done:List Oper),
  ops=done++rest→pre.length=done.length→ts=ts0.drop pre.length→q3M X F ops s0 ts0 pre→
  vdF X F md ops.toArray Φ rest ts (cst s0 ops pre (p8 (r8 pre) pre.length)) (cst s0 ops pre pre.length)→
  ∃rl,rl.length=ops.length∧q3M X F ops s0 ts0 rl∧Φ (cst s0 ops rl ops.length)
 | [],ts,pre,done,he,hl,_,p,h=>by
  have:pre.length=ops.length:=by rw[he,hl];simp
  exact⟨pre,this,p,by rw[←this];simpa[vdF]using h⟩
 |o::rest,ts,pre,done,he,hl,hts,p,h=>by
  have ho:ops[pre.length]? =some o:=by rw[he,hl];simp
  have next:∀(r:Res),q3M X F ops s0 ts0 (pre++[r])→
    vdF X F md ops.toArray Φ rest ts.tail (if r.t=2 then(cst s0 ops pre pre.length).step o r else cst s0 ops pre (p8 (r8 pre) pre.length)) ((cst s0 ops pre pre.length).step o r)→
    ∃rl,rl.length=ops.length∧q3M X F ops s0 ts0 rl∧Φ (cst s0 ops rl ops.length):=by
   intro r p' hv
   refine z79 hP rest ts.tail (pre++[r]) (done++[o]) (by simp[he]) (by simp[hl]) ?_ p' ?_
   ·rw[hts];simp
   ·have e1:cst s0 ops (pre++[r]) (pre++[r]).length=(cst s0 ops pre pre.length).step o r:=by
     rw[List.length_append]
     simp only[List.length_cons,List.length_nil,Nat.zero_add,cst,ho]
     rw[q1r _ (Nat.le_refl _),q20]
    have e2:cst s0 ops (pre++[r]) (p8 (r8 (pre++[r])) (pre++[r]).length)=if r.t=2 then(cst s0 ops pre pre.length).step o r else cst s0 ops pre (p8 (r8 pre) pre.length):=by
     have e3:(pre++[r]).length=pre.length+1:=by simp
     rw[e3]
     simp only[p8,q20]
     split
     ·rw[←e3];exact e1
     ·rw[q19 _ (Nat.le_refl _),q1r _ (F8 _ _)]
    rw[e1,e2]
    exact hv
  have kind:∀k,ts.head? =some k→k=ts0.getD pre.length 0:=by
   intro k hk
   rw[hts,List.head?_drop]at hk
   simp[List.getD_eq_getElem?_getD,hk]
  simp only[vdF]at h
  generalize hs:cst s0 ops pre pre.length=s at*
  have skip:U8 ops.toArray s o=some false→vdF X F md ops.toArray Φ rest ts.tail (cst s0 ops pre (p8 (r8 pre) pre.length)) (s.set o.dst (.tup []))→
    ∃rl,rl.length=ops.length∧q3M X F ops s0 ts0 rl∧Φ (cst s0 ops rl ops.length):=by
   intro hw hv
   exact next ⟨0,.tup [],[],[],s00⟩ (p.snoc ho (.inl ⟨by rw[hs];exact hw,rfl,rfl⟩) (.inl rfl) (.inl rfl) (fun e=>by cases e)) hv
  have go:U8 ops.toArray s o=some true→q6H X F md ts.head? (cst s0 ops pre (p8 (r8 pre) pre.length)) s o
      (fun v=>vdF X F md ops.toArray Φ rest ts.tail (cst s0 ops pre (p8 (r8 pre) pre.length)) (s.set o.dst v))
      (fun v lo tn=>H7 s lo∧H6 s tn∧vdF X F md ops.toArray Φ rest ts.tail (cst s0 ops pre (p8 (r8 pre) pre.length)) ((s.add lo tn).set o.dst v))
      (fun v s'=>vdF X F md ops.toArray Φ rest ts.tail (s'.set o.dst v) (s'.set o.dst v))→∃rl,rl.length=ops.length∧q3M X F ops s0 ts0 rl∧Φ (cst s0 ops rl ops.length):=by
   intro hw hr
   unfold q6H at hr
   split at hr
   ·obtain⟨v,lo,tn,⟨rfl,rfl,hv⟩,hI⟩:=q2b hP hr
    have hd:z0f X (QF F s) o (y5 X.gl s) v:=fun Γ w a s' hgl c hq hops=>
     hI Γ w a s' hgl c ⟨fun k o h _=>hq k (z1I h).1 o (z1I h).2,fun k o h=>hq k (z1I h).1 o (z1I h).2⟩ ⟨fun k o h=>(by simp[z6]at h),fun t x h=>(by simp[look]at h)⟩ hops
    exact next ⟨0,v,[],[],s00⟩ (p.snoc ho (.inr ⟨by rw[hs];exact hw,.inl ⟨rfl,by rw[hs];exact hd⟩⟩) (.inl rfl) (.inl rfl) (fun e=>by cases e)) hv
   ·rename_i hk
    obtain⟨v,s1,⟨hkp,hv⟩,hT⟩:=q6c hP hr
    exact next ⟨2,v,[],[],s1⟩ (p.snoc ho (.inr ⟨by rw[hs];exact hw,.inr (.inr ⟨rfl,by rw[hs];exact hT⟩)⟩) (.inr (by rw[←kind 3 hk];rfl)) (.inr (.inr rfl)) (fun _ k hk=>by rw[hs];exact hkp k hk)) hv
   ·exact hr.elim
   ·rename_i hn4 hn3 hn2
    unfold kop at hr
    split at hr
    ·rcases hr with hr|hr
     rotate_left
     ·obtain⟨v,hv,hI⟩:=q9s hP hr
      have hd:z0f X (QF F s) o (y5 X.gl s) v:=fun Γ w a s' hgl c _ hops=>hI Γ w a s' c hops
      exact next ⟨0,v,[],[],s00⟩ (p.snoc ho (.inr ⟨by rw[hs];exact hw,.inl ⟨rfl,by rw[hs];exact hd⟩⟩) (.inl rfl) (.inl rfl) (fun e=>by cases e)) hv
     obtain⟨v,lo,tn,⟨rfl,rfl,hv⟩,hI⟩:=q2b hP hr
     have hd:z0f X (QF F s) o (y5 X.gl s) v:=fun Γ w a s' hgl c _ hops=>
      hI Γ w a s' hgl c ⟨fun k o h=>(by rw[q6Y]at h;cases h),fun k o h=>(by rw[q6Y]at h;cases h)⟩ ⟨fun k o h=>(by simp[z6]at h),fun t x h=>(by simp[look]at h)⟩ hops
     exact next ⟨0,v,[],[],s00⟩ (p.snoc ho (.inr ⟨by rw[hs];exact hw,.inl ⟨rfl,by rw[hs];exact hd⟩⟩) (.inl rfl) (.inl rfl) (fun e=>by cases e)) hv
    ·rename_i hk
     obtain⟨v,lo,tn,⟨hf1,hf2,hv⟩,hI⟩:=q2b hP hr
     exact next ⟨1,v,lo,tn,s00⟩ (p.snoc ho (.inr ⟨by rw[hs];exact hw,.inr (.inl ⟨rfl,by rw[hs];exact hI,by rw[hs];exact q73 hf1 hf2⟩)⟩) (.inr (by rw[←kind 1 hk];rfl)) (.inr (.inl rfl)) (fun e=>by cases e)) hv
    ·rename_i hk
     exact absurd hk hn2
    ·exact hr.elim
  split at h
  ·rename_i hg
   exact go (by simp[U8,hg]) h
  ·rename_i j want hg
   cases ht:q1p ops.toArray j with
   |none=>simp[gv,ht,gx]at h
   |some t=>
    simp only[gv,ht]at h
    unfold gx at h
    split at h
    ·rename_i cb hb
     by_cases hbw:cb.toBool=want
     ·exact go (by simp[U8,hg,ht,hb,hbw]) (h.1 hbw)
     ·exact skip (by simp[U8,hg,ht,hb,hbw]) (h.2 hbw)
    ·rename_i hb
     exact skip (by simp[U8,hg,ht,hb]) h
    ·exact h.elim
theorem q3M.same {rl:List Res} (hl:rl.length=ops.length) (p:q3M X F ops s0 ts0 rl) {k:Key} (hk:k∈F) (hs:s0.obj k≠none):∀i,i≤ops.length→(cst s0 ops rl i).obj k=s0.obj k
 |0,_=>rfl
 |i+1,hi=>by
  have ih:=q3M.same hl p hk hs i (by omega)
  obtain⟨o,ho⟩:=getOp (ops:=ops) (i:=i) (by omega)
  have hc:cst s0 ops rl (i+1)=(cst s0 ops rl i).step o (r8 rl i):=by simp only[cst,ho]
  have ob:∀{s s':S},om s' (.inl k)=om s (.inl k)→s'.obj k=s.obj k:=fun{s s'} h=>by
   simp only[om]at h
   cases h1:s'.obj k <;> cases h2:s.obj k <;> rw[h1,h2]at h
   ·cases h
   ·cases h
   ·cases h;rfl
  rw[hc]
  rcases p.tri i with ht|ht|ht
  ·rw[ob (congrFun (z08 ht) _)];exact ih
  ·refine Eq.trans (ob ?_) ih
   rw[q7L ht]
   cases hr:(r8 rl i).om (.inl k)with
   |none=>rfl
   |some x=>
    exfalso
    rcases p.ok i o (by omega) ho with h1|⟨_,h1|h1|h1⟩
    ·omega
    ·omega
    ·simp only[Res.om,Option.map_eq_some_iff]at hr
     obtain⟨y,hr,_⟩:=hr
     have:=h1.2.2.l k y hr
     rw[ih]at this
     exact hs this
    ·omega
  ·rw[ob (congrFun (z57 ht) _),p.keep i (by omega) ht k hk];exact ih
end
theorem y4v (ts:List Nat) (i:Nat):(ts.map tK).getD i 0=tK (ts.getD i 0):=by
 simp only[List.getD_eq_getElem?_getD,List.getElem?_map]
 cases ts[i]? <;> rfl
section
variable {X:Cx} {n:Nat} {s:S} {Ψ:Exit→S→Prop}
theorem y1i (hP:x4 X.P=true) (hm:X.P.follows .mixedOrders=true) (F:List Key) (md:List (Nat × Nat)) {id:Nat} {l:List Oper} (ts:List Nat) (hok:l.all (q4Z n)=true) (hord:z3h l (ts.map tK)=true)
  (hF:∀k∈F,s.obj k≠none) (h:vdF X F md l.toArray (fun s'=>Ψ .normal s') l ts s s):DC X n (.region id l.toArray true) s Ψ:=by
 have p0:q3M X F l s ts []:=⟨fun i o h=>by simp at h,fun i h=>by simp at h,fun i=>.inl (by simp[r8,y1U]),fun i h=>by simp at h⟩
 obtain⟨rl,hl,p,hΦ⟩:∃rl,rl.length=l.length∧q3M X F l s ts rl∧Ψ .normal (cst s l rl l.length):=z79 hP l ts [] [] rfl rfl (by simp) p0 h
 have K:Canon X l s (r8 rl) (cst s l rl):=⟨rfl,fun i o ho=>by simp only[cst,ho],fun i o ho=>by
  have hi:i<l.length:=(List.getElem?_eq_some_iff.1 ho).1
  refine(p.ok i o (by rw[hl];exact hi) ho).mono fun s' hq k hk ob hob=>hq k ob fun q hqn=>?_
  rw[p.same hl hk (hF k hk) q hqn]
  rw[p.same hl hk (hF k hk) i (by omega)]at hob
  exact hob,p.tri⟩
 have pq:Pre X (fun _=>False) l s (ts.map tK) rl:=⟨fun i o hi ho=>(p.ok i o hi ho).mono fun _ h=>h.elim,fun i hi=>by rw[y4v];exact p.kind i hi,p.tri⟩
 exact y1j hP hm K (z3Y hl pq hord) (fun o ho=>List.all_eq_true.1 hok o ho) hΦ
end
end Go.E
namespace Go.E
open Go
noncomputable def q0l (P:Program) (T:TypeId) (τ:Ty) (op:BinOp) (x y:V) (K:V→Prop):Prop:=
 match τ with
 | .int k=>x.isInt k∧(if BinOp.q23 op then y.Y2∧q7B op k x.toInt y.toInt K else y.isInt k∧q3u op k x.toInt y.toInt K)
 | .bool=>x.isBool∧y.isBool∧(match op with
   | .eql=>K (.d .bool (.bool (x.toBool==y.toBool)))
   | .neq=>K (.d .bool (.bool (!(x.toBool==y.toBool))))
   |_=>False)
 | .str=>x.isStr∧y.isStr∧q4D op x.toStr y.toStr K
 | .ptr=>(match op,x.q3W,y.q3W with
   | .eql,some a,some true=>K (.d .bool (.bool a))
   | .neq,some a,some true=>K (.d .bool (.bool (!a)))
   | .eql,some true,some b=>K (.d .bool (.bool b))
   | .neq,some true,some b=>K (.d .bool (.bool (!b)))
   |_,_,_=>False)
 | .arr n e=>q0a P T=true∧x.Z4 (.arr n e)∧y.Z4 (.arr n e)∧q2L op (C.eqb x.toC y.toC) K
 | .struct sz os fs=>q0a P T=true∧x.Z4 (.struct sz os fs)∧y.Z4 (.struct sz os fs)∧q2L op (C.eqb x.toC y.toC) K
 | .slice _ _=>(match op,x.z6m,y with
   | .eql,some r,.nilc=>K (q5M r)
   | .neq,some r,.nilc=>K (q5M (r.map (!·)))
   |_,_,_=>False)
 |_=>False
section
variable {P:Program} {T:TypeId} {x y:V} {K:V→Prop} {op:BinOp}
theorem y1X:q9S P op T x y K=q0l P T (ty P T) op x y K:=rfl
theorem z86 {k:IntKind}:q0l P T (.int k) op x y K=(x.isInt k∧(if BinOp.q23 op then y.Y2∧q7B op k x.toInt y.toInt K else y.isInt k∧q3u op k x.toInt y.toInt K)):=rfl
theorem z89:q0l P T .bool .eql x y K=(x.isBool∧y.isBool∧K (.d .bool (.bool (x.toBool==y.toBool)))):=rfl
theorem z88:q0l P T .bool .neq x y K=(x.isBool∧y.isBool∧K (.d .bool (.bool (!(x.toBool==y.toBool))))):=rfl
theorem z84:q0l P T .str op x y K=(x.isStr∧y.isStr∧q4D op x.toStr y.toStr K):=rfl
theorem z4M {k:Key} {q:List Nat} {τ:Ty}:q0l P T .ptr .eql (.ptr k q τ) (.d .ptr .nil) K=K (.d .bool (.bool false)):=rfl
theorem z4L {k:Key} {q:List Nat} {τ:Ty}:q0l P T .ptr .neq (.ptr k q τ) (.d .ptr .nil) K=K (.d .bool (.bool true)):=rfl
theorem z4O:q0l P T .ptr .eql (.d .ptr .nil) (.d .ptr .nil) K=K (.d .bool (.bool true)):=rfl
theorem z4N:q0l P T .ptr .neq (.d .ptr .nil) (.d .ptr .nil) K=K (.d .bool (.bool false)):=rfl
theorem z5V {eb:Nat} {e:Ty} {cs:List C} {t eb':Nat} {e':Ty}:q0l P T (.slice eb e) .eql (.sl eb' e' cs t) .nilc K=K (q5M (bif cs.isEmpty then none else some false)):=rfl
theorem z5W {eb:Nat} {e:Ty} {c:C} {eb':Nat} {e':Ty}:q0l P T (.slice eb e) .eql (.d (.slice eb' e') c) .nilc K=K (q5M (bif c.elems.isEmpty then none else some false)):=rfl
theorem z5U {eb:Nat} {e:Ty} {k:Key} {q:List Nat} {lo n:Nat} {cp:Option Nat} {eb':Nat} {e':Ty}:q0l P T (.slice eb e) .eql (.sr k q lo n cp eb' e') .nilc K=K (q5M (bif n==0 then none else some false)):=rfl
theorem z4P {eb:Nat} {e:Ty} {eb':Nat} {e':Ty}:q0l P T (.slice eb e) .eql (.emp eb' e') .nilc K=K (.top .bool):=rfl
theorem z3f {eb:Nat} {e:Ty}:q0l P T (.slice eb e) .eql .nilc .nilc K=K (.d .bool (.bool true)):=rfl
theorem z9a {n:Nat} {e:Ty}:q0l P T (.arr n e) op x y K=(q0a P T=true∧x.Z4 (.arr n e)∧y.Z4 (.arr n e)∧q2L op (C.eqb x.toC y.toC) K):=rfl
end
theorem x7 (n:Int):(C.int n).toInt=n:=rfl
theorem w9 (b:Bool):(C.bool b).toBool=b:=rfl
theorem Y8 (l:List UInt8):(C.str l).toStr=l:=rfl
theorem x6 (cs:List C):(C.slice cs).elems=cs:=rfl
theorem z90 (cs:List C):(C.agg cs).elems=cs:=rfl
theorem y1q (cs:List C) (i:Nat):(C.agg cs).get i=cs.getD i .nil:=rfl
theorem get_nil (j:Nat) (l:List (Key × O)) (A:Key→Option O) (tk:List (Nat × Option Nat)):(S.mk [] l A tk).get j= .any:=rfl
theorem y1Q (e:List (Nat × V)) (l:List (Key × O)) (A:Key→Option O) (tk:List (Nat × Option Nat)) (d:Nat) (x:V):(S.mk e l A tk).set (some d) x=S.mk (z06 e d x) l A tk:=rfl
theorem y1R (s:S) (x:V):s.set none x=s:=rfl
theorem y4B (e:List (Nat × V)) (l:List (Key × O)) (A:Key→Option O) (tk:List (Nat × Option Nat)) (k:Key) (o:O):(S.mk e l A tk).put k o=S.mk e (z5Y l k o) A tk:=rfl
theorem y4r (e:List (Nat × V)) (l:List (Key × O)) (A:Key→Option O) (tk:List (Nat × Option Nat)) (t:Nat) (x:Option Nat):(S.mk e l A tk).tok t x=S.mk e l A (z06 tk t x):=rfl
theorem y40 (e:List (Nat × V)) (l:List (Key × O)) (A:Key→Option O) (tk:List (Nat × Option Nat)) (lo:List (Key × O)) (tn:List (Nat × Option Nat)):(S.mk e l A tk).add lo tn=S.mk e (lo++l) A (tn++tk):=rfl
theorem z9h (e:List (Nat × V)) (A:Key→Option O) (tk:List (Nat × Option Nat)) (k:Key):(S.mk e [] A tk).obj (.g k)=A k:=rfl
theorem z6h (e:List (Nat × V)) (A:Key→Option O) (tk:List (Nat × Option Nat)) (n:Nat):(S.mk e [] A tk).obj (.l n)=none:=rfl
theorem y3I (e:List (Nat × V)) (l:List (Key × O)) (A:Key→Option O) (tk:List (Nat × Option Nat)) (t:Nat):(S.mk e l A tk).live t=F1 tk t:=rfl
theorem y0E (t:Nat):F1 [] t=none:=rfl
theorem z6A (e:List (Nat × V)) (l:List (Key × O)) (A:Key→Option O) (t:Nat):(S.mk e l A []).known t=false:=rfl
theorem y4m (τ:Ty) (c:C) (i:Nat):(V.d τ c).get i= .d (τ.get i) (c.get i):=rfl
theorem y1E (τ:Ty) (vs:List V) (i:Nat):(V.agg τ vs).get i=vs.getD i .any:=rfl
theorem y1H (x:V) (i:Nat) (q:List Nat):x.at (i::q)=(x.get i).at q:=by rfl
theorem y3q (τ:Ty) (c:C):(V.d τ c).toInt=c.toInt:=rfl
theorem y1J (τ:Ty) (c:C):(V.d τ c).toBool=c.toBool:=rfl
theorem y3p (τ:Ty) (c:C):(V.d τ c).toStr=c.toStr:=rfl
theorem y5n (τ:Ty) (c:C):(V.d τ c).toC=c:=rfl
theorem y4h (n:Nat) (e:Ty) (i:Nat):(Ty.arr n e).get i=e:=rfl
theorem y5m (e:List (Nat × V)) (l:List (Key × O)) (A:Key→Option O) (tk:List (Nat × Option Nat)) (k:Key):(S.mk e l A tk).up k=((S.mk e l A tk).obj k).map (O.ren .g):=rfl
theorem y0N (k:IntKind):(Ty.int k).known=true:=rfl
theorem y0V (k:IntKind):(Ty.int k).isAgg=false:=rfl
theorem z9o:(Ty.bool).known=true:=rfl
theorem z9v:(Ty.bool).isAgg=false:=rfl
theorem y0K:(Ty.str).known=true:=rfl
theorem y0S:(Ty.str).isAgg=false:=rfl
theorem z7P (n:Nat) (e:Ty):(Ty.slice n e).known=true:=rfl
theorem z7R (n:Nat) (e:Ty):(Ty.slice n e).isAgg=false:=rfl
theorem y0O (n:Nat) (e:Ty):(Ty.arr n e).known=true:=rfl
theorem y0W (n:Nat) (e:Ty):(Ty.arr n e).isAgg=true:=rfl
theorem y0L:(Ty.ptr).known=true:=rfl
theorem y0T:(Ty.ptr).isAgg=false:=rfl
theorem y0M:(Ty.map).known=true:=rfl
theorem y0U:(Ty.map).isAgg=false:=rfl
theorem z9n:(Ty.func).known=true:=rfl
theorem z9u:(Ty.func).isAgg=false:=rfl
theorem z7Q:(Ty.iface).known=true:=rfl
theorem z7S:(Ty.iface).isAgg=false:=rfl
theorem y1m (n:Nat) (e:Ty) (i:Nat):(Ty.arr n e).child i=if i<n then some (i*e.size,e)else none:=rfl
theorem z9p (n:Nat) (e:Ty):(Ty.arr n e).q06=List.replicate n e:=rfl
theorem y0q (n:Nat) (e:Ty) (i:Nat):(Ty.slice n e).get i=e:=rfl
theorem z9j (d:Nat):r7 [] d=0:=rfl
section
variable {X:Cx} {md:List (Nat × Nat)} {ops:Array Oper} {Φ:S→Prop} {o:Oper} {rest:List Oper} {s:S}
theorem Q3.mono {f:FuncId} {xs:List V} {A A':Key→Option O} {v:V} {L:List (Key × O)} (h:Q3 X f xs A v L) (hA:∀k o,A k=some o→A' k=some o):Q3 X f xs A' v L:=
 fun A'' Γ w args hAA=>h A'' Γ w args fun k o hk=>hAA k o (hA k o hk)
end
section
variable {X:Cx} {md:List (Nat × Nat)} {ops:Array Oper} {Φ:S→Prop} {o:Oper} {rest:List Oper} {ts:List Nat} {base s:S}
end
end Go.E
namespace Go.E
open Go
section
variable {X:Cx} {md:List (Nat × Nat)} {ops:Array Oper} {Φ:S→Prop} {n:List Unit} {u:Unit} {o:Oper} {rest:List Oper} {ts:List Nat} {base s s':S} {dst:Option Nat} {lo:List (Key × O)} {tn:List (Nat × Option Nat)} {d:Option Nat} {op:Op} {T:TypeId} {ps:String} {af:Array Edge} {j:Nat} {want:Bool}
end
end Go.E
namespace Go.E
open Go
mutual
def C.wf:Ty→C→Prop
 | .int k,c=>c= .int c.toInt∧k.min≤c.toInt∧c.toInt≤k.max
 | .bool,c=>c= .bool c.toBool
 | .str,c=>c= .str c.toStr∧c.toStr.length≤140737488355328
 | .slice eb e,c=>c= .slice c.elems∧c.elems.length*eb≤140737488355328∧c.elems.length≤9223372036854775807∧∀x∈c.elems,C.wf e x
 | .arr n e,c=>c= .agg c.elems∧c.elems.length=n∧∀x∈c.elems,C.wf e x
 | .struct _ _ fs,c=>c= .agg c.elems∧C.wfs fs c.elems
 | .opq _,_=>False
 | .iface,c=>c= .nil∨c= .bool true
 |_,c=>c= .nil
def C.wfs:List Ty→List C→Prop
 | [],cs=>cs=[]
 |f::fs,cs=>∃c cs',cs=c::cs'∧C.wf f c∧C.wfs fs cs'
end
theorem C.z1z:∀{fs:List Ty} {cs:List C},C.wfs fs cs→cs.length=fs.length
 | [],_,h=>by simp only[C.wfs]at h;simp[h]
 |f::fs,cs,h=>by
  simp only[C.wfs]at h
  obtain⟨c,cs',rfl,_,h⟩:=h
  simp[C.z1z h]
theorem C.z74:∀{fs:List Ty} {cs:List C} {i:Nat} {f:Ty},C.wfs fs cs→fs[i]? =some f→C.wf f (cs.getD i .nil)
 | [],_,_,_,_,h=>by simp at h
 |g::fs,cs,i,f,h,hi=>by
  simp only[C.wfs]at h
  obtain⟨c,cs',rfl,h1,h2⟩:=h
  cases i with
  |zero=>simp at hi;subst hi;simpa using h1
  |succ i=>simpa using C.z74 h2 (show fs[i]? =some f by simpa using hi)
theorem C.q2U {sz:Nat} {os:List Nat} {fs:List Ty} {c:C} {i:Nat} {f:Ty} (h:C.wf (.struct sz os fs) c) (hi:fs[i]? =some f):C.wf f (c.get i):=by
 simp only[C.wf]at h
 rw[h.1]
 exact C.z74 h.2 hi
mutual
theorem z7.wf {H:Hp}:∀{τ:Ty} {vs:List Value} {c:C},z7 H τ vs c→C.wf τ c
 | .int k,vs,c,h=>by
  simp only[z7]at h
  obtain⟨n,rfl,_,h1,h2⟩:=h
  exact⟨rfl,h1,h2⟩
 | .bool,vs,c,h=>by
  simp only[z7]at h
  obtain⟨n,rfl,_⟩:=h
  rfl
 | .str,vs,c,h=>by
  simp only[z7]at h
  obtain⟨n,rfl,_,h1⟩:=h
  exact⟨rfl,h1⟩
 | .slice eb e,vs,c,h=>by
  simp only[z7]at h
  obtain⟨a,n,cap,cs,rfl,rfl,h1,h2,h3,h4,h5⟩:=h
  simp only[C.wf,C.elems]
  refine⟨trivial,by rw[h1];exact h4,by unfold maxLen at h3;omega,fun x hx=>?_⟩
  obtain⟨i,hi⟩:=List.getElem?_of_mem hx
  rcases h5 with h5|⟨b,off,l,_,_,_,hr⟩
  ·subst h5;have:=(List.getElem?_eq_some_iff.1 hi).1;omega
  ·exact z7.wf (hr i x hi)
 | .arr n e,vs,c,h=>by
  simp only[z7]at h
  obtain⟨cs,rfl,h1,h2,h4,h3⟩:=h
  simp only[C.wf,C.elems]
  refine⟨trivial,h1,fun x hx=>?_⟩
  obtain⟨i,hi⟩:=List.getElem?_of_mem hx
  exact z7.wf (h3 i x hi)
 | .struct sz os fs,vs,c,h=>by
  simp only[z7]at h
  obtain⟨cs,rfl,_,_,h2⟩:=h
  simp only[C.wf,C.elems]
  exact⟨trivial,s7.wf h2⟩
 | .ptr,vs,c,h| .map,vs,c,h| .func,vs,c,h=>by
  simp only[z7]at h
  simp only[C.wf];exact h.1
 | .iface,vs,c,h=>by
  simp only[z7]at h
  simp only[C.wf]
  rcases h with h|h
  ·exact .inl h.1
  ·exact .inr h.1
 | .opq _,_,_,h=>by simp only[z7]at h
theorem s7.wf {H:Hp}:∀{fs:List Ty} {os:List Nat} {vs:List Value} {cs:List C},s7 H fs os vs cs→C.wfs fs cs
 | [],_,_,_,h=>by simp only[s7]at h;simp only[C.wfs];exact h
 |f::fs,o::os,vs,cs,h=>by
  simp only[s7]at h
  obtain⟨c,cs',rfl,_,h2,h3⟩:=h
  simp only[C.wfs]
  exact⟨c,cs',rfl,z7.wf h2,s7.wf h3⟩
 |_::_,[],_,_,h=>by simp[s7]at h
end
mutual
def V.wf:V→Prop
 | .d τ c=>C.wf τ c
 | .sl eb e cs _=>C.wf (.slice eb e) (.slice cs)
 | .ts eb e cs=>C.wf (.slice eb e) (.slice cs)
 | .sr _ _ _ n _ eb _=>n*eb≤140737488355328∧n≤9223372036854775807
 | .cptr τ c=>C.wf τ c
 | .agg _ vs=>V.wfs vs
 |_=>True
def V.wfs:List V→Prop
 | []=>True
 |x::xs=>x.wf∧V.wfs xs
end
mutual
theorem q8.wf {Γ:G} {hm:Option Key}:∀{x:V} {p:List Nat} {vs:List Value},q8 Γ hm p x vs→x.wf
 | .d τ c,_,_,h=>by simp only[q8]at h;exact h.wf
 | .sl eb e cs t,_,_,h=>by simp only[q8]at h;obtain⟨a,n,cap,_,h,_⟩:=h;exact h.wf
 | .ts eb e cs,_,_,h=>by simp only[q8]at h;obtain⟨a,n,cap,k,_,_,h,_⟩:=h;exact h.wf
 | .sr _ _ _ n _ eb _,_,_,h=>by
  simp only[q8]at h
  rcases h with⟨_,rfl,_⟩|⟨b,τ0,o,m,cap,_,_,_,_,h1,h2,h3,_⟩
  ·exact⟨by rw[Nat.zero_mul];exact Nat.zero_le _,Nat.zero_le _⟩
  exact⟨h3,by unfold maxLen at h2;omega⟩
 | .cptr τ c,_,_,h=>by simp only[q8]at h;obtain⟨b,off,l,_,_,_,h⟩:=h;exact h.wf
 | .agg _ vs,_,_,h=>by simp only[q8]at h;exact y4.wf h.2.2.2.2
 | .emp _ _,_,_,_| .nilc,_,_,_| .ptr _ _ _,_,_,_| .mp _,_,_,_| .fn _ _,_,_,_| .tup _,_,_,_| .top _,_,_,_| .any,_,_,_=>by simp only[V.wf]
theorem y4.wf {Γ:G} {hm:Option Key}:∀{xs:List V} {p:List Nat} {i:Nat} {τ:Ty} {vs:List Value},y4 Γ hm p i τ xs vs→V.wfs xs
 | [],_,_,_,_,_=>by simp only[V.wfs]
 |x::xs,_,_,_,_,h=>by
  simp only[y4]at h
  obtain⟨⟨o,f,_,_,_,h1⟩,h2⟩:=h
  exact⟨q8.wf h1,y4.wf h2⟩
end
def V.wfT:V→Prop
 | .tup xs=>V.wfs xs
 |x=>x.wf
theorem y9.wf {Γ:G}:∀{xs:List V} {vs:List Value},y9 Γ xs vs→V.wfs xs
 | [],_,_=>by simp only[V.wfs]
 |x::xs,_,h=>by
  simp only[y9]at h
  obtain⟨v,vs',_,h1,_,h2⟩:=h
  exact⟨q8.wf h1,y9.wf h2⟩
theorem q9.wf {Γ:G} {x:V} {v:Value} (h:q9 Γ x v):x.wfT:=by
 cases x
 case any=>simp only[V.wfT,V.wf]
 case tup xs=>obtain⟨vs,_,h⟩:=h;exact h.wf
 all_goals exact q8.wf h.1
def O.wf:O→Prop
 | .box x=>x.wf
 | .map _ _ es=>∀c∈es,c.2.wf
 | .it _ _| .dead _=>True
structure WF (s:S):Prop where
 slot:∀t,(s.get t).wfT
 obj:∀k x,s.obj k=some (.box x)→x.wf
section
variable {X:Cx} {n:Nat} {s:S} {Ψ:Exit→S→Prop} {c:Code}
theorem At.wf {Γ0:G} {a:Act} {w:World} (h:At X n Γ0 s a w):WF s:=by
 obtain⟨Γ,_,_,c,hs,_⟩:=h
 refine⟨fun t=>(hs t).wf,fun k x hk=>?_⟩
 rcases c.obj k _ hk with⟨_,e,rfl⟩|⟨b,cells,T,_,_,_,_,_,h,_⟩
 ·simp[V.wf,C.wf,C.elems]
 exact h.wf
theorem WF.at {t:Nat} {x:V} (h:WF s) (ht:s.get t=x):x.wfT:=ht ▸ h.slot t
end
theorem y3l {k:IntKind} {n:Int} (h1:k.min≤n) (h2:n≤k.max):k.wrap n=n:=by
 cases k <;> simp[IntKind.wrap,IntKind.min,IntKind.max,IntKind.bits,IntKind.signed]at h1 h2 ⊢ <;> omega
end Go.E
namespace Go.E
open Go
attribute [go_sem] eq_self Option.bind_some Option.bind_none Option.map_some Option.map_none Bool.not_true Bool.not_false decide_true decide_false forall_const true_implies false_implies
attribute [go_sem] implies_true not_true not_false_iff sop iop kop fop sl3 q8e q4R z2M lk List.head?_cons List.tail_cons List.head?_nil
attribute [go_sem] strOf Ty.z6D Op.operands Call.operands H7 H6 top z9j pv q1E q9R z5T q5L
attribute [go_sem] q4K q1D q5q j5 V.q1O cut y1X z86 z89 z88 z84 z4M
attribute [go_sem] z4L z4O z4N z5V z5W z5U z4P z3f q5M z9a Bool.false_eq_true if_true if_false q3u q4D q7B q2L BinOp.q23
attribute [go_sem] y6 y5 z7i q3U X6 V.slot q2i V.q0N V.X7 V.tkR S.start
attribute [go_sem] get_nil y1Q y1R y4B y4r y40 z9h z6h y3I y0E
attribute [go_sem] z6A y5m O.ren V.ren V.q0y z06 q9p q6j z5Y q9q z1P
attribute [go_sem] E.look z6 Nat.zero_ne_one Nat.one_ne_zero b8 W8 Q5 c7 q0o Z1 q3D gOk
attribute [go_sem] tOk S.ret q2A q3m q2Y dn rk dnL dnT J1 q4W Y0
attribute [go_sem] V.sites V.q8U V.o7 V.q1x V.okH V.z6e V.k9 V.q0c q1p Option.getD_some Option.getD_none or_false
attribute [go_sem] false_or and_true true_and and_self or_true true_or or_self List.nil_append List.cons_append List.append_nil V.isInt V.Y2
attribute [go_sem] V.isBool V.isStr V.Z4 y3q y1J y3p y5n x7 w9 Y8 x6 z90
attribute [go_sem] y1q y1H y4m y1E y4h V.setAt V.set C.set X1 Q6 q3E
attribute [go_sem] q4a V.ty V.plain V.v8 V.Q0 V.q3W view views s9 Z7 List.map_cons List.map_nil
attribute [go_sem] List.getD_cons_zero List.getD_cons_succ List.set_cons_zero List.set_cons_succ List.all_cons List.all_nil Array.getD_eq_getD_getElem? ne_eq not_false_eq_true not_true_eq_false Ty.size y0N
attribute [go_sem] y0V z9o z9v y0K y0S z7P z7R y0O y0W y0L y0T y0M
attribute [go_sem] y0U z9n z9u z7Q z7S y1m z9p y0q Option.isSome_some Option.isSome_none List.getElem?_toArray List.getElem?_cons_zero
attribute [go_sem] List.getElem?_cons_succ List.size_toArray List.length_cons List.length_nil Nat.lt_add_one Nat.zero_lt_succ Bool.and_true Bool.true_and Bool.or_true Bool.true_or Bool.or_false Bool.false_or
attribute [go_sem] cond_true cond_false Key.l.injEq Key.g.injEq Bool.and_eq_true List.contains_nil List.contains_cons Bool.and_self decide_eq_true_eq Nat.not_lt_zero List.replicate List.replicate_zero
@[go_sem] theorem y5Y (k:IntKind):b5 (.int k)= .int 0:=rfl
@[go_sem] theorem y5j:b5 .bool= .bool false:=rfl
@[go_sem] theorem y5V:b5 .str= .str []:=rfl
@[go_sem] theorem y43 (eb:Nat) (e:Ty):b5 (.slice eb e)= .slice []:=rfl
@[go_sem] theorem y5W:b5 .ptr= .nil:=rfl
@[go_sem] theorem y5X:b5 .map= .nil:=rfl
@[go_sem] theorem y5i:b5 .func= .nil:=rfl
@[go_sem] theorem y44:b5 .iface= .nil:=rfl
attribute [go_sem] o9 V.d.injEq V.emp.injEq
attribute [go_sem] false_and and_false q6Y gv
attribute [go_sem] q2B q0u q56 q5p q6Z q1g q7F q7E F6 H9 q0H q3d V.u1 V.q0W O.u1 V.ok V.oks V.q0m q0f O.okB O.ok c9 Q4 List.isEmpty_nil List.isEmpty_cons Option.isSome_some Option.isSome_none
section
variable {X:Cx} {n:Nat} {c:Code} {Ψ:Exit→S→Prop} {md:List (Nat × Nat)} {ops:Array Oper} {Φ:S→Prop} {m:List Unit} {l:List Oper} {ts:List Nat} {dst:Nat} {o:Oper} {K:V→S→Prop} {s s' b b':S}
attribute [go_sem] lop false_or false_and
end
end Go.E
namespace Go.E
open Go
section
variable {X:Cx} {n:Nat} {s:S} {Ψ:Exit→S→Prop}
theorem z1h {Γ0:G} {ι:Type} (I:ι→S) (μ:ι→Nat) {a:Act} {w:World} (h:∃i,At X n Γ0 (I i) a w):∃m,∃i,At X n Γ0 (I i) a w∧μ i=m∧∀j,At X n Γ0 (I j) a w→m≤μ j:=by
 obtain⟨i,hi⟩:=h
 have:∀m i,μ i=m→At X n Γ0 (I i) a w→∃m,∃i,At X n Γ0 (I i) a w∧μ i=m∧∀j,At X n Γ0 (I j) a w→m≤μ j:=by
  intro m
  induction m using Nat.strongRecOn with
  |_ m ih=>
   intro i hm hi
   by_cases h:∃j,At X n Γ0 (I j) a w∧μ j<m
   ·obtain⟨j,hj,hlt⟩:=h
    exact ih _ hlt j rfl hj
   ·exact⟨m,i,hi,hm,fun j hj=>Nat.le_of_not_lt fun hlt=>h ⟨j,hj,hlt⟩⟩
 exact this _ i rfl hi
theorem y2G {c rest:Code} (l:Nat) (hf:findLabel c l=some rest) {ι:Type} (I:ι→S) (μ:ι→Nat)
  (first:DC X n c s fun e s'=>match e with| .goto l'=>l'=l∧∃i,q0g X n s' (I i)|e=>Ψ e s')
  (pass:∀i,DC X n rest (I i) fun e s'=>match e with| .goto l'=>l'=l∧∃j,q0g X n s' (I j)∧μ j<μ i|e=>Ψ e s'):DC X n (.scope c) s Ψ:=by
 intro Γ0 a w hat
 open Classical in
 refine wp_scope_jumps l (fun a w=>∃i,At X n Γ0 (I i) a w) (fun a w=>if h:∃i,At X n Γ0 (I i) a w then Classical.choose (z1h I μ h)else 0) hf ?_ ?_
 ·refine wp_mono (first Γ0 a w hat) ?_
  rintro e a' w' ⟨s',h1,h2⟩
  cases e with
  |goto l'=>
   obtain⟨e1,i,hi⟩:=h1
   exact⟨e1,i,hi Γ0 a' w' h2⟩
  |normal|exit _|ret|panic _|outgrown=>exact⟨s',h1,h2⟩
 ·intro a w hI
  obtain⟨i,hi,hm,hmin⟩:=Classical.choose_spec (z1h I μ hI)
  refine wp_mono (pass i Γ0 a w hi) ?_
  rintro e a' w' ⟨s',h1,h2⟩
  cases e with
  |goto l'=>
   obtain⟨e1,j,hj,hlt⟩:=h1
   have hat':=hj Γ0 a' w' h2
   have hI':∃i,At X n Γ0 (I i) a' w':=⟨j,hat'⟩
   refine⟨e1,hI',?_⟩
   obtain⟨i',hi',hm',hmin'⟩:=Classical.choose_spec (z1h I μ hI')
   have:=hmin' j hat'
   rw[dif_pos hI',dif_pos hI]
   omega
  |normal|exit _|ret|panic _|outgrown=>exact⟨s',h1,h2⟩
theorem q5c {c:Code} (h:DC X n c s fun e s'=>match e with| .goto _=>False|e=>Ψ e s'):DC X n (.scope c) s Ψ:=by
 intro Γ0 a w hat
 refine wp_scope_straight (wp_mono (h Γ0 a w hat) ?_)
 rintro e a' w' ⟨s',h1,h2⟩
 cases e with
 |goto l'=>exact h1.elim
 |normal|exit _|ret|panic _|outgrown=>exact⟨s',h1,h2⟩
theorem y1B {t u eb:Nat} {e:Ty} (hu:s.known u=false) (ht:s.get t= .nilc∨s.get t= .emp eb e):q0g X n s (S.set {s with tk:=(u,some 0)::s.tk} (some t) (.sl eb e [] u)):=by
 rintro Γ0 a w ⟨Γ,g1,g3,c,hs,hn,hf,hA⟩
 obtain⟨c1,p1,g2⟩:=c.Z9 hu (x:=none) (L:=0) (fun _ _ _ h=>by cases h)
 refine⟨Γ.Z9 u none 0,g1.trans g2,g2.gl.trans g3,q52 c1 _ _,fun i=>?_,hn,hf,hA⟩
 rw[q2w]
 split
 ·rename_i e1
  cases e1
  have h0:=hs t
  obtain⟨a0,ha⟩:∃a0,a.tmps.getD t undef= .slice a0 0 0:=by
   rcases ht with h|h
   ·rw[h]at h0;exact⟨none,Z5 h0⟩
   ·rw[h]at h0
    obtain⟨h1,_⟩:=(x9 rfl rfl).1 h0
    simp only[q8]at h1
    obtain⟨a0,h1⟩:=h1
    exact⟨a0,by simpa using h1⟩
  rw[ha]
  refine(x9 rfl rfl).2 ⟨?_,rfl⟩
  simp only[q8]
  exact⟨a0,0,0,rfl,v7 rfl (Nat.le_refl _) (Nat.zero_le _) (by rw[Nat.zero_mul];exact Nat.zero_le _) (.inl rfl),none,0,by simp[G.Z9,r9],Nat.le_refl _,fun _=>rfl⟩
 ·exact(hs i).o6 p1
end
attribute [go_sem] q48 tkW W5
end Go.E
namespace Go.E
open Go
theorem C.y2t (a b:C):C.eqb a b=C.eqb b a:=by
 rw[Bool.eq_iff_iff,C.J6,C.J6];exact eq_comm
theorem z36 {α:Type}:∀(es:List (C × α)) (c:C) (v:α) (c':C),q0t (q0O es c v) c'=if C.eqb c' c=true then some v else q0t es c'
 | [],c,v,c'=>by simp only[q0O,q0t]
 |(k,u)::es,c,v,c'=>by
  simp only[q0O]
  by_cases h:C.eqb c k=true
  ·rw[if_pos h]
   have:=C.J6.1 h
   subst this
   simp only[q0t]
   split <;> rfl
  ·rw[if_neg h]
   simp only[q0t]
   by_cases h':C.eqb c' k=true
   ·rw[if_pos h',if_pos h']
    have:=C.J6.1 h'
    subst this
    have:C.eqb c' c=false:=by
     cases hh:C.eqb c' c with
     |false=>rfl
     |true=>rw[C.y2t]at hh;exact absurd hh h
    rw[this];simp
   ·rw[if_neg h',if_neg h',z36 es c v c']
noncomputable def y4o (nx:C→C) (c v:C):C→C:=fun c'=>if C.eqb c' c=true then v else nx c'
structure z7v (P:Program) (et:TypeId) (τ:Ty) (es:List (C × V)) (nx:C→C):Prop where
 look:∀c,q2q P et es c= .d τ (nx c)
 all:∀f g,V.q0m f g es=true
 dat:q0f τ es=true
theorem z6b {f g:Nat→Bool}:∀{es:List (C × V)} {c:C} {v:V},V.q0m f g es=true→v.ok f g=true→V.q0m f g (q0O es c v)=true
 | [],c,v,_,hv=>by simp only[q0O,V.q0m,hv,Bool.and_true]
 |(k,u)::es,c,v,h,hv=>by
  simp only[V.q0m,Bool.and_eq_true]at h
  simp only[q0O]
  split
  ·simp only[V.q0m,hv,h.2,Bool.and_true]
  ·simp only[V.q0m,h.1,z6b h.2 hv,Bool.and_true]
theorem z4y {τ:Ty}:∀{es:List (C × V)} {c v:C},q0f τ es=true→q0f τ (q0O es c (.d τ v))=true
 | [],c,v,_=>by simp only[q0O,q0f,(Ty.beq_iff τ τ).2 rfl,Bool.and_true]
 |(k,u)::es,c,v,h=>by
  simp only[q0f,Bool.and_eq_true]at h
  simp only[q0O]
  split
  ·simp only[q0f,(Ty.beq_iff τ τ).2 rfl,h.2,Bool.and_true]
  ·simp only[q0f,h.1,z4y h.2,Bool.and_true]
theorem z7v.put {P:Program} {et:TypeId} {τ:Ty} {es:List (C × V)} {nx:C→C} (h:z7v P et τ es nx) (c v:C):z7v P et τ (q0O es c (.d τ v)) (y4o nx c v):=by
 refine⟨fun c'=>?_,fun f g=>z6b (h.all f g) rfl,z4y h.dat⟩
 have:=h.look c'
 unfold q2q at this ⊢
 rw[z36]
 unfold y4o
 by_cases e:C.eqb c' c=true
 ·rw[if_pos e,if_pos e];rfl
 ·rw[if_neg e,if_neg e];exact this
theorem z7v.nil {P:Program} {et:TypeId} {τ:Ty} (h:o9 (ty P et)= .d τ (b5 τ)):z7v P et τ [] (fun _=>b5 τ):=⟨fun c=>by
 unfold q2q;simp only[q0t,Option.getD_none];exact h,fun _ _=>rfl,rfl⟩
section
variable {X:Cx} {n:Nat} {s:S} {Ψ:Exit→S→Prop}
end
attribute [go_sem] Ty.flat V.k9 V.q0c
end Go.E
namespace Go.E
open Go
mutual
def V.q0z:V→V
 | .emp eb e=>.ts eb e []
 | .agg τ vs=>.agg τ (V.q4y vs)
 |x=>x
def V.q4y:List V→List V
 | []=>[]
 |x::xs=>x.q0z::V.q4y xs
end
theorem V.q97 (x:V):x.q0z.ty=x.ty:=by cases x <;> simp[V.q0z,V.ty]
theorem V.z9K (x:V):x.q0z.plain=x.plain:=by cases x <;> simp[V.q0z,V.plain]
theorem V.q9x:∀xs:List V,(V.q4y xs).length=xs.length
 | []=>rfl
 |x::xs=>by simp[V.q4y,V.q9x xs]
mutual
theorem V.z4p:∀x:V,x.q0z.v8=x.v8
 | .agg τ vs=>by simp only[V.q0z,V.v8];exact V.z2z vs
 | .emp _ _| .sl _ _ _ _| .ptr _ _ _| .sr _ _ _ _ _ _ _| .mp _| .d _ _| .ts _ _ _| .nilc| .cptr _ _| .top _| .any| .fn _ _| .tup _=>by simp[V.q0z,V.v8]
theorem V.z2z:∀xs:List V,V.Q0 (V.q4y xs)=V.Q0 xs
 | []=>rfl
 |x::xs=>by simp only[V.q4y,V.Q0,V.z4p x,V.z2z xs]
end
section
variable {Γ:G} {k:Key}
mutual
theorem q8.q0z:∀(x:V) {p:List Nat} {vs:List Value},q8 Γ (some k) p x vs→q8 Γ (some k) p x.q0z vs
 | .emp eb e,p,vs,h=>by
  simp only[q8,V.q0z]at h ⊢
  obtain⟨a,rfl⟩:=h
  exact⟨a,0,0,k,rfl,rfl,v7 rfl (Nat.le_refl _) (Nat.zero_le _) (by rw[Nat.zero_mul];exact Nat.zero_le _) (.inl rfl),.inl rfl⟩
 | .agg τ xs,p,vs,h=>by
  simp only[q8,V.q0z]at h ⊢
  exact⟨h.1,h.2.1,by rw[V.q9x];exact h.2.2.1,h.2.2.2.1,y4.q0z xs h.2.2.2.2⟩
 | .sl _ _ _ _,_,_,h| .ptr _ _ _,_,_,h| .sr _ _ _ _ _ _ _,_,_,h| .mp _,_,_,h| .d _ _,_,_,h| .ts _ _ _,_,_,h| .nilc,_,_,h| .cptr _ _,_,_,h| .top _,_,_,h| .any,_,_,h| .fn _ _,_,_,h| .tup _,_,_,h=>h
theorem y4.q0z:∀(xs:List V) {p:List Nat} {i:Nat} {τ:Ty} {vs:List Value},y4 Γ (some k) p i τ xs vs→y4 Γ (some k) p i τ (V.q4y xs) vs
 | [],_,_,_,_,_=>by simp only[V.q4y,y4]
 |x::xs,_,_,_,_,h=>by
  simp only[y4,V.q4y,V.q97]at h ⊢
  obtain⟨⟨o,f,h1,h2,h3,h4⟩,h5⟩:=h
  exact⟨⟨o,f,h1,h2,h3,q8.q0z x h4⟩,y4.q0z xs h5⟩
end
end
theorem y0j {X:Cx} {n:Nat} {s:S} {k:Key} {x:V} (h:s.obj k=some (.box x)):q0g X n s (s.put k (.box x.q0z)):=by
 rintro Γ0 a w ⟨Γ,g1,g3,c,hs,hn,hf,hA⟩
 refine⟨Γ,g1,g3,⟨c.hH,c.hZ,c.hκ,fun j o hj=>?_,fun j hj=>?_,c.q45 (fun j hj=>?_),c.tok,c.tdom,c.hgl,c.hoo,c.hσ⟩,hs,hn,hf,hA⟩
 ·rw[Q8]at hj
  split at hj
  ·rename_i e
   subst e;cases hj
   rcases c.obj _ _ h with⟨hn,e,rfl⟩|⟨b,cells,T,h1,h2,h3,h4,h5,h6,h7,h8⟩
   ·exact .inl ⟨hn,e,rfl⟩
   exact .inr ⟨b,cells,T,by rw[V.q97];exact h1,h2,h3,h4,by rw[V.q97];exact h5,by rw[V.q97];exact q8.q0z x h6,by rw[V.z9K];exact h7,by rw[V.z4p];exact h8⟩
  ·exact c.obj j o hj
 ·rw[Q8]
  split
  ·simp
  ·exact c.dom j hj
 ·unfold S.p9 at hj ⊢
  rw[Q8]
  split
  ·rename_i e;subst e;rw[h]at hj;cases hj
  ·exact hj
attribute [go_sem] V.q0z V.q4y
end Go.E
namespace Go.E
open Go
theorem y3o {X:Cx} {n:Nat} {s s':S} {Γ0 Γ:G} {a:Act} {w:World} (g1:GLe Γ0 Γ) (g3:Γ.gl=X.gl) (c:z8 Γ w s) (hs:q1t Γ s a.tmps) (hn:a.tmps.size=n) (hf:a.defers=[]) (hAok:AOk s.A) (hA:s'.A=s.A) (hloc:q2B s s'.loc) (hlok:q0u (c9 s'.loc) (W5 s'.tk) s'.loc=true) (hg:q56 s'.loc s.A s.loc)
  (htk:tkW s s'.tk) (henv:q48 (c9 s'.loc) (W5 s'.tk) s s'.env):GLe Γ0 (Γ.part (c9 s'.loc) (W5 s'.tk))∧(Γ.part (c9 s'.loc) (W5 s'.tk)).gl=X.gl∧z8 (Γ.part (c9 s'.loc) (W5 s'.tk)) w s'∧q1t (Γ.part (c9 s'.loc) (W5 s'.tk)) s' a.tmps∧a.tmps.size=n∧a.defers=[]∧AOk s'.A:=by
 have sub:Sub Γ (Γ.part (c9 s'.loc) (W5 s'.tk)) (c9 s'.loc) (W5 s'.tk):=
  ⟨rfl,rfl,rfl,rfl,rfl,fun _=>rfl,fun n h=>by simp[G.part,h],fun t h=>by simp[G.part,h],fun _ _ _ _ _=>rfl⟩
 refine⟨⟨g1.H,g1.Z,g1.ZH,g1.g,g1.gl,g1.oo,g1.σ,g1.gn⟩,g3,c.sub sub rfl (fun n h=>by simp[G.part,h]) hA hAok hloc hlok hg (fun b o sz h=>⟨o,h,fun _ h=>h⟩) (fun t L h=>?_) (fun t h=>?_),fun i=>?_,hn,hf,by rw[hA];exact hAok⟩
 ·unfold S.live F1 at h
  cases hl:look s'.tk t with
  |none=>simp[hl]at h
  |some x=>
   cases x with
   |none=>simp[hl]at h
   |some M=>
    simp[hl]at h;subst h
    have hlive:s.live t=some M:=z0Y htk hl
    obtain⟨x,a1,a2⟩:=c.tok t M hlive
    exact⟨x,by simp[G.part,W5,hl,a1],fun b pos sz hx=>a2 b pos sz hx⟩
 ·cases hh:W5 s'.tk t with
  |true=>exact hh
  |false=>simp[G.part,hh]at h
 ·cases hl:look s'.env i with
  |none=>simp[S.get,hl,q9]
  |some x=>
   obtain⟨e1,e2,e3⟩:=q9v henv hl
   have hget:s'.get i=x:=by simp[S.get,hl]
   rw[hget]
   by_cases hx:x= .any
   ·subst hx;trivial
   ·have hr:=hs i
    have e3:=e3.resolve_left hx
    refine q9.sub sub e2 ?_
    cases hsi:s.get i with
    |any=>
     rw[hsi]at e1
     cases x <;> simp[V.u1,s9]at e1 hx
    |tup us=>
     rw[hsi]at e1 hr
     cases x <;> simp[V.u1,s9]at e1 hx
     subst e1;exact hr
    |_=>
     rw[hsi]at e1 hr e3
     have hpl:q8 Γ none [] _ (a.tmps.getD i undef).cells.toList∧_:=hr
     obtain⟨r1,r2⟩:=q8.u1 x _ e1 hpl.1
     have hxp:=V.q13 r1 hx
     exact(y8 hxp).2 ⟨r1,by rw[e3];exact hpl.2⟩
theorem z7x {X:Cx} {n:Nat} {s s':S} {t j:Nat} {τ:Ty} {x:V} {cc:C} (hslot:s.get t= .ptr (.l j) [] τ) (hobj:s.obj (.l j)=some (.box x)) (hcl:s9 x=some cc) (hτ:x.ty=τ) (hj:c9 s'.loc j=false)
  (hA:s'.A=s.A) (hloc:q2B s s'.loc) (hlok:q0u (c9 s'.loc) (W5 s'.tk) s'.loc=true) (hg:q56 s'.loc s.A s.loc)
  (htk:tkW s s'.tk) (henv:q48 (c9 s'.loc) (W5 s'.tk) s s'.env):q0g X n s (s'.set (some t) (.cptr τ cc)):=by
 rintro Γ0 a w ⟨Γ,g1,g3,c,hs,hn,hf,hAok⟩
 obtain⟨p1,p2,p3,p4,p5,p6,p7⟩:=y3o (X:=X) (n:=n) (s':=s') g1 g3 c hs hn hf hAok hA hloc hlok hg htk henv
 have hst:=hs t
 rw[hslot]at hst
 obtain⟨b,τ0,off,e1,i2,hv⟩:=X5 hst
 obtain⟨b2,cells,T,i1,e2,e3,e4,e5,e6,e7,e8⟩:=c.own e1 hobj
 obtain⟨fr0,e4,hfr0⟩:=e4
 rw[e1]at i1;cases i1
 simp only[Ty.walk,Option.some.injEq,Prod.mk.injEq]at i2
 obtain⟨rfl,_⟩:=i2
 have hdl:∀k o,s'.obj k=some o→s.p9 k=true→o.X3=true:=by
  intro k o ho hd
  unfold S.obj b6 at ho
  cases hl:z6 s'.loc k with
  |some o1=>
   rw[hl]at ho;cases ho
   obtain⟨o0,h1,h2⟩:=q6t hloc hl
   rw[c6 h1]at hd
   exact O.z4g h2 hd
  |none=>
   cases k with
   |l n=>rw[hl]at ho;cases ho
   |g k=>
    have:=q9V hA hg hl
    unfold S.p9 at hd
    rw[←this]at hd
    have h2:S.obj s' (.g k)=some o:=by unfold S.obj b6;exact ho
    rw[h2]at hd;exact hd
 have hno:∀k τ o,(Γ.part (c9 s'.loc) (W5 s'.tk)).ι k=some (b,τ)→s'.obj k=some o→o.X3=true:=by
  intro k τ' o hk hko
  have hk':Γ.ι k=some (b,τ')∧k≠.l j:=by
   cases k with
   |g k=>exact⟨hk,by simp⟩
   |l m=>
    simp only[G.part]at hk
    split at hk
    ·rename_i hm
     refine⟨hk,fun e=>?_⟩
     cases e;rw[hj]at hm;cases hm
    ·cases hk
  rcases c.inj k (.l j) b _ _ hk'.1 e1 with e|⟨e|e,_⟩
  ·exact absurd e hk'.2
  ·exact hdl k o hko e
  ·rw[c6 hobj]at e;cases e
 obtain⟨q1,q2,q3⟩:=p3.freeze e4 e2 hno
 have hrc:z7 Γ.H x.ty (chunk cells.toList 0 x.ty.size) cc:=q0M _ e6 hcl
 refine⟨_,⟨Hp.le_trans p1.H q3,p1.Z,fun b' hb'=>?_,p1.g,p1.gl,p1.oo,p1.σ,p1.gn⟩,p2,q52 q1 _ _,fun i=>?_,p5,p6,p7⟩
 ·refine(c4 _ _ fun e=>?_).trans (p1.ZH b' hb')
  subst e
  exact hb' (by rw[←g1.Z];exact e3)
 ·rw[q2w]
  split
  ·rename_i e
   cases e
   rw[hv]
   refine q0k (l:=cells.toList) (w8 _ _ _) (by rw[←hτ];simpa using e5) ?_
   rw[←hτ]
   exact hrc.mono q3
  ·exact(p4 i).o6 q2
theorem C.y19:∀(cs:List C) (n:Nat),cs.length=n→cs=(List.range n).map fun i=>cs.getD i .nil:=by
 intro cs n h
 subst h
 refine List.ext_getElem (by simp) fun i h1 h2=>?_
 simp[List.getElem?_eq_getElem h1]
theorem C.q8G {sz:Nat} {os:List Nat} {fs:List Ty} {c:C} (h:C.wf (.struct sz os fs) c): .agg ((List.range fs.length).map c.get)=c:=by
 simp only[C.wf]at h
 obtain⟨h1,h2⟩:=h
 have hl:=C.z1z h2
 rw[h1]
 congr 1
 rw[←hl]
 exact(C.y19 c.elems _ rfl).symm
end Go.E
namespace Go.E
open Go Go.ChangeShapes Go.WideShapes
def q31 (w:World):Hp:=fun b=>match w.heap[b]? with
 |some (.cells c _ _)=>some c.toList
 |_=>none
theorem q9n {w:World} {a:Addr} {v:Value} (h:w.cell? a=some v):∃l,q31 w a.block=some l∧l[a.off]? =some v∧a.spot=none:=by
 unfold World.cell? at h
 unfold q31
 split at h
 ·rename_i c _ _ hc
  split at h
  ·cases h
  ·rename_i hs
   refine⟨c.toList,by simp[hc],by simpa using h,?_⟩
   cases hh:a.spot <;> simp_all
 ·cases h
mutual
def Ty.dat:Ty→Bool
 | .int _| .bool| .str=>true
 | .slice _ e=>e.dat&&decide (0<e.size)
 | .arr _ e=>e.dat&&decide (0<e.size)
 | .struct sz os fs=>Ty.z7g fs&&decide (os.length=fs.length)&&(List.range sz).all fun i=>(List.range fs.length).any fun j=>match os[j]?,fs[j]? with|some o,some f=>decide (o≤i)&&decide (i<o+f.size)|_,_=>false
 |_=>false
def Ty.z7g:List Ty→Bool
 | []=>true
 |f::fs=>f.dat&&Ty.z7g fs
end
theorem z7f:∀{fs:List Ty} {i:Nat} {f:Ty},Ty.z7g fs=true→fs[i]? =some f→f.dat=true
 | [],_,_,_,h=>by simp at h
 |g::fs,0,f,hd,h=>by simp[Ty.z7g]at hd h;rw[←h];exact hd.1
 |g::fs,i+1,f,hd,h=>by simp[Ty.z7g]at hd;exact z7f hd.2 (by simpa using h)
theorem q3Y {α β:Type} {f:α→Option β}:∀{l:List α} {r:List β},l.mapM f=some r→∀i:Nat,l[i]?.bind f=r[i]?
 | [],r,h,i=>by simp at h;subst h;simp
 |x::l,r,h,i=>by
  rw[List.mapM_cons]at h
  cases hx:f x with
  |none=>simp[hx]at h
  |some y=>
   cases hl:l.mapM f with
   |none=>simp[hx,hl]at h
   |some ys=>
    simp[hx,hl]at h
    subst h
    cases i with
    |zero=>simp[hx]
    |succ i=>simpa using q3Y hl i
theorem q5N {α β:Type} {f:α→Option β}:∀{l:List α} {r:List β},l.mapM f=some r→r.length=l.length
 | [],r,h=>by simp at h;subst h;rfl
 |x::l,r,h=>by
  rw[List.mapM_cons]at h
  cases hx:f x with
  |none=>simp[hx]at h
  |some y=>
   cases hl:l.mapM f with
   |none=>simp[hx,hl]at h
   |some ys=>
    simp[hx,hl]at h
    subst h
    simp[q5N hl]
theorem z0U {w:World} {base:Nat} {a:Addr} {n:Nat} {cs:List Value} (h:w.cells? base a n=some cs) (hn:0<n):
  ∃l,q31 w a.block=some l∧a.spot=none∧a.off+n≤l.length∧cs=chunk l a.off n:=by
 unfold World.cells? at h
 split at h
 ·have hl:=q5N h
  simp at hl
  have hg:=q3Y h
  have h0:=hg 0
  cases hc:cs[0]? with
  |none=>simp at hc;subst hc;simp at hl;omega
  |some v0=>
   rw[hc]at h0
   simp[List.getElem?_range hn]at h0
   have e0:a.add 0=a:=by simp[Addr.add]
   rw[e0]at h0
   obtain⟨l,h1,h2,h3⟩:=q9n h0
   refine⟨l,h1,h3,?_,?_⟩
   ·have hlast:=hg (n-1)
    cases hc':cs[n-1]? with
    |none=>simp at hc';omega
    |some v1=>
     rw[hc']at hlast
     simp[List.getElem?_range (show n-1<n by omega)]at hlast
     obtain⟨l',g1,g2,_⟩:=q9n hlast
     have eb:(a.add (n-1)).block=a.block:=by unfold Addr.add;split <;> rfl
     have eo:(a.add (n-1)).off=a.off+(n-1):=by unfold Addr.add;split <;> simp_all
     rw[eb,h1]at g1;cases g1
     rw[eo]at g2
     have:=(List.getElem?_eq_some_iff.1 g2).1
     omega
   ·apply List.ext_getElem?
    intro i
    by_cases hi:i<n
    ·have:=hg i
     simp[List.getElem?_range hi]at this
     cases hc':cs[i]? with
     |none=>simp at hc';omega
     |some v1=>
      rw[hc']at this
      obtain⟨l',g1,g2,_⟩:=q9n this
      have eb:(a.add i).block=a.block:=by unfold Addr.add;split <;> rfl
      have eo:(a.add i).off=a.off+i:=by unfold Addr.add;split <;> simp_all
      rw[eb,h1]at g1;cases g1
      rw[eo]at g2
      simp[chunk,List.getElem?_take,hi,g2]
    ·rw[List.getElem?_eq_none (by omega)]
     simp[chunk,List.getElem?_take,hi]
 ·cases h
theorem q1y {a b:List Nat} (h:(a++b).all (·≤reachBytes)=true):a.all (·≤reachBytes)=true∧b.all (·≤reachBytes)=true:=by
 simpa[List.all_append]using h
theorem q3P {H:Type} {P:Program} {e:TypeId}:∀{l:List (DataW H)} {i:Nat} {d:DataW H},l[i]? =some d→(DataW.weightsAll P e l).all (·≤reachBytes)=true→(d.weights P e).all (·≤reachBytes)=true
 | [],i,d,h,_=>by simp at h
 |x::l,0,d,h,hw=>by
  simp at h;subst h
  simp only[DataW.weightsAll]at hw
  exact(q1y hw).1
 |x::l,i+1,d,h,hw=>by
  simp only[DataW.weightsAll]at hw
  exact q3P (by simpa using h) (q1y hw).2
theorem q29 {H:Type} {P:Program}:∀{ts:List TypeId} {l:List (DataW H)} {i:Nat} {t:TypeId} {d:DataW H},ts[i]? =some t→l[i]? =some d→(DataW.weightsEach P ts l).all (·≤reachBytes)=true→(d.weights P t).all (·≤reachBytes)=true
 | [],_,i,t,d,h,_,_=>by simp at h
 |_::_,[],i,t,d,_,h,_=>by simp at h
 |t::ts,x::l,0,t',d,ht,h,hw=>by
  simp at ht h;subst ht;subst h
  simp only[DataW.weightsEach]at hw
  exact(q1y hw).1
 |t::ts,x::l,i+1,t',d,ht,h,hw=>by
  simp only[DataW.weightsEach]at hw
  exact q29 (by simpa using ht) (by simpa using h) (q1y hw).2
theorem q8s {vs:List Value} (h:∀i:Nat,i<vs.length→∃o m,o≤i∧i<o+m∧J0 (chunk vs o m)):J0 vs:=by
 intro v hv
 obtain⟨i,hi,rfl⟩:=List.getElem_of_mem hv
 obtain⟨o,m,h1,h2,h3⟩:=h i hi
 refine h3 _ ?_
 refine List.mem_of_getElem? (i:=i-o) ?_
 simp only[chunk,List.getElem?_take,List.getElem?_drop]
 rw[if_pos (by omega),show o+(i-o)=i by omega,List.getElem?_eq_getElem hi]
mutual
def cOf {H:Type}:DataW H→C
 | .lit (.bool b)=>.bool b
 | .lit (.int _ n)=>.int n
 | .lit (.string l)=>.str l
 | .nil=>.slice []
 | .slice es _=>.slice (q6Q es)
 | .agg ps=>.agg (q6Q ps)
 |_=>.nil
def q6Q {H:Type}:List (DataW H)→List C
 | []=>[]
 |d::ds=>cOf d::q6Q ds
end
theorem q8d {H:Type}:∀{ds:List (DataW H)} {i:Nat},(q6Q ds)[i]? =(ds[i]?).map cOf
 | [],i=>by simp[q6Q]
 |d::ds,0=>by simp[q6Q]
 |d::ds,i+1=>by simp[q6Q,q8d]
theorem q8c {H:Type}:∀{ds:List (DataW H)},(q6Q ds).length=ds.length
 | []=>rfl
 |d::ds=>by simp[q6Q,q8c]
section
variable {H:Type} {enc:TypeId × Value→H} {P:Program} {w:World}
theorem q2E (hP:x4 P=true) {base:Nat} {held:Bool} {sp:Nat→Bool} (hsp:∀b,sp b=true):∀(fuel f:Nat) {t:TypeId} {cs:List Value} {d:DataW H} {ps:List MemPlace},t<P.types.size→(tyF P f t).dat=true→
  DataW.trod enc P w base sp held fuel t cs=some (d,ps)→(d.weights P t).all (·≤reachBytes)=true→z7 (q31 w) (tyF P f t) cs (cOf d)
 |0,f,t,cs,d,ps,_,_,h,_=>by simp[DataW.trod]at h
 |fuel+1,0,t,cs,d,ps,_,hf,h,_=>by simp[tyF,Ty.dat]at hf
 |fuel+1,f+1,t,cs,d,ps,ht,hf,h,hw=>by
  have hok:=q15 hP ht
  unfold okT at hok
  unfold tyF at hf ⊢
  rw[if_pos ht]at hf ⊢
  cases hu:P.underlying t with
  |none=>simp[hu,Ty.dat]at hf
  |some desc=>
   simp only[hu]at hf hok ⊢
   cases desc with
   |bool=>
    unfold DataW.trod at h
    simp only[hu]at h
    split at h <;> simp_all
    rw[←h.1]
    simp[z7,cOf]
   |int k=>
    unfold DataW.trod at h
    simp only[hu]at h
    split at h <;> simp_all
    obtain⟨⟨rfl,hh⟩,hd,_⟩:=h
    simp[Lit.wf]at hh
    rw[←hd]
    simp[z7,cOf];omega
   |string=>
    unfold DataW.trod at h
    simp only[hu]at h
    split at h <;> simp_all
    obtain⟨hh,rfl,_⟩:=h
    simp[DataW.weights,reachBytes]at hw
    simp only[z7,cOf]
    exact⟨_,rfl,by simp,by simp;omega⟩
   |slice e=>
    simp only[Ty.dat,Bool.and_eq_true,decide_eq_true_eq]at hf
    simp only[Bool.and_eq_true,beq_iff_eq,decide_eq_true_eq]at hok
    have hsz:(tyF P f e).size=P.cellsOf e:=j3 hP f e
    unfold DataW.trod at h
    simp only[hu]at h
    split at h <;> try (simp_all;done)
    ·simp only[Option.some.injEq,Prod.mk.injEq]at h
     rw[←h.1]
     simp only[z7,cOf]
     exact⟨none,0,0,[],rfl,rfl,rfl,Nat.le_refl _,by simp[maxLen],by simp,.inl rfl⟩
    ·rename_i e' a len cap he
     simp at he;subst he
     split at h
     ·rename_i hc
      simp only[Option.bind_eq_some_iff,Option.map_eq_some_iff]at h
      obtain⟨elems,he1,rest,he2,he3⟩:=h
      simp only[Prod.mk.injEq]at he3
      obtain⟨rfl,_⟩:=he3
      simp only[DataW.weights,hu,List.all_cons,Bool.and_eq_true,decide_eq_true_eq]at hw
      obtain⟨hw1,hw2⟩:=hw
      obtain⟨hw2,hw3⟩:=q1y hw2
      have hl:=q5N he1
      simp at hl
      have hbound:len*P.bytesOf e≤140737488355328:=by
       have:len*P.bytesOf e≤(elems.length+rest.length)*P.bytesOf e:=Nat.mul_le_mul_right _ (by omega)
       simp[reachBytes]at hw1
       omega
      by_cases hz:len=0
      ·subst hz
       have:elems=[]:=by cases elems <;> simp_all
       subst this
       simp only[z7,cOf,List.map_nil,q6Q]
       exact⟨some a,0,cap,[],rfl,rfl,rfl,Nat.zero_le _,hc.2.2,by simp,.inl rfl⟩
      ·have key:∀i,i<len→∃l,q31 w a.block=some l∧a.spot=none∧(a.off+i*P.cellsOf e)+P.cellsOf e≤l.length∧∀x,elems[i]? =some x→z7 (q31 w) (tyF P f e) (chunk l (a.off+i*P.cellsOf e) (P.cellsOf e)) (cOf x.1):=by
        intro i hi
        have hg:=q3Y he1 i
        rw[List.getElem?_range hi]at hg
        have hi':i<elems.length:=by omega
        rw[List.getElem?_eq_getElem hi']at hg
        simp only[Option.bind_some,Option.bind_eq_some_iff]at hg
        obtain⟨cs,hc1,hc2⟩:=hg
        obtain⟨l,q1,q2,q3,q4⟩:=z0U hc1 (by rw[←hsz];exact hf.2)
        have eb:(a.add (i*P.cellsOf e)).block=a.block:=by unfold Addr.add;split <;> rfl
        have eo:(a.add (i*P.cellsOf e)).off=a.off+i*P.cellsOf e:=by unfold Addr.add;split <;> simp_all
        have h0:a.spot=none:=by
         have hg0:=q3Y he1 0
         rw[List.getElem?_range (by omega),List.getElem?_eq_getElem (by omega)]at hg0
         simp only[Option.bind_some,Option.bind_eq_some_iff]at hg0
         obtain⟨cs0,hc01,_⟩:=hg0
         obtain⟨_,_,q,_⟩:=z0U hc01 (by rw[←hsz];exact hf.2)
         simpa[Addr.add]using q
        rw[eb]at q1;rw[eo]at q3 q4
        subst q4
        have hcr:=q2E hP hsp fuel f hok.2 hf.1 hc2 (q3P (i:=i) (by simp[List.getElem?_map,List.getElem?_eq_getElem hi']) hw2)
        exact⟨l,q1,h0,q3,fun x hx=>by rw[List.getElem?_eq_getElem hi']at hx;cases hx;exact hcr⟩
       obtain⟨l,hl1,hl2,_,_⟩:=key 0 (by omega)
       simp only[z7,cOf]
       refine⟨some a,len,cap,_,rfl,rfl,by simp[q8c,hl],hc.2.1,hc.2.2,hbound,.inr ⟨a.block,a.off,l,?_,hl1,?_,fun i c hi=>?_⟩⟩
       ·cases a;simp_all
       ·rw[hsz]
        obtain⟨l',q1,_,q3,_⟩:=key (len-1) (by omega)
        rw[hl1]at q1;cases q1
        have:len*P.cellsOf e=(len-1)*P.cellsOf e+P.cellsOf e:=by
         rw[←Nat.succ_mul];congr 1;omega
        omega
       ·simp only[q8d,List.getElem?_map,Option.map_map,Option.map_eq_some_iff]at hi
        obtain⟨x,hx,rfl⟩:=hi
        have hi':i<len:=by
         have:=(List.getElem?_eq_some_iff.1 hx).1
         omega
        rw[hsz]
        obtain⟨l',q1,_,_,q4⟩:=key i hi'
        rw[hl1]at q1;cases q1
        exact q4 x hx
     ·cases h
   |array n e=>
    simp only[Ty.dat,Bool.and_eq_true,decide_eq_true_eq]at hf
    simp only[Bool.and_eq_true,beq_iff_eq,decide_eq_true_eq]at hok
    have hsz:(tyF P f e).size=P.cellsOf e:=j3 hP f e
    unfold DataW.trod at h
    simp only[hu]at h
    split at h
    ·rename_i hlen
     simp only[Option.map_eq_some_iff]at h
     obtain⟨elems,he1,he3⟩:=h
     simp only[Prod.mk.injEq]at he3
     obtain⟨rfl,_⟩:=he3
     simp only[DataW.weights,hu]at hw
     have hl:=q5N he1
     simp at hl
     have key:∀i x,elems[i]? =some x→z7 (q31 w) (tyF P f e) (chunk cs (i*P.cellsOf e) (P.cellsOf e)) (cOf x.1):=by
      intro i x hx
      have hg:=q3Y he1 i
      have hi:i<n:=by have:=(List.getElem?_eq_some_iff.1 hx).1;omega
      rw[List.getElem?_range hi,hx]at hg
      simp only[Option.bind_some]at hg
      exact q2E hP hsp fuel f hok.2 hf.1 hg (q3P (i:=i) (by simp[List.getElem?_map,hx]) hw)
     simp only[z7,cOf]
     refine⟨_,rfl,by simp[q8c,hl],by rw[hsz,hlen,hok.1],q8s fun i hi=>?_,fun i c hi=>?_⟩
     ·have hi2:i / P.cellsOf e<n:=by
       rw[Nat.div_lt_iff_lt_mul (by omega)]
       omega
      have hc:=key (i / P.cellsOf e) _ (List.getElem?_eq_getElem (by omega))
      refine⟨_,_,?_,?_,hc.one⟩
      ·exact Nat.div_mul_le_self _ _
      ·have:=Nat.lt_div_mul_add (a:=i) (b:=P.cellsOf e) (by omega)
       omega
     ·simp only[q8d,List.getElem?_map,Option.map_map,Option.map_eq_some_iff]at hi
      obtain⟨x,hx,rfl⟩:=hi
      rw[hsz]
      exact key i x hx
    ·cases h
   |struct fs=>
    simp only[Ty.dat,Bool.and_eq_true,decide_eq_true_eq,List.all_eq_true,List.any_eq_true,List.mem_range]at hf
    simp only[List.all_eq_true,Bool.and_eq_true,decide_eq_true_eq]at hok
    obtain⟨⟨hf1,hf2⟩,hf3⟩:=hf
    unfold DataW.trod at h
    simp only[hu]at h
    split at h
    ·rename_i hlen
     simp only[Option.map_eq_some_iff]at h
     obtain⟨elems,he1,he3⟩:=h
     simp only[Prod.mk.injEq]at he3
     obtain⟨rfl,_⟩:=he3
     simp only[DataW.weights,hu]at hw
     have hl:=q5N he1
     have key:∀(i:Nat) g x,fs.toList[i]? =some g→elems[i]? =some x→z7 (q31 w) (tyF P f g.type) (chunk cs g.offset (P.cellsOf g.type)) (cOf x.1):=by
      intro i g x hi he
      have hg:=q3Y he1 i
      rw[hi,he]at hg
      simp only[Option.bind_some]at hg
      exact q2E hP hsp fuel f (hok g (List.mem_of_getElem? hi)).1 (z7f (i:=i) hf1 (by simp only[List.getElem?_map,hi,Option.map_some])) hg
        (q29 (i:=i) (by simp only[List.getElem?_map,hi,Option.map_some]) (by simp only[List.getElem?_map,he,Option.map_some]) hw)
     simp only[z7,cOf]
     refine⟨_,rfl,hlen,q8s fun i hi=>?_,s7.q4L (by simp[q8c,hl]) fun i F c hF hc=>?_⟩
     ·obtain⟨j,hj,hj2⟩:=hf3 i (by omega)
      split at hj2
      ·rename_i o F ho hF
       simp at hj2
       simp only[List.getElem?_map,Option.map_eq_some_iff]at ho hF
       obtain⟨g,hg,rfl⟩:=ho
       obtain⟨g',hg',rfl⟩:=hF
       rw[hg]at hg';cases hg'
       have hjl:=(List.getElem?_eq_some_iff.1 hg).1
       have hc:=key j g _ hg (List.getElem?_eq_getElem (by omega))
       rw[j3 hP]at hj2
       exact⟨_,_,hj2.1,hj2.2,hc.one⟩
      ·cases hj2
     ·simp only[List.getElem?_map,q8d,Option.map_map,Option.map_eq_some_iff]at hF hc
      obtain⟨g,hg,rfl⟩:=hF
      obtain⟨x,hx,rfl⟩:=hc
      refine⟨g.offset,by simp only[List.getElem?_map,hg,Option.map_some],?_,?_⟩
      ·rw[j3 hP,hlen]
       exact(hok g (List.mem_of_getElem? hg)).2
      ·rw[j3 hP]
       exact key i g x hg hx
    ·cases h
   |_=>simp[Ty.dat]at hf
end
end Go.E
