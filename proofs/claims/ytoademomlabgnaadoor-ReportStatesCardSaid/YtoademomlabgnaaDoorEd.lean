/-
 A framework for runs of Go code over abstract data: what it needs, and that it is sound, part 4.
 Conditions: none.
-/
import Derived.Test.YtoademomlabgnaaDoorEc
set_option linter.all false
namespace Go.E
open Go
mutual
def Ty.W2:Ty→Bool
 | .int _| .bool| .str=>true
 | .arr _ e=>e.W2
 | .struct _ _ fs=>Ty.z2v fs
 |_=>false
def Ty.z2v:List Ty→Bool
 | []=>true
 |t::ts=>t.W2&&Ty.z2v ts
end
mutual
theorem z7.W2 {H H':Hp}:∀{τ:Ty} {vs:List Value} {c:C},τ.W2=true→z7 H τ vs c→z7 H' τ vs c
 | .int _,_,_,_,r=>by simpa[z7]using r
 | .bool,_,_,_,r=>by simpa[z7]using r
 | .str,_,_,_,r=>by simpa[z7]using r
 | .arr n e,vs,c,h,r=>by
  simp only[z7]at r ⊢
  obtain⟨cs,rfl,h1,h2,h4,h3⟩:=r
  exact⟨cs,rfl,h1,h2,h4,fun i c hi=>z7.W2 (by simpa[Ty.W2]using h) (h3 i c hi)⟩
 | .struct sz os fs,vs,c,h,r=>by
  simp only[z7]at r ⊢
  obtain⟨cs,rfl,h1,h4,h2⟩:=r
  exact⟨cs,rfl,h1,h4,s8.W2 (by simpa[Ty.W2]using h) h2⟩
 | .slice _ _,_,_,h,_| .ptr,_,_,h,_| .map,_,_,h,_| .func,_,_,h,_| .iface,_,_,h,_| .opq _,_,_,h,_=>by simp[Ty.W2]at h
theorem s8.W2 {H H':Hp}:∀{fs:List Ty} {os:List Nat} {vs:List Value} {cs:List C},Ty.z2v fs=true→s8 H fs os vs cs→s8 H' fs os vs cs
 | [],_,_,_,_,r=>by simpa[s8]using r
 |f::fs,o::os,vs,cs,h,r=>by
  simp only[Ty.z2v,Bool.and_eq_true]at h
  simp only[s8]at r ⊢
  obtain⟨c,cs',rfl,h1,h2,h3⟩:=r
  exact⟨c,cs',rfl,h1,z7.W2 h.1 h2,s8.W2 h.2 h3⟩
 |_::_,[],_,_,_,r=>by simp[s8]at r
end
def V.q7p:List V→Bool
 | []=>true
 |x::xs=>(match x with| .d τ _=>τ.W2|_=>false)&&V.q7p xs
def V.W2:V→Bool
 | .d τ _=>τ.W2
 | .tup vs=>V.q7p vs
 |_=>false
theorem q8J {Γ Γ':G}:∀{xs:List V} {vs:List Value},V.q7p xs=true→y9 Γ xs vs→y9 Γ' xs vs
 | [],vs,_,h=>by simpa[y9]using h
 |x::xs,vs,hx,h=>by
  simp only[V.q7p,Bool.and_eq_true]at hx
  simp only[y9]at h ⊢
  obtain⟨v,vs',rfl,h1,h2,h3⟩:=h
  refine⟨v,vs',rfl,?_,h2,q8J hx.2 h3⟩
  cases x <;> simp at hx
  simp only[q8]at h1 ⊢
  exact h1.W2 hx.1
theorem z9G {Γ Γ':G} {x:V} {v:Value} (hx:x.W2=true) (h:q9 Γ x v):q9 Γ' x v:=by
 cases x <;> simp[V.W2]at hx
 ·rw[Q0]at h ⊢
  exact⟨h.1.W2 hx,h.2⟩
 ·simp only[q9]at h ⊢
  obtain⟨vs,rfl,h⟩:=h
  exact⟨vs,rfl,q8J hx h⟩
theorem z77 {x:V} (hx:x.W2=true) (n:Nat):x.X1 n=x:=by
 cases x <;> simp[V.W2]at hx
 ·rfl
 ·rename_i vs
  simp only[V.X1]
  congr 1
  have:∀(l:List V) (n:Nat),V.q7p l=true→Y9 n l=l:=by
   intro l
   induction l with
   |nil=>intros;rfl
   |cons x xs ih=>
    intro n h
    simp only[V.q7p,Bool.and_eq_true]at h
    simp only[Y9]
    rw[ih _ h.2]
    cases x <;> simp at h <;> rfl
  exact this vs n hx
def G.q36 (w:World) (gl:Nat→Option (Ty × C)):G where
 H b:=match w.heap[b]? with
  |some (.cells arr _ _)=>some arr.toList
  |_=>none
 Z b:=w.heap[b]?
 ι _:=none
 τ _:=none
 κ _:=none
 gl:=gl
 oo:=oof w
 σ _:=none
def q0K:Nat→S→V→V
 |0,_,_=>.any
 |f+1,s,x=>match x with
  | .sr k q lo n _ eb e=>(match s.obj k with
   |some (.box y)=>(match q0K f s (y.at q)with
    | .d _ c=>.d (.slice eb e) (.slice ((c.elems.drop lo).take n))
    |_=>.any)
   |_=>.any)
  | .agg τ vs=>(match Q8 (vs.map (q0K f s))with
   |some cs=>.d τ (.agg cs)
   |none=>.any)
  |x=>bif x.plain then(match s7 x with
   |some c=>.d x.ty c
   |none=>.any)else .any
def q0Y (s:S) (x:V):V:=q0K 5 s x
theorem z8H (s:S) (f:Nat) (x:V):q0K f s x= .any∨∃τ c,q0K f s x= .d τ c:=by
 cases f with
 |zero=>exact .inl rfl
 |succ f=>
  have other:∀x:V,(bif x.plain then(match s7 x with
   |some c=>V.d x.ty c
   |none=>.any)else .any)= .any∨∃τ c,(bif x.plain then(match s7 x with
   |some c=>V.d x.ty c
   |none=>.any)else .any)= .d τ c:=by
   intro x
   cases x.plain with
   |false=>exact .inl rfl
   |true=>
    simp only[cond_true]
    split
    ·exact .inr ⟨_,_,rfl⟩
    ·exact .inl rfl
  cases x <;> first
   |exact other _
   |(simp only[q0K]
     repeat' split
     all_goals first|exact .inl rfl|exact .inr ⟨_,_,rfl⟩)
def q1t:List V→Bool
 | []=>true
 |x::xs=>(match x with| .d _ _=>true|_=>false)&&q1t xs
section
variable {P:Program} {Γ:G} {w:World} {s:S}
theorem z3T (c:z8 Γ w s) (gl:Nat→Option (Ty × C)):Γ.H.le (G.q36 w gl).H:=by
 intro b l h
 obtain⟨arr,T,fr,r,h1,h2⟩:=c.hH b l h
 exact⟨r,by simp only[G.q36,h1,h2]⟩
theorem y4.snap {Γ':G} {hm:Option Key} {g:V→V} (hg:∀(x:V) (p:List Nat) (vs:List Value) τ cc,q8 Γ hm p x vs→g x= .d τ cc→x.ty=τ∧z7 Γ'.H τ vs cc) (hd:∀x,g x= .any∨∃τ c,g x= .d τ c):
  ∀(xs:List V) (p:List Nat) (i:Nat) (τ:Ty) (vs:List Value) (cs:List C),y4 Γ hm p i τ xs vs→Q8 (xs.map g)=some cs→y4 Γ' hm p i τ (xs.map g) vs
 | [],_,_,_,_,_,_,_=>by simp only[List.map_nil,y4]
 |x::xs,p,i,τ,vs,cs,h,hc=>by
  simp only[y4,List.map_cons,Q8]at h hc ⊢
  obtain⟨⟨o,f,h1,h2,h3,h4⟩,h5⟩:=h
  rcases hd x with e|⟨τ',c,e⟩
  ·rw[e]at hc;simp[s7]at hc
  ·cases e2:Q8 (xs.map g)with
   |none=>rw[e,e2]at hc;simp[s7]at hc
   |some cs'=>
    obtain⟨rfl,q2⟩:=hg x _ _ _ _ h4 e
    refine⟨⟨o,f,h1,by rw[e];exact h2,h3,?_⟩,y4.snap hg hd xs p (i+1) τ vs cs' h5 e2⟩
    rw[e,←h2]at*
    simpa only[q8]using q2
theorem q9d {s0:S} (c:z8 Γ w s) (hs:∀k o,Γ.ι k≠none→s0.obj k=some o→s.obj k=some o) (gl:Nat→Option (Ty × C)) {hm:Option Key}:∀(f:Nat) (x:V) (p:List Nat) (vs:List Value) (τ:Ty) (cc:C),q8 Γ hm p x vs→q0K f s0 x= .d τ cc→x.ty=τ∧z7 (G.q36 w gl).H τ vs cc
 |0,_,_,_,_,_,_,h=>by cases h
 |f+1,x,p,vs,τ,cc,hr,h=>by
  have hle:=z3T c gl
  have other:(bif x.plain then(match s7 x with
   |some c=>V.d x.ty c
   |none=>.any)else .any)= .d τ cc→x.ty=τ∧z7 (G.q36 w gl).H τ vs cc:=by
   intro h
   cases hp:x.plain with
   |false=>rw[hp]at h;cases h
   |true=>
    rw[hp]at h
    simp only[cond_true]at h
    split at h
    ·rename_i c0 hc0
     cases h
     exact⟨rfl,(q0P x hr hc0).mono hle⟩
    ·cases h
  cases x <;> (try exact other h)
  case agg τ0 xs=>
   simp only[q0K]at h
   split at h
   ·rename_i cs hcs
    cases h
    refine⟨rfl,?_⟩
    simp only[q8]at hr
    obtain⟨a1,a2,a3,a4,a5⟩:=hr
    have:q8 (G.q36 w gl) hm p (.agg τ (xs.map (q0K f s0))) vs:=by
     simp only[q8]
     exact⟨a1,a2,by rw[List.length_map];exact a3,a4,a5.snap (fun x p vs τ cc=>q9d c hs gl f x p vs τ cc) (z8H s0 f) xs p 0 τ vs cs hcs⟩
    exact q0P _ this (by simp only[s7,hcs,Option.map_some])
   ·cases h
  case sr k q lo n cp eb e=>
   simp only[q0K]at h
   split at h
   ·rename_i y ho0
    split at h
    ·rename_i τ1 c1 hy
     cases h
     refine⟨rfl,?_⟩
     simp only[q8]at hr
     rcases hr with⟨_,rfl,a,rfl⟩|⟨b,τ0,o0,m,cap,a1,a2,a3,⟨a,rfl,a4⟩,a5,a6,a7,_⟩
     ·exact v8 (by simp) (Nat.le_refl _) (Nat.zero_le _) (by rw[Nat.zero_mul];exact Nat.zero_le _) (.inl rfl)
     obtain⟨b',cells,T,g1,g2,g3,g4,g5,g6,g7,_⟩:=c.own a1 (hs k _ (by rw[a1];simp) ho0)
     rw[a1]at g1;cases g1
     obtain⟨q1,q2,q3⟩:=g6.at_ a2 (by intro e1;rw[e1]at hy;cases f <;> cases hy) g7
     obtain⟨rfl,q3⟩:=q9d c hs gl f _ _ _ _ _ q3 hy
     rw[q1]at q3
     simp only[z7]at q3
     obtain⟨cs,rfl,r1,r2,r3,r4⟩:=q3
     simp only[C.elems]
     rw[u7 _ _ _ (by simpa using g5)]at q2
     have hlen:((cs.drop lo).take n).length=n:=by simp;omega
     have hmul:(lo+n)*e.size≤m*e.size:=Nat.mul_le_mul_right _ a3
     rw[Nat.add_mul]at hmul
     simp only[Ty.size]at q2 r2 r4
     have hall:o0+lo*e.size+n*e.size≤cells.toList.length:=by simp;omega
     refine v8 hlen a5 a6 a7 ?_
     rcases Nat.eq_zero_or_pos n with h0|h0
     ·exact .inl h0
     ·have ha:a=some ⟨b,o0+lo*e.size,none⟩:=a4.resolve_left (by omega)
      refine .inr ⟨b,o0+lo*e.size,cells.toList,ha,by simp only[G.q36,g4],hall,fun i c' hi=>?_⟩
      rw[List.getElem?_take]at hi
      split at hi
      ·rename_i hin
       rw[List.getElem?_drop]at hi
       have:=r4 _ _ hi
       have hle2:(lo+i+1)*e.size≤m*e.size:=Nat.mul_le_mul_right _ (by omega)
       rw[Nat.add_mul,Nat.add_mul]at hle2
       rw[Nat.add_mul]at this
       rw[o7 _ _ _ _ _ (by omega),o7 _ _ _ _ _ (by omega)]at this
       rw[show 0+(o0+(lo*e.size+i*e.size))=o0+lo*e.size+i*e.size by omega]at this
       exact this
      ·cases hi
    ·cases h
   ·cases h
theorem y2t {s0:S} (c:z8 Γ w s) (hs:∀k o,Γ.ι k≠none→s0.obj k=some o→s.obj k=some o) (gl:Nat→Option (Ty × C)) {x:V} {v:Value} {τ:Ty} {cc:C} (hr:q9 Γ x v) (h:q0Y s0 x= .d τ cc):q9 (G.q36 w gl) (.d τ cc) v:=by
 have hp:x.plain=true:=by cases x <;> first|rfl|cases h
 obtain⟨h1,h2⟩:=(y8 hp).1 hr
 obtain⟨rfl,h3⟩:=q9d c hs gl _ _ _ _ _ _ h1 h
 exact Q0.2 ⟨h3,h2⟩
theorem y1D (hgl:∃gl0,Γ.gl=gl0) (c:z8 Γ w s) {xs:List V} (hx:q1t xs=true):z8 (G.q36 w Γ.gl) w (S.start xs fun _=>none):=by
 have htk:∀(l:List V) (n:Nat),q1t l=true→q2i n l=[]:=by
  intro l
  induction l with
  |nil=>intros;rfl
  |cons x xs ih=>
   intro n h
   simp only[q1t,Bool.and_eq_true]at h
   simp only[q2i]
   rw[ih _ h.2]
   cases x <;> simp at h <;> rfl
 refine⟨fun b l h=>?_,fun b o h=>h,fun b o sz h=>(by cases h),fun k o h=>?_,fun k h=>absurd rfl h,fun k k' b τ τ' h _=>(by cases h),fun t L h=>?_,fun t h=>absurd rfl h,fun g τ cc h=>?_,rfl,fun b sz h=>(by cases h)⟩
 ·simp only[G.q36]at h
  split at h
  ·rename_i arr T fr hw
   cases h
   exact⟨arr,T,fr,[],hw,by simp⟩
  ·cases h
 ·exfalso
  cases k <;> simp[S.start,S.obj,c3,z6]at h
 ·exfalso
  simp[S.start,S.live,H7,htk xs 1000 hx,look]at h
 ·obtain⟨l,h1,h2,h3⟩:=c.hgl g τ cc h
  obtain⟨r,hr⟩:=z3T c Γ.gl g l h1
  refine⟨l++r,hr,by simp;omega,?_⟩
  rw[q1d _ _ _ _ (by omega)]
  exact h3.mono (z3T c Γ.gl)
theorem y3y:AOk fun _=>none:=fun _ _ h=>by cases h
theorem y20 {w':World} {gl:Nat→Option (Ty × C)} {Γ':G} {s':S} (gle:GLe (G.q36 w gl) Γ') (c':z8 Γ' w' s'):Ext w w':=by
 have old:∀b,b<w.heap.size→w'.heap[b]? =w.heap[b]?:=fun b hb=>by
  have h1:w.heap[b]? =some w.heap[b]:=Array.getElem?_eq_getElem hb
  rw[h1]
  exact c'.hZ b _ (by rw[gle.Z];exact h1)
 refine⟨?_,old,?_⟩
 ·rcases Nat.eq_zero_or_pos w.heap.size with h|h
  ·omega
  ·have h1:=old (w.heap.size-1) (by omega)
   rw[Array.getElem?_eq_getElem (show w.heap.size-1<w.heap.size by omega)]at h1
   have:=j5 h1
   omega
 ·rw[c'.hoo,gle.oo];rfl
theorem y4F {X:Cx} (hgl:Γ.gl=X.gl) (c:z8 Γ w s) {o:Oper} {a:Act} {fo:Operand} {f:FuncId} {as:Array Operand} {ts:Array TypeId} {xs:List V} {v:V}
  (ho:o.op= .call {callee:=.value fo,args:=as,argTypes:=ts}) (hcal:q0W X.P f=true) (hf:q9 Γ (.fn f []) (a.eval fo))
  (hlen:xs.length=as.toList.length) (hr:∀(i:Nat) x y,xs[i]? =some x→as.toList[i]? =some y→q9 (G.q36 w Γ.gl) x (a.eval y)) (hx:q1t xs=true) (D:Q2 X f xs (fun _=>none) v []) (hv:v.W2=true):
  w6 X.P o a w (u5 Γ w s v):=by
 obtain⟨cv,hfv,hcl,_⟩:=q99 hf
 have hcv:cv=#[]:=by
  apply Array.eq_empty_of_size_eq_zero
  simpa using hcl.symm
 subst hcv
 have run:(execOp a.eval o).run X.P w= .ok (.enter f (as.map a.eval)) w:=by
  unfold execOp
  simp[ho,resolve,hfv,Deferred.ofValue,invoke,q9l hcal]
 have hsl:∀(l:List V) (n:Nat),q1t l=true→Y9 n l=l:=by
  intro l
  induction l with
  |nil=>intros;rfl
  |cons x xs ih=>
   intro n h
   simp only[q1t,Bool.and_eq_true]at h
   simp only[Y9]
   rw[ih _ h.2]
   cases x <;> simp at h <;> rfl
 refine w6.enter run ?_
 refine(D (fun _=>none) (G.q36 w Γ.gl) w (as.map a.eval) (fun _ _ h=>h) hgl ⟨y1D ⟨_,rfl⟩ c hx,y3y⟩ (by simpa using hlen) fun i x u hx' hu=>?_).mono ?_
 ·rw[hsl xs 1000 hx]at hx'
  rw[Array.getElem?_map]at hu
  cases hy:as[i]? with
  |none=>rw[hy]at hu;cases hu
  |some y=>
   rw[hy]at hu
   cases hu
   exact hr i x y hx' (by simpa using hy)
 ·rintro e w' ⟨u,Γ',rfl,gle,c',hv'⟩
  rw[z77 hv]at hv'
  exact⟨u,rfl,u5.ext c (y20 gle c') (z9G hv hv')⟩
end
end Go.E
namespace Go.E
open Go
def z7L:Value→V
 | .int k n=>.d (.int k) (.int n)
 | .bool b=>.d .bool (.bool b)
 | .string s=>.d .str (.str s.data.toList)
 | .pointer none=>.d .ptr .nil
 | .slice none 0 0=>.nilc
 | .map none=>.d .map .nil
 | .nilFunc=>.d .func .nil
 | .nilIface=>.d .iface .nil
 |_=>.any
def z4b:Value→Bool
 | .int k n=>decide (k.min≤n∧n≤k.max)
 | .string s=>decide (s.data.toList.length≤140737488355328)
 |_=>true
def q6w:Operand→Bool
 | .const v=>z4b v
 |_=>true
def q45 (n:Nat) (o:Oper):Bool:=
 o.op.operands.all q6w&&(match o.dst with|some d=>decide (d<n)|none=>true)
def y5 (gl:Nat→Option (Ty × C)) (s:S):Operand→V
 | .tmp t=>s.get t
 | .const v=>z7L v
 | .global g=>match gl g with
  |some (τ,c)=>.cptr τ c
  |none=>.any
 | .func f=>.fn f []
def r9 (md:List (Nat × Nat)) (d:Nat):Nat:=(look md d).getD 0
def S.add (s:S) (lo:List (Key × O)) (tn:List (Nat × Option Nat)):S:={s with loc:=lo++s.loc,tk:=tn++s.tk}
def q2r:List (Key × O)→Bool
 | []=>true
 |(.l _,_)::l=>q2r l
 |(.g _,_)::_=>false
def q40 (P:Program) (s:S) (t':TypeId) (eb:Nat) (e:Ty) (Y:V) (K:List C→Prop):Prop:=
 match ty P t' with
 | .slice _ _=>(match Y with
  | .nilc=>K []
  |Y=>match Z1 s Y with
   |some (eb',e',ys)=>eb'=eb∧e'=e∧K ys
   |none=>False)
 | .str=>e= .int .u8∧eb=1∧Y.isStr∧K (Y.toStr.map fun b=>C.int b.toNat)
 |_=>False
theorem q4H {P:Program} (hP:x4 P=true) {s:S} {t':TypeId} {eb:Nat} {e:Ty} {Y:V} {K:List C→Prop} (h:q40 P s t' eb e Y K):∃ys,K ys∧q5k P s t' eb e Y ys:=by
 unfold q40 at h
 split at h
 ·rename_i eb0 e0 ht
  obtain⟨E,hu,_⟩:=q0l hP ht
  split at h
  ·exact⟨[],h,.inl ⟨⟨E,hu⟩,.inr ⟨rfl,rfl⟩⟩⟩
  ·split at h
   ·rename_i eb' e' ys he
    obtain⟨rfl,rfl,hK⟩:=h
    exact⟨ys,hK,.inl ⟨⟨E,hu⟩,.inl he⟩⟩
   ·exact h.elim
 ·rename_i ht
  obtain⟨h1,h2,h3,hK⟩:=h
  exact⟨_,hK,.inr ⟨q4F ht,h3,h1,h2,rfl⟩⟩
 ·exact h.elim
def z5T (X:Cx) (f:FuncId) (xs:List V) (v:V):Prop:=
 ∀(Γ:G) (w:World) (args:Array Value),xs.length=args.size→(∀(i:Nat) x u,xs[i]? =some x→args[i]? =some u→q9 Γ x u)→∃u,(callFunc f args).run X.P w= .ok (.value u) w∧q9 Γ v u
mutual
def V.pks:V→List Key
 | .ptr k _ _| .mp k=>[k]
 | .sr k _ _ _ (some _) _ _=>[k]
 | .agg _ vs=>V.q3r vs
 |_=>[]
def V.q3r:List V→List Key
 | []=>[]
 |x::xs=>x.pks++V.q3r xs
end
def q2E:Nat→List (Key × O)→List Key→List (Key × O)
 |0,_,_=>[]
 |n+1,loc,ks=>ks.flatMap fun k=>match z6 loc k with
  |some o=>(k,o)::(match o with| .box x=>q2E n loc x.pks|_=>[])
  |none=>[]
def S.see (base s:S) (xs:List V):S:={base with loc:=q2E 3 s.loc (V.q3r xs)++base.loc}
def y2q (y:V) (q:List Nat) (t τ:Ty) (K:V→Prop):Prop:=
 match y,t with
 | .d (.arr M e) c,.arr m e'=>q≠[]∧e'=e∧τ=e∧(Ty.arr m e).known=true∧q.getLastD 0+m≤M∧K (.d (.arr m e) (.agg ((c.elems.drop (q.getLastD 0)).take m)))
 |_,_=>False
noncomputable def iop (X:Cx) (md:List (Nat × Nat)) (base:S) (dst:Nat) (o:Oper) (ρ:Operand→V) (s:S) (K:V→List (Key × O)→List (Nat × Option Nat)→Prop):Prop:=
 match o.op with
 | .load T x=>if r9 md dst=18 then(match ρ x with
   | .ptr k q τ=>(match s.obj k with
     |some (.box y)=>y2q (y.at q.dropLast) q (ty X.P T) τ fun v=>K v [] []
     |_=>False)
   |_=>False)
  else(match ρ x with
   | .ptr k q τ=>(match s.obj k with
     |some (.box y)=>y.at q≠.any∧τ=ty X.P T∧τ.known=true∧K (view (y.at q)) [] []
     |_=>False)
   | .cptr τ c=>τ=ty X.P T∧τ.known=true∧K (.d τ c) [] []
   |_=>False)
 | .alloc T=>b9 X.P T=true∧K (.ptr (.l dst) [] (ty X.P T)) [(.l dst,z6I (ty X.P T) T)] []
 | .box _ x=>if r9 md dst=5 then(ρ x).plain=true∧(match s7 (ρ x)with
    |some cc=>K (.cptr (ρ x).ty cc) [] []
    |none=>False)
   else(ρ x).plain=true∧(ρ x).u0=true∧K (.ptr (.l dst) [] (ρ x).ty) [(.l dst,.box (ρ x))] []
 | .buildSlice t len parts=>(match ty X.P t with
   | .slice eb e=>(match len with
    |0=>parts.toList.length=0∧K (.emp eb e) [] []
    |len+1=>b9 X.P (y7 X.P t)=true∧e.size≠0∧(len+1)*e.size≤16777216∧(len+1)*eb≤140737488355328∧parts.toList.map (·.1)=List.range (len+1)∧
      (if r9 md dst=20 then(∀x∈parts.toList.map (fun x=>ρ x.2),x.ty=e∧x.plain=true)∧V.c6 (parts.toList.map fun x=>ρ x.2)=true∧K (.sr (.l dst) [] 0 (len+1) (some (len+1)) eb e) [(.l dst,.box (.agg (.arr (len+1) e) (parts.toList.map fun x=>ρ x.2)))] []else match Q8 (parts.toList.map fun x=>ρ x.2)with
       |some cs=>(∀x∈parts.toList.map (fun x=>ρ x.2),x.ty=e∧x.plain=true)∧(if r9 md dst=4 then K (.sl eb e cs dst) [] [(dst,some cs.length)]else K (.d (.slice eb e) (.slice cs)) [] [])
       |none=>False))
   |_=>False)
 | .build T parts=>b9 X.P T=true∧(ty X.P T).W4=true∧(ty X.P T).isAgg=true∧q4c (ty X.P T) (o5 (ty X.P T)) (parts.toList.map fun p=>(p.1,ρ p.2))∧
   K (q3J (ty X.P T) (o5 (ty X.P T)) (parts.toList.map fun p=>(p.1,ρ p.2))) [] []
 | .makeSlice t l c=>(match ty X.P t with
   | .slice eb e=>b9 X.P (y7 X.P t)=true∧(ρ l).Z4∧(ρ c).Z4∧0≤(ρ l).toInt∧(ρ l).toInt≤(ρ c).toInt∧(ρ c).toInt≤9223372036854775807∧(ρ c).toInt.toNat*eb≤140737488355328∧e.size≠0∧
     K (.sr (.l dst) [] 0 (ρ l).toInt.toNat (if r9 md dst=9 then none else some (ρ c).toInt.toNat) eb e) [(.l dst,.box (.d (.arr (ρ l).toInt.toNat e) (.agg (List.replicate (ρ l).toInt.toNat (u9 e)))))] []
   |_=>False)
 | .makeMap T r=>(match r,q30 X.P T with
   |none,some (kt,et)=>K (.mp (.l dst)) [(.l dst,.map (ty X.P kt) (ty X.P et) [])] []
   |_,_=>False)
 | .lookup T x i ok=>(match q30 X.P T,ρ x with
   |some (kt,et),.mp k=>(match s.obj k with
     |some (.map kτ _ es)=>kτ=ty X.P kt∧F6 X.P kt=true∧b9 X.P et=true∧(ρ i).Q4 kτ∧
       K (if ok then .tup [q2t X.P et es (ρ i).toC,.d .bool (.bool (q0y es (ρ i).toC).isSome)]else q2t X.P et es (ρ i).toC) [] []
     |_=>False)
   |_,_=>False)
 | .call c=>(match c.callee with
   | .value fo=>(match ρ fo with
     | .fn f caps=>(q0W X.P f=true∧c.argTypes.toList.length=c.args.toList.length∧
      ∃b v L,(b=base∨b=base.see s (Q1 (c.args.toList.map ρ) caps))∧Q2 X f (c4 X.P false s (q3I c.argTypes.toList caps) (Q1 (c.args.toList.map ρ) caps)) b.up v L∧q2r L=true∧
       K ((v.X1 2000).ren (dn dst) (rk dst)) (dnL dst L) (dnT dst (v.tkR 2000)))∨
      (caps=[]∧∃v,z5T X f (c.args.toList.map ρ) v∧K v [] [])∨
      (caps=[]∧q0W X.P f=true∧∃v,q1t (c.args.toList.map fun y=>q0Y s (ρ y))=true∧Q2 X f (c.args.toList.map fun y=>q0Y s (ρ y)) (fun _=>none) v []∧v.W2=true∧K v [] [])
     |_=>False)
   | .builtin .append=>(match c.args.toList,c.argTypes.toList with
     | [x,y],[t,t']=>b9 X.P (y7 X.P t)=true∧(match ty X.P t,ρ x with
       | .slice eb e,.emp _ _=>q40 X.P s t' eb e (ρ y) fun ys=>if r9 md dst=3 then ys≠[]∧K (.sr (.l dst) [] 0 ys.length none eb e) [(.l dst,.box (.d (.arr ys.length e) (.agg ys)))] []else K (.sl eb e ys dst) [] [(dst,some ys.length)]
       | .slice eb e,.nilc=>q40 X.P s t' eb e (ρ y) fun ys=>if r9 md dst=3 then ys≠[]∧K (.sr (.l dst) [] 0 ys.length none eb e) [(.l dst,.box (.d (.arr ys.length e) (.agg ys)))] []else K (.sl eb e ys dst) [] [(dst,some ys.length)]
       |_,_=>False)
     |_,_=>False)
   | .builtin .len=>(match c.args.toList,c.argTypes.toList with
     | [x],[T]=>(match ρ x with
       | .mp k=>(match q30 X.P T,s.obj k with
         |some _,some (.map _ _ es)=>es.length≤9223372036854775807∧K (.d (.int .i64) (.int es.length)) [] []
         |_,_=>False)
       |_=>pv X.P o.op ρ fun y=>K y [] [])
     |_,_=>pv X.P o.op ρ fun y=>K y [] [])
   |_=>pv X.P o.op ρ fun y=>K y [] [])
 | .convert src dst' x=>(match strOf X.P s src dst' (ρ x)with
   |some ys=>K (.d .str (.str (ys.map q1U))) [] []
   |none=>pv X.P o.op ρ fun y=>K y [] [])
 |_=>pv X.P o.op ρ fun y=>K y [] []
structure Compat (s' s base:S):Prop where
 obj:∀k o,s.obj k=some o→s'.obj k≠none→s'.obj k=some o
 base:∀k o,base.obj k=some o→s'.obj k=some o
structure z5S (s:S) (lo:List (Key × O)) (tn:List (Nat × Option Nat)):Prop where
 l:∀k o,z6 lo k=some o→s.obj k=none
 t:∀t x,look tn t=some x→s.known t=false
section
variable {X:Cx} {Γ:G} {w:World} {s:S}
theorem Compat.getObj {s' base:S} (h:Compat s' s base) (c:z8 Γ w s') {k:Key} {o:O} (hι:Γ.ι k≠none) (ho:s.obj k=some o):s'.obj k=some o:=h.obj k o ho (c.dom k hι)
theorem q7B {s' base:S} (h:Compat s' s base) (c:z8 Γ w s') {x:V} {v:Value} {r:Nat × Ty × List C} (hr:q9 Γ x v) (he:Z1 s x=some r):∃x',q9 Γ x' v∧(x'= .nilc→x= .nilc)∧Z1 s' x'=some r:=by
 cases x <;> (try exact⟨_,hr,id,he⟩)
 case sr k q lo n cp eb e=>
  rcases q0k hr with⟨_,rfl,a,rfl⟩|⟨b,τ0,o,m,cap,a,hι,_⟩
  ·refine⟨.emp eb e,q1A,(fun h=>by cases h),?_⟩
   simp only[Z1]at he
   split at he
   ·split at he
    ·rw[←he];simp[Z1,V.q1M]
    ·cases he
   ·cases he
  ·refine⟨_,hr,id,?_⟩
   simp only[Z1]at he ⊢
   cases ho:s.obj k with
   |none=>simp[ho]at he
   |some o=>
    rw[h.getObj c (by rw[hι];simp) ho]
    rw[ho]at he;exact he
theorem z52 {P:Program} {s' base:S} (h:Compat s' s base) (c:z8 Γ w s') {src dst:TypeId} {Y:V} {v:Value} {ys:List C} (hr:q9 Γ Y v) (he:strOf P s src dst Y=some ys):∃Y',q9 Γ Y' v∧strOf P s' src dst Y'=some ys:=by
 cases hel:Z1 s Y with
 |some r=>
  obtain⟨Y',h1,h2,h3⟩:=q7B h c hr hel
  by_cases hY:Y= .nilc
  ·subst hY;exact⟨_,hr,he⟩
  refine⟨Y',h1,?_⟩
  rw[←he]
  unfold strOf
  have hY':Y'≠.nilc:=fun e=>hY (h2 e)
  rw[hel,h3]
  cases Y <;> first|exact absurd rfl hY|(cases Y' <;> first|exact absurd rfl hY'|rfl)
 |none=>
  refine⟨_,hr,?_⟩
  unfold strOf at he ⊢
  rw[hel]at he
  split at he
  ·split at he
   ·rename_i h0
    rw[if_pos h0]
    split at he
    ·exact he
    ·cases he
   ·cases he
  ·cases he
theorem q3g {P:Program} {s' base:S} (h:Compat s' s base) (c:z8 Γ w s') {t':TypeId} {eb:Nat} {e:Ty} {Y:V} {v:Value} {ys:List C} (hr:q9 Γ Y v) (he:q5k P s t' eb e Y ys):∃Y',q9 Γ Y' v∧q5k P s' t' eb e Y' ys:=by
 rcases he with⟨h1,h2|h2⟩|h1
 ·obtain⟨Y',a,_,b⟩:=q7B h c hr h2
  exact⟨Y',a,.inl ⟨h1,.inl b⟩⟩
 ·exact⟨_,hr,.inl ⟨h1,.inr h2⟩⟩
 ·exact⟨_,hr,.inr h1⟩
theorem z8y {P:Program} (s s':S) (T:TypeId) (x:V):W3 P false s T x=W3 P false s' T x:=by
 cases x <;> simp[W3]
theorem q3M {P:Program} (s s':S):∀(Ts:List TypeId) (xs:List V),c4 P false s Ts xs=c4 P false s' Ts xs
 | [],_=>rfl
 |_::_,[]=>rfl
 |T::Ts,x::xs=>by simp only[c4,z8y s s',q3M s s' Ts xs]
theorem q3s (s:S):∀(xs:List V),j7 false s xs=[]
 | []=>rfl
 |x::xs=>by
  have:c9 false s x=none:=by cases x <;> simp[c9]
  simp[j7,this,q3s s xs]
theorem z2s:∀{L:List (Key × O)} {k:Key} {o:O},q2r L=true→z6 L (.g k)=some o→False
 | [],_,_,_,h=>by simp[z6]at h
 |(.l n,_)::L,k,o,hl,h=>by simp[z6]at h;exact z2s (L:=L) (by simpa[q2r]using hl) h
 |(.g _,_)::_,_,_,hl,_=>by simp[q2r]at hl
theorem z6x (d:Nat):∀{L:List (Key × O)} {j:Nat} {o:O},q2r L=true→z6 L (.l j)=some o→z6 (dnL d L) (.l (rk d j))=some (o.ren (dn d))
 | [],_,_,_,h=>by simp[z6]at h
 |(.l n,o')::L,j,o,hl,h=>by
  simp only[z6]at h
  simp only[dnL,z6,dn]
  by_cases e:n=j
  ·subst e;simp at h;subst h;simp
  ·have e1:Key.l n≠.l j:=by intro h;cases h;exact e rfl
   have e2:Key.l (rk d n)≠.l (rk d j):=by intro h;simp[rk]at h;exact e h
   rw[if_neg e1]at h
   rw[if_neg e2]
   exact z6x d (L:=L) (by simpa[q2r]using hl) h
 |(.g _,_)::_,_,_,hl,_=>by simp[q2r]at hl
theorem z8f (d:Nat) (l:List (Nat × Option Nat)) (m:Nat):look (dnT d l) (rk d m)=look l m:=by rw[q71,q3U]
def y0K (X:Cx) (base:S) (o:Oper) (ρ:Operand→V) (s:S) (v:V) (lo:List (Key × O)) (tn:List (Nat × Option Nat)):Prop:=
 ∀(Γ:G) (w:World) (a:Act) (s':S),Γ.gl=X.gl→z8 Γ w s'→Compat s' s base→z5S s' lo tn→(∀y∈o.op.operands,q9 Γ (ρ y) (a.eval y))→w6 X.P o a w (u5 Γ w (s'.add lo tn) v)
theorem y4E (hP:x4 X.P=true) {o:Oper} {ρa:Operand→V} {K:V→Prop} (h:pv X.P o.op ρa K):
  ∃v,K v∧∀(Γ:G) (w:World) (a:Act) (s':S),z8 Γ w s'→(∀y∈o.op.operands,q9 Γ (ρa y) (a.eval y))→w6 X.P o a w (u5 Γ w s' v):=by
 obtain⟨v,hK,hs⟩:=y2B hP h
 refine⟨v,hK,fun Γ w a s' c hr=>?_⟩
 obtain⟨u,h1,h2⟩:=hs Γ w a.eval hr
 exact w6.val h1 (u5.same c h2)
mutual
theorem z3G {Γ:G}:∀{x:V} {hm:Option Key} {p:List Nat} {vs:List Value},q8 Γ hm p x vs→∀k∈x.pks,Γ.ι k≠none
 | .ptr k0 q τ,_,_,_,h,k,hk=>by
  simp only[V.pks,List.mem_singleton]at hk;subst hk
  simp only[q8]at h
  obtain⟨b,τ0,o,h1,_⟩:=h
  rw[h1];simp
 | .mp k0,_,_,_,h,k,hk=>by
  simp only[V.pks,List.mem_singleton]at hk;subst hk
  simp only[q8]at h
  obtain⟨b,h1,_⟩:=h
  rw[h1];simp
 | .sr k0 q lo n (some c) eb e,_,_,_,h,k,hk=>by
  simp only[V.pks,List.mem_singleton]at hk;subst hk
  simp only[q8]at h
  rcases h with⟨h,_⟩|⟨b,τ0,o,m,cap,h1,_⟩
  ·cases h
  ·rw[h1];simp
 | .agg τ xs,_,_,_,h,k,hk=>by
  simp only[V.pks]at hk
  simp only[q8]at h
  exact z6s h.2.2.2.2 k hk
 | .sr _ _ _ _ none _ _,_,_,_,_,k,hk| .d _ _,_,_,_,_,k,hk| .sl _ _ _ _,_,_,_,_,k,hk| .ts _ _ _,_,_,_,_,k,hk| .emp _ _,_,_,_,_,k,hk| .nilc,_,_,_,_,k,hk| .cptr _ _,_,_,_,_,k,hk| .fn _ _,_,_,_,_,k,hk| .tup _,_,_,_,_,k,hk| .top _,_,_,_,_,k,hk| .any,_,_,_,_,k,hk=>by simp[V.pks]at hk
theorem z6s {Γ:G}:∀{xs:List V} {hm:Option Key} {p:List Nat} {i:Nat} {τ:Ty} {vs:List Value},y4 Γ hm p i τ xs vs→∀k∈V.q3r xs,Γ.ι k≠none
 | [],_,_,_,_,_,_,k,hk=>by simp[V.q3r]at hk
 |x::xs,_,_,_,_,_,h,k,hk=>by
  simp only[V.q3r,List.mem_append]at hk
  simp only[y4]at h
  obtain⟨⟨o,f,_,_,_,h1⟩,h2⟩:=h
  rcases hk with hk|hk
  ·exact z3G h1 k hk
  ·exact z6s h2 k hk
end
theorem y2E {Γ:G} {x:V} {v:Value} (h:q9 Γ x v):∀k∈x.pks,Γ.ι k≠none:=by
 cases x with
 |any=>intro k hk;simp[V.pks]at hk
 |tup=>intro k hk;simp[V.pks]at hk
 |_=>exact z3G h.1
theorem z6t:∀{xs:List V} {k:Key},k∈V.q3r xs→∃x∈xs,k∈x.pks
 | [],_,h=>by simp[V.q3r]at h
 |x::xs,k,h=>by
  simp only[V.q3r,List.mem_append]at h
  rcases h with h|h
  ·exact⟨x,by simp,h⟩
  ·obtain⟨y,h1,h2⟩:=z6t h
   exact⟨y,by simp[h1],h2⟩
theorem z4B {s:S} {k:Key} {o:O} (h:z6 s.loc k=some o):s.obj k=some o:=by
 unfold S.obj c3;rw[h]
theorem q73:∀{l:List (Key × O)} {k:Key} {o:O},z6 l k=some o→(k,o)∈l
 | [],_,_,h=>by simp[z6]at h
 |(j,x)::l,k,o,h=>by
  simp only[z6]at h
  split at h
  ·rename_i e;subst e;cases h;exact List.mem_cons_self ..
  ·exact List.mem_cons_of_mem _ (q73 h)
theorem z4p {s' base:S} (hc:Compat s' s base) (c:z8 Γ w s'):∀(n:Nat) (ks:List Key),(∀k∈ks,Γ.ι k≠none)→∀p∈q2E n s.loc ks,s'.obj p.1=some p.2
 |0,_,_,p,hp=>by simp[q2E]at hp
 |n+1,ks,hk,p,hp=>by
  simp only[q2E,List.mem_flatMap]at hp
  obtain⟨k,h1,hp⟩:=hp
  split at hp
  ·rename_i o ho
   have hs:s'.obj k=some o:=hc.getObj c (hk k h1) (z4B ho)
   rcases List.mem_cons.1 hp with rfl|hp
   ·exact hs
   ·cases o with
    |box x=>
     have hks:∀k∈x.pks,Γ.ι k≠none:=by
      rcases c.obj k _ hs with⟨_,e,hv⟩|⟨b,cells,T,_,_,_,_,_,hr,_⟩
      ·subst hv;intro k hk;simp[V.pks]at hk
      ·exact z3G hr
     exact z4p hc c n x.pks hks p hp
    |_=>simp at hp
  ·simp at hp
theorem y5h {s' base:S} (hc:Compat s' s base) (c:z8 Γ w s') {xs:List V} (hx:∀x∈xs,∃v,q9 Γ x v) {k:Key} {o:O} (h:(base.see s xs).obj k=some o):s'.obj k=some o:=by
 unfold S.obj S.see c3 at h
 simp only[J8]at h
 cases hl:z6 (q2E 3 s.loc (V.q3r xs)) k with
 |some o'=>
  rw[hl]at h
  cases h
  refine z4p hc c 3 (V.q3r xs) (fun k hk=>?_) (k,o) (q73 hl)
  obtain⟨x,h1,h2⟩:=z6t hk
  obtain⟨v,hv⟩:=hx x h1
  exact y2E hv k h2
 |none=>
  rw[hl]at h
  exact hc.base k o h
theorem z41:∀{l:List V} {i:Nat} {x:V},q1t l=true→l[i]? =some x→∃τ c,x= .d τ c
 | [],i,x,_,h=>by simp at h
 |y::l,0,x,hl,h=>by
  simp only[q1t,Bool.and_eq_true]at hl
  simp at h;subst h
  cases y <;> simp at hl
  exact⟨_,_,rfl⟩
 |y::l,i+1,x,hl,h=>by
  simp only[q1t,Bool.and_eq_true]at hl
  exact z41 hl.2 (by simpa using h)
theorem y36 {s' base:S} (hc:Compat s' s base) (c:z8 Γ w s') {gl:Nat→Option (Ty × C)} {x:V} {v:Value} (hr:q9 Γ x v) (hd:∃τ cc,q0Y s x= .d τ cc):q9 (G.q36 w gl) (q0Y s x) v:=by
 obtain⟨τ,cc,hd⟩:=hd
 rw[hd]
 exact y2t c (fun k o hι ho=>hc.getObj c hι ho) gl hr hd
theorem q2b (hP:x4 X.P=true) {md:List (Nat × Nat)} {base:S} {dst:Nat} {o:Oper} {ρa:Operand→V} {K:V→List (Key × O)→List (Nat × Option Nat)→Prop} (h:iop X md base dst o ρa s K):
  ∃v lo tn,K v lo tn∧y0K X base o ρa s v lo tn:=by
 have viaPv:(pv X.P o.op ρa fun y=>K y [] [])→∃v lo tn,K v lo tn∧y0K X base o ρa s v lo tn:=by
  intro h
  obtain⟨v,hK,hd⟩:=y4E hP h
  exact⟨v,[],[],hK,fun Γ w a s' _ c _ _ hr=>hd Γ w a s' c hr⟩
 unfold iop at h
 split at h
 · -- load
  rename_i T x ho
  split at h
  ·split at h
   ·rename_i k q τ hx
    split at h
    ·rename_i y hobj
     unfold y2q at h
     split at h
     ·rename_i y0 t0 M e cc m e' hat ht
      obtain⟨hq,rfl,rfl,hk,hlo,hK⟩:=h
      refine⟨_,_,_,hK,fun Γ w a s' _ c hc _ hr=>?_⟩
      have hxr:=hr x (by rw[ho];simp[Op.operands])
      rw[hx]at hxr
      obtain⟨b,τ0,o0,hι,_⟩:=X9 hxr
      have hq2:q=q.dropLast++[q.getLastD 0]:=by
       rw[List.getLastD_eq_getLast?,List.getLast?_eq_some_getLast hq,Option.getD_some]
       exact(List.dropLast_concat_getLast hq).symm
      rw[hq2]at hxr
      obtain⟨u,r1,r2⟩:=y2N (T:=T) hP c hxr (hc.getObj c (by rw[hι];simp) hobj) hat ht hk hlo
      exact w6.val (by unfold execOp;simp[ho,r1]) (u5.same c r2)
     ·exact h.elim
    ·exact h.elim
   ·exact h.elim
  split at h
  ·rename_i k q τ hx
   split at h
   ·rename_i y hobj
    obtain⟨h1,h2,h3,hK⟩:=h
    refine⟨_,_,_,hK,fun Γ w a s' _ c hc _ hr=>?_⟩
    have hxr:=hr x (by rw[ho];simp[Op.operands])
    rw[hx]at hxr
    obtain⟨b,τ0,o0,hι,_⟩:=X9 hxr
    obtain⟨u,r1,r2⟩:=z1z (T:=T) hP c hxr (hc.getObj c (by rw[hι];simp) hobj) h1 h2 h3
    exact w6.val (by unfold execOp;simp[ho,r1]) (u5.same c r2)
   ·exact h.elim
  ·rename_i τ cc hx
   obtain⟨h2,h3,hK⟩:=h
   refine⟨_,_,_,hK,fun Γ w a s' _ c hc _ hr=>?_⟩
   have hxr:=hr x (by rw[ho];simp[Op.operands])
   rw[hx]at hxr
   obtain⟨u,r1,r2⟩:=y1e (T:=T) hP c hxr h2 h3
   exact w6.val (by unfold execOp;simp[ho,r1]) (u5.same c r2)
  ·exact h.elim
 ·rename_i T ho
  obtain⟨h1,hK⟩:=h
  exact⟨_,_,_,hK,fun Γ w a s' _ c _ hf _=>y3k c ho (hf.l _ _ (W7 _ _ _)) h1⟩
 ·rename_i T x ho
  split at h
  ·obtain⟨h1,h⟩:=h
   split at h
   ·rename_i cc hcc
    exact⟨_,_,_,h,fun Γ w a s' _ c _ hf hr=>y4J c ho (hr x (by rw[ho];simp[Op.operands])) h1 hcc⟩
   ·exact h.elim
  ·obtain⟨h1,h2,hK⟩:=h
   exact⟨_,_,_,hK,fun Γ w a s' _ c _ hf hr=>y5x c ho (hf.l _ _ (W7 _ _ _)) (hr x (by rw[ho];simp[Op.operands])) h1 h2⟩
 · -- buildSlice
  rename_i t len parts ho
  split at h
  ·rename_i eb e ht
   split at h
   ·obtain⟨h1,hK⟩:=h
    have hp0:parts=#[]:=by apply Array.eq_empty_of_size_eq_zero;simpa using h1
    subst hp0
    exact⟨_,_,_,hK,fun Γ w a s' _ c _ _ _=>z39 hP c ho ht⟩
   ·rename_i len
    obtain⟨h1,h2,h3,h4,h5,h⟩:=h
    split at h
    ·obtain⟨h6,h7,hK⟩:=h
     refine⟨_,_,_,hK,fun Γ w a s' _ c _ hf hr=>z38 hP c (hf.l _ _ (W7 _ _ _)) ho ht h1 (by omega) h2 h3 h4 h5 (by have:=congrArg List.length h5;simpa using this) (fun i x y hx hy=>?_) h6 h7⟩
     rw[List.getElem?_map,hx]at hy
     cases hy
     exact hr x.2 (by rw[ho];simp only[Op.operands];exact List.mem_toArray.2 (List.mem_map.2 ⟨x,List.mem_of_getElem? hx,rfl⟩))
    split at h
    ·rename_i cs hcs
     obtain⟨h6,hK⟩:=h
     obtain⟨l1,l2⟩:=q6Z hcs
     have hl:cs.length=len+1:=by rw[l1];have:=congrArg List.length h5;simpa using this
     have key:∀(Γ:G) (w:World) (a:Act) (s':S),Γ.gl=X.gl→z8 Γ w s'→(∀y∈o.op.operands,q9 Γ (ρa y) (a.eval y))→∀(i:Nat) (x:Nat × Operand) (cc:C),parts.toList[i]? =some x→cs[i]? =some cc→q9 Γ (.d e cc) (a.eval x.2):=by
      intro Γ w a s' _ c hr i x cc hx hcc
      have hxm:(parts.toList.map fun x=>ρa x.2)[i]? =some (ρa x.2):=by simp only[List.getElem?_map,hx];rfl
      obtain⟨t1,t2⟩:=h6 _ (List.mem_of_getElem? hxm)
      have hmem:x∈parts.toList:=List.mem_of_getElem? hx
      have hrx:=hr x.2 (by rw[ho];simp only[Op.operands];exact List.mem_toArray.2 (List.mem_map.2 ⟨x,hmem,rfl⟩))
      obtain⟨q1,q2⟩:=(y8 t2).1 hrx
      have:=q0P _ q1 (l2 i _ cc hxm hcc)
      rw[t1]at this q2
      exact Q0.2 ⟨this,q2⟩
     split at hK
     ·exact⟨_,_,_,hK,fun Γ w a s' hg c _ hf hr=>z36 hP c (hf.t _ _ (q2s _ _ _)) ho ht h1 (by omega) h2 h3 h4 h5 hl (key Γ w a s' hg c hr)⟩
     ·exact⟨_,_,_,hK,fun Γ w a s' hg c _ _ hr=>z5u hP c ho ht h1 (by omega) h2 h3 h4 h5 hl (key Γ w a s' hg c hr)⟩
    ·exact h.elim
  ·exact h.elim
 · -- build
  rename_i T parts ho
  obtain⟨h1,h2,h3,h4,hK⟩:=h
  refine⟨_,_,_,hK,fun Γ w a s' _ c _ _ hr=>?_⟩
  obtain⟨u,r1,r2⟩:=y3j (Γ:=Γ) (w:=w) (ev:=a.eval) hP h1 h2 h3 (fun p hp=>hr p.2 (by rw[ho];simp only[Op.operands];exact List.mem_toArray.2 (List.mem_map.2 ⟨p,hp,rfl⟩))) h4
  refine w6.val (v:=u) (w':=w) ?_ (u5.same c r2)
  unfold execOp
  simp only[ho,Sem.run_bind,r1,Result.andThen_ok,Sem.run_pure]
 · -- makeSlice
  rename_i t l cp ho
  split at h
  ·rename_i eb e ht
   obtain⟨h1,h2,h3,h4,h5,h6,h7,h8,hK⟩:=h
   refine⟨_,_,_,hK,fun Γ w a s' _ c _ hf hr=>?_⟩
   obtain⟨k1,e1⟩:=q91 h2 (hr l (by rw[ho];simp[Op.operands]))
   obtain⟨k2,e2⟩:=q91 h3 (hr cp (by rw[ho];simp[Op.operands]))
   exact z7B (L:=ρa l) (Cp:=ρa cp) (k1:=k1) (k2:=k2) (nl:=(ρa l).toInt.toNat) (nc:=(ρa cp).toInt.toNat) hP c ho ht h1 (hf.l _ _ (W7 _ _ _)) (by rw[e1,Int.toNat_of_nonneg h4]) (by rw[e2,Int.toNat_of_nonneg (by omega)]) (by omega) (by unfold maxLen;omega) h7 h8 (fun c h=>by split at h <;> cases h;rfl)
  ·exact h.elim
 · -- makeMap
  rename_i T r ho
  split at h
  ·rename_i kt et hT
   exact⟨_,_,_,h,fun Γ w a s' _ c _ hf _=>y0t c ho (hf.l _ _ (W7 _ _ _))⟩
  ·exact h.elim
 · -- lookup
  rename_i T x i ok ho
  split at h
  ·rename_i kt et k hT hx
   split at h
   ·rename_i kτ vτ es hobj
    obtain⟨rfl,h1,h2,h3,hK⟩:=h
    refine⟨_,_,_,hK,fun Γ w a s' _ c hc _ hr=>?_⟩
    have hxr:=hr x (by rw[ho];simp[Op.operands])
    rw[hx]at hxr
    obtain⟨b,hι,_⟩:=q7d hxr
    have hir:=hr i (by rw[ho];simp[Op.operands])
    have hd:ρa i= .d (ty X.P kt) (ρa i).toC:=by
     cases hi:ρa i <;> simp[hi,V.Q4]at h3
     subst h3;rfl
    rw[hd]at hir
    have:=y1Q hP c ho hT hxr hir (hc.getObj c (by rw[hι];simp) hobj) h1 h2
    exact this
   ·exact h.elim
  ·exact h.elim
 · -- calls
  rename_i cl ho
  obtain⟨callee,args,ts⟩:=cl
  split at h
  ·rename_i fo hfo
   simp only at hfo h
   subst hfo
   split at h
   ·rename_i f caps hf
    rcases h with⟨h1,h2,b,v,L,hB,D,hL,hK⟩|⟨rfl,v,E,hK⟩|⟨rfl,h1,v,hx,D,hv,hK⟩
    rotate_left
    ·refine⟨_,_,_,hK,fun Γ w a s' hgl c hc hfr hr=>?_⟩
     have hrf:=hr fo (by rw[ho];simp[Op.operands,Call.operands])
     rw[hf]at hrf
     obtain⟨cv,hfv,hcl,_⟩:=q99 hrf
     have hcv:cv=#[]:=by apply Array.eq_empty_of_size_eq_zero;simpa using hcl.symm
     subst hcv
     obtain⟨u,e1,e2⟩:=E Γ w (args.map a.eval) (by simp) fun i x u hx hu=>by
      simp only[List.getElem?_map,Array.getElem?_map]at hx hu
      cases hy:args[i]? with
      |none=>rw[hy]at hu;cases hu
      |some y=>
       have hy':args.toList[i]? =some y:=by simpa using hy
       rw[hy]at hu;rw[hy']at hx
       cases hu;cases hx
       exact hr y (by rw[ho];simp only[Op.operands,Call.operands];exact Array.mem_append_right _ (Array.mem_of_getElem? hy))
     refine w6.val (v:=u) (w':=w) ?_ (u5.same c e2)
     unfold execOp
     simp[ho,resolve,hfv,Deferred.ofValue,invoke,e1]
    ·refine⟨_,_,_,hK,fun Γ w a s' hgl c hc hfr hr=>?_⟩
     have hrf:=hr fo (by rw[ho];simp[Op.operands,Call.operands])
     rw[hf]at hrf
     refine y4F hgl c ho h1 hrf (by simp) (fun i x y hx' hy=>?_) hx D hv
     simp only[List.getElem?_map]at hx'
     have hx2:=hx'
     rw[hy]at hx'
     cases hx'
     refine y36 hc c (hr y (by rw[ho];simp only[Op.operands,Call.operands];exact Array.mem_append_right _ (Array.mem_toList_iff.1 (List.mem_of_getElem? hy)))) (z41 hx (i:=i) ?_)
     simp only[List.getElem?_map]
     exact hx2
    refine⟨_,_,_,hK,fun Γ w a s' hgl c hc hfr hr=>?_⟩
    have hrf:=hr fo (by rw[ho];simp[Op.operands,Call.operands])
    rw[hf]at hrf
    rw[q3M s s']at D
    have hbb:∀k o,b.obj k=some o→s'.obj k=some o:=by
     intro k ob hk
     rcases hB with rfl|rfl
     ·exact hc.base k ob hk
     ·refine y5h hc c (fun x hx=>?_) hk
      simp only[Q1,List.mem_append,List.mem_map]at hx
      rcases hx with⟨y,hy,rfl⟩|hx
      ·exact⟨_,hr y (by rw[ho];simp only[Op.operands,Call.operands];exact Array.mem_append_right _ (Array.mem_toList_iff.1 hy))⟩
      ·obtain⟨cv,_,q1,q2⟩:=q99 hrf
       obtain⟨i,hi⟩:=List.mem_iff_getElem?.1 hx
       have hlt:i<cv.toList.length:=by rw[←q1];exact(List.getElem?_eq_some_iff.1 hi).1
       exact⟨_,q2 i x _ hi (List.getElem?_eq_getElem hlt)⟩
    have:=z9d (tip:=false) (A:=b.up) (d:=dst) rfl hgl c ho h1 h2 hrf (fun y hy=>hr y (by rw[ho];simp only[Op.operands,Call.operands];exact Array.mem_append_right _ (Array.mem_toList_iff.1 hy))) (by rw[q3s];rfl) D
     (fun k o hk=>by
      simp only[S.up]at hk ⊢
      cases hb:b.obj k with
      |none=>simp[hb]at hk
      |some ob=>rw[hbb k ob hb];rw[hb]at hk;exact hk)
     (fun k o hk=>(z2s hL hk).elim) (fun j o hj=>hfr.l _ _ (z6x dst hL hj)) (fun m x hm=>hfr.t _ x (by rw[z8f];exact hm))
    have e:S.back s' false (Q1 (args.toList.map ρa) caps) dst v L=s'.add (dnL dst L) (dnT dst (v.tkR 2000)):=by
     simp[S.back,S.add,q3s,q2x]
    rw[←e]
    exact this
   ·exact h.elim
  ·rename_i hb
   simp only at hb h
   subst hb
   split at h
   ·rename_i x y t t' hargs hts
    have hargs':args=#[x,y]:=by cases args;simpa using hargs
    have hts':ts=#[t,t']:=by cases ts;simpa using hts
    subst hargs';subst hts'
    obtain⟨h1,h⟩:=h
    split at h
    ·rename_i eb e eb0 e0 ht hx
     obtain⟨ys,hK,hs⟩:=q4H hP h
     split at hK
     ·obtain⟨hne,hK⟩:=hK
      refine⟨_,_,_,hK,fun Γ w a s' _ c hc hf hr=>?_⟩
      have hyr:=hr y (by rw[ho];simp[Op.operands,Call.operands])
      have hxr:=hr x (by rw[ho];simp[Op.operands,Call.operands])
      obtain⟨Y',hyr',hs'⟩:=q3g hc c hyr hs
      exact q8Y hP c ho ht h1 (hf.l _ _ (W7 _ _ _)) hxr (.inr ⟨_,_,hx⟩) hyr' hs' hne
     ·refine⟨_,_,_,hK,fun Γ w a s' _ c hc hf hr=>?_⟩
      have hyr:=hr y (by rw[ho];simp[Op.operands,Call.operands])
      have hxr:=hr x (by rw[ho];simp[Op.operands,Call.operands])
      obtain⟨Y',hyr',hs'⟩:=q3g hc c hyr hs
      exact q6J hP c ho ht h1 (hf.t dst _ (q2s _ _ _)) hxr (.inr ⟨_,_,hx⟩) hyr' hs'
    ·rename_i eb e ht hx
     obtain⟨ys,hK,hs⟩:=q4H hP h
     split at hK
     ·obtain⟨hne,hK⟩:=hK
      refine⟨_,_,_,hK,fun Γ w a s' _ c hc hf hr=>?_⟩
      have hyr:=hr y (by rw[ho];simp[Op.operands,Call.operands])
      have hxr:=hr x (by rw[ho];simp[Op.operands,Call.operands])
      obtain⟨Y',hyr',hs'⟩:=q3g hc c hyr hs
      exact q8Y hP c ho ht h1 (hf.l _ _ (W7 _ _ _)) hxr (.inl hx) hyr' hs' hne
     ·refine⟨_,_,_,hK,fun Γ w a s' _ c hc hf hr=>?_⟩
      have hyr:=hr y (by rw[ho];simp[Op.operands,Call.operands])
      have hxr:=hr x (by rw[ho];simp[Op.operands,Call.operands])
      obtain⟨Y',hyr',hs'⟩:=q3g hc c hyr hs
      exact q6J hP c ho ht h1 (hf.t dst _ (q2s _ _ _)) hxr (.inl hx) hyr' hs'
    ·exact h.elim
   ·exact h.elim
  ·rename_i hb
   simp only at hb h
   subst hb
   split at h
   ·rename_i x T hargs hts
    have hargs':args=#[x]:=by cases args;simpa using hargs
    have hts':ts=#[T]:=by cases ts;simpa using hts
    subst hargs';subst hts'
    split at h
    ·rename_i k hx
     split at h
     ·rename_i pr kτ vτ es hT hobj
      obtain⟨h1,hK⟩:=h
      refine⟨_,_,_,hK,fun Γ w a s' _ c hc _ hr=>?_⟩
      have hxr:=hr x (by rw[ho];simp[Op.operands,Call.operands])
      rw[hx]at hxr
      obtain⟨b,hι,_⟩:=q7d hxr
      exact y1R c ho (kt:=pr.1) (et:=pr.2) hT hxr (hc.getObj c (by rw[hι];simp) hobj) h1
     ·exact h.elim
    ·exact viaPv h
   ·exact viaPv h
  ·exact viaPv h
 · -- a string of bytes
  rename_i src dst' x ho
  split at h
  ·rename_i ys hys
   refine⟨_,_,_,h,fun Γ w a s' _ c hc _ hr=>?_⟩
   have hxr:=hr x (by rw[ho];simp[Op.operands])
   obtain⟨Y',hxr',hys'⟩:=z52 hc c hxr hys
   exact y3i hP c ho hys' hxr'
  ·exact viaPv h
 ·exact viaPv h
end
end Go.E
namespace Go.E
open Go
def C.isNil:C→Bool
 | .nil=>true
 |_=>false
def q4T:Operand→Bool
 | .const .nilIface=>true
 |_=>false
def z7P (P:Program) (src dst:TypeId) (x:V):Option (List C):=
 match ty P src,ty P dst with
 | .str,.slice eb e=>if e.z68=true∧eb=1 then(match x with
  | .d .str c=>some (c.toStr.map fun b=>C.int b.toNat)
  |_=>none)else none
 |_,_=>none
def z3d (P:Program) (T:TypeId):Bool:=
 match ty P T with
 | .iface| .opq _=>false
 |_=>true
noncomputable def fop (X:Cx) (o:Oper) (ρ:Operand→V) (K:V→Prop):Prop:=
 match o.op with
 | .convert src dst x=>(match z7P X.P src dst (ρ x)with
  |some ys=>K (.d (.slice 1 (.int .u8)) (.slice ys))
  |none=>False)
 | .makeInterface T _=>z3d X.P T=true∧K (.d .iface (.bool true))
 | .binOp op T x y _=>q4T y=true∧ty X.P T= .iface∧(match op,ρ x with
  | .eql,.d .iface c=>K (.d .bool (.bool c.isNil))
  | .neq,.d .iface c=>K (.d .bool (.bool (!c.isNil)))
  |_,_=>False)
 |_=>False
noncomputable def sl3 (X:Cx) (md:List (Nat × Nat)) (dst:Nat) (o:Oper) (ρ:Operand→V) (s:S) (K:V→S→Prop):Prop:=
 match o.op with
 | .slice T x lo hi mx=>r9 md dst=4∧s.known dst=false∧hi.isSome=true∧mx.isSome=true∧(match ty X.P T with
  | .slice eb e=>(match(ρ x).q1M with
   |some (eb',e',cs)=>eb'=eb∧e'=e∧(match k9 (lo.map ρ) 0,k9 (hi.map ρ) 0,k9 (mx.map ρ) 0 with
    |some l,some h,some m=>l=0∧0≤h∧h=m∧m≤cs.length∧K (.sl eb e (cs.take h.toNat) dst) {s with tk:=(dst,some (cs.take h.toNat).length)::s.tk}
    |_,_,_=>False)
   |none=>False)
  |_=>False)
 |_=>False
section
variable {X:Cx} {Γ:G} {w:World} {s:S}
theorem z74 {P:Program} {f:Nat} {T:TypeId} (h:tyF P (f+1) T= .iface):∃ms,P.underlying T=some (.interface ms):=by
 unfold tyF at h
 split at h
 ·cases hu:P.underlying T with
  |none=>simp[hu]at h
  |some d=>cases d <;> simp[hu]at h ⊢
 ·cases h
theorem z9t {P:Program} {T:TypeId} (h:z3d P T=true):∃d,P.underlying T=some d∧∀ms,d≠.interface ms:=by
 unfold z3d ty tyF at h
 split at h
 ·cases h
 ·cases h
 ·rename_i h1 h2
  split at h1
  ·cases hu:P.underlying T with
   |none=>simp[hu]at h2
   |some d=>exact⟨d,rfl,fun ms e=>by subst e;simp[hu]at h1⟩
  ·rename_i hn
   simp[hn]at h2
theorem z2i {c:C} {v:Value} (h:q9 Γ (.d .iface c) v):(c= .nil∧v= .nilIface)∨(c= .bool true∧∃t u,v= .iface t u):=by
 obtain⟨h1,h2⟩:=Q0.1 h
 rw[x6 (by simpa[Ty.isAgg]using h2)]at h1
 simp only[z7]at h1
 rcases h1 with⟨rfl,h1⟩|⟨rfl,t,u,h1⟩
 ·simp at h1;exact .inl ⟨rfl,h1⟩
 ·simp at h1;exact .inr ⟨rfl,t,u,h1⟩
theorem z18 {P:Program} {T:TypeId} {ms:Array (String × TypeId)} (hu:P.underlying T=some (.interface ms)) {v:Value} (hv:v= .nilIface∨∃t u,v= .iface t u) (w:World):
  (Op.equal T v .nilIface).run P w= .ok (match v with| .nilIface=>true|_=>false) w:=by
 unfold Op.equal Op.maxDepth
 rw[show(10000:Nat)=9999+1 from rfl,Op.equalIn,Sem.run_bind,run_underlying hu]
 rcases hv with rfl|⟨t,u,rfl⟩ <;> rfl
theorem q4k {P:Program} {T:TypeId} {ms:Array (String × TypeId)} (hu:P.underlying T=some (.interface ms)) {x y:Operand} (hy:q4T y=true) {v:Value} (hv:v= .nilIface∨∃t u,v= .iface t u) (w:World):
  ((do eqGuard .eql T x y v .nilIface;binOp .eql T v .nilIface):Sem Value).run P w= .ok (.bool (match v with| .nilIface=>true|_=>false)) w∧
  ((do eqGuard .neq T x y v .nilIface;binOp .neq T v .nilIface):Sem Value).run P w= .ok (.bool (!(match v with| .nilIface=>true|_=>false))) w:=by
 obtain⟨z,rfl⟩:∃z,y= .const z:=by
  cases y with
  |const z=>exact⟨z,rfl⟩
  |_=>simp[q4T]at hy
 have he:=z18 hu hv w
 rcases hv with rfl|⟨t,u,rfl⟩
 ·constructor
  ·rw[eqGuard_nil_constR]
   show(do pure (.bool (←Op.equal T .nilIface .nilIface)):Sem Value).run P w=_
   rw[Sem.run_bind,he];rfl
  ·rw[eqGuard_nil_constR]
   show(do pure (.bool (!(←Op.equal T .nilIface .nilIface))):Sem Value).run P w=_
   rw[Sem.run_bind,he];rfl
 ·constructor
  ·show(do pure (.bool (←Op.equal T (.iface t u) .nilIface)):Sem Value).run P w=_
   rw[Sem.run_bind,he];rfl
  ·show(do pure (.bool (!(←Op.equal T (.iface t u) .nilIface))):Sem Value).run P w=_
   rw[Sem.run_bind,he];rfl
theorem y4H {P:Program} (hP:x4 P=true) (c:z8 Γ w s) {o:Oper} {a:Act} {src dst:TypeId} {x:Operand} (ho:o.op= .convert src dst x) {Y:V} {ys:List C} (h:z7P P src dst Y=some ys)
  (hr:q9 Γ Y (a.eval x)):w6 P o a w (u5 Γ w s (.d (.slice 1 (.int .u8)) (.slice ys))):=by
 unfold z7P at h
 split at h
 ·rename_i eb e hs ht
  obtain⟨E,hu,hE,_,_⟩:=q0l hP ht
  have hs':=q4F hs
  split at h
  ·rename_i hc0
   obtain⟨h0,rfl⟩:=hc0
   obtain rfl:=Ty.z3O h0
   have hEu:P.underlying E=some (.int .u8):=z4m hE.symm
   split at h
   ·rename_i cc
    cases h
    obtain⟨hv,_,hl⟩:=F2 hr
    have run:=run_bytes_of_string (P:=P) w src dst E ⟨cc.toStr.toArray⟩ hs' hu hEu
    have hsz:(⟨cc.toStr.toArray⟩:ByteArray).size=cc.toStr.length:=by simp[ByteArray.size]
    rw[hsz]at run
    have hge:=grownCap_ge w cc.toStr.length 0 E
    have hcm:=grownCap_le_maxLen w cc.toStr.length 0 E (by unfold maxLen;omega)
    generalize grownCap w cc.toStr.length 0 E=cap at run hge hcm
    have hrow:(bytesRow ⟨cc.toStr.toArray⟩ cap).toList=cc.toStr.map (fun b=>Value.int .u8 b.toNat)++(List.replicate (cap-cc.toStr.length) (Value.int .u8 0)):=by
     simp[bytesRow,hsz]
    have hext:Ext w (w.drew.alloc (.cells (bytesRow ⟨cc.toStr.toArray⟩ cap) E ((bytesRow ⟨cc.toStr.toArray⟩ cap).size,(bytesRow ⟨cc.toStr.toArray⟩ cap).size+1))):=(Ext.drew w).trans (Ext.alloc _ _)
    have hnew:=heap_alloc_new w.drew (.cells (bytesRow ⟨cc.toStr.toArray⟩ cap) E ((bytesRow ⟨cc.toStr.toArray⟩ cap).size,(bytesRow ⟨cc.toStr.toArray⟩ cap).size+1))
    obtain⟨c1,p1,g1⟩:=c.q0E hext hnew hrow
    refine w6.val (v:=.slice (some ⟨w.heap.size,0,none⟩) cc.toStr.length cap) (w':=w.drew.alloc (.cells (bytesRow ⟨cc.toStr.toArray⟩ cap) E ((bytesRow ⟨cc.toStr.toArray⟩ cap).size,(bytesRow ⟨cc.toStr.toArray⟩ cap).size+1))) ?_ ⟨_,g1,p1,c1,?_⟩
    ·unfold execOp
     simp only[ho,hv,Sem.run_bind,run,Result.andThen_ok,Sem.run_pure]
    ·refine Q0.2 ⟨v8 (by simp) hge hcm (by omega) (.inr ⟨w.heap.size,0,_,rfl,w9 _ _ _,by simp[Ty.size],fun i c' hi=>?_⟩),rfl⟩
     simp only[List.getElem?_map]at hi
     cases hb:cc.toStr[i]? with
     |none=>rw[hb]at hi;cases hi
     |some b=>
      rw[hb]at hi
      cases hi
      have:chunk (cc.toStr.map (fun b=>Value.int .u8 b.toNat)) (0+i*(Ty.int IntKind.u8).size) (Ty.int IntKind.u8).size=[.int .u8 b.toNat]:=by
       apply List.ext_getElem?
       intro j
       rw[w8]
       by_cases hj:j<1
       ·have:j=0:=by omega
        subst this
        simp[Ty.size,hb]
       ·simp[Ty.size,hj]
      rw[this]
      simp only[z7]
      refine⟨_,rfl,rfl,?_,?_⟩
      ·have:IntKind.u8.min=0:=by decide
       omega
      ·have:IntKind.u8.max=255:=by decide
       have:=b.toNat_lt
       omega
   ·cases h
  ·cases h
 ·cases h
theorem q9M (hP:x4 X.P=true) {o:Oper} {ρ:Operand→V} {K:V→Prop} (h:fop X o ρ K):
  ∃v,K v∧∀(Γ:G) (w:World) (a:Act) (s:S),z8 Γ w s→(∀y∈o.op.operands,q9 Γ (ρ y) (a.eval y))→w6 X.P o a w (u5 Γ w s v):=by
 unfold fop at h
 split at h
 ·rename_i src dst x ho
  split at h
  ·rename_i ys hys
   exact⟨_,h,fun Γ w a s c hr=>y4H hP c ho hys (hr x (by rw[ho];simp[Op.operands]))⟩
  ·exact h.elim
 ·rename_i T x ho
  obtain⟨h1,hK⟩:=h
  obtain⟨d,hd,hni⟩:=z9t h1
  refine⟨_,hK,fun Γ w a s c hr=>w6.val (v:=.iface T (a.eval x)) (w':=w) ?_ (u5.same c (Q0.2 ⟨?_,rfl⟩))⟩
  ·unfold execOp
   simp only[ho,Sem.run_bind,Instr.makeInterface,run_underlying hd]
   cases d <;> first
    |exact absurd rfl (hni _)
    |simp[Sem.run_pure,Result.andThen]
  ·simp only[Value.cells,z7]
   exact .inr ⟨trivial,_,_,rfl⟩
 ·rename_i op T x y yT ho
  obtain⟨hy,hT,h⟩:=h
  obtain⟨ms,hu⟩:=z74 (f:=11) hT
  have hyv:∀a:Act,a.eval y= .nilIface:=fun a=>by
   cases y with
   |const z=>cases z <;> simp[q4T]at hy;rfl
   |_=>simp[q4T]at hy
  split at h
  ·rename_i cc hx
   refine⟨_,h,fun Γ w a s c hr=>?_⟩
   have hxr:=hr x (by rw[ho];simp[Op.operands])
   rw[hx]at hxr
   rcases z2i hxr with⟨rfl,hv⟩|⟨rfl,t,u,hv⟩
   ·refine w6.val (v:=.bool true) (w':=w) ?_ (u5.same c (w5))
    unfold execOp
    simp only[ho,hyv,hv]
    have:=(q4k (P:=X.P) hu (x:=x) hy (v:=.nilIface) (.inl rfl) w).1
    simp only[Sem.run_bind]at this ⊢
    rw[this]
    rfl
   ·refine w6.val (v:=.bool false) (w':=w) ?_ (u5.same c (w5))
    unfold execOp
    simp only[ho,hyv,hv]
    have:=(q4k (P:=X.P) hu (x:=x) hy (v:=.iface t u) (.inr ⟨_,_,rfl⟩) w).1
    simp only[Sem.run_bind]at this ⊢
    rw[this]
    rfl
  ·rename_i cc hx
   refine⟨_,h,fun Γ w a s c hr=>?_⟩
   have hxr:=hr x (by rw[ho];simp[Op.operands])
   rw[hx]at hxr
   rcases z2i hxr with⟨rfl,hv⟩|⟨rfl,t,u,hv⟩
   ·refine w6.val (v:=.bool false) (w':=w) ?_ (u5.same c (w5))
    unfold execOp
    simp only[ho,hyv,hv]
    have:=(q4k (P:=X.P) hu (x:=x) hy (v:=.nilIface) (.inl rfl) w).2
    simp only[Sem.run_bind]at this ⊢
    rw[this]
    rfl
   ·refine w6.val (v:=.bool true) (w':=w) ?_ (u5.same c (w5))
    unfold execOp
    simp only[ho,hyv,hv]
    have:=(q4k (P:=X.P) hu (x:=x) hy (v:=.iface t u) (.inr ⟨_,_,rfl⟩) w).2
    simp only[Sem.run_bind]at this ⊢
    rw[this]
    rfl
  ·exact h.elim
 ·exact h.elim
theorem y01 (hP:x4 X.P=true) {md:List (Nat × Nat)} {dst:Nat} {o:Oper} {ρa:Operand→V} {K:V→S→Prop} (h:sl3 X md dst o ρa s K):
  ∃v s1,K v s1∧s1.A=s.A∧s1.env=s.env∧∀(Γ:G) (w:World) (a:Act),z8 Γ w s→(∀y∈o.op.operands,q9 Γ (ρa y) (a.eval y))→w6 X.P o a w (u5 Γ w s1 v):=by
 unfold sl3 at h
 split at h
 ·rename_i T x lo hi mx ho
  obtain⟨_,hn,hhs,hms,h⟩:=h
  split at h
  ·rename_i eb e ht
   obtain⟨E,hu,rfl,_,hE⟩:=q0l hP ht
   split at h
   ·rename_i eb' e' cs hx
    obtain⟨rfl,rfl,h⟩:=h
    split at h
    ·rename_i l hh m hl hhi hm
     obtain⟨rfl,h0,rfl,h2,hK⟩:=h
     refine⟨_,_,hK,rfl,rfl,fun Γ w a c hr=>?_⟩
     rw[ho]at hr
     have r1:=hr x (by simp[Op.operands])
     have r2:∀y,lo=some y→q9 Γ (ρa y) (a.eval y):=fun y e=>hr y (by subst e;simp[Op.operands])
     have r3:∀y,hi=some y→q9 Γ (ρa y) (a.eval y):=fun y e=>hr y (by subst e;simp[Op.operands])
     have r4:∀y,mx=some y→q9 Γ (ρa y) (a.eval y):=fun y e=>hr y (by subst e;simp[Op.operands])
     obtain⟨ad,n,cap,hv,hcs,hnc,hcap,hb,hrep⟩:=q0N r1 hx
     have hhn:hh.toNat≤n:=by omega
     have b1:lo.map a.eval=none∧(0:Nat)=0∨∃k,lo.map a.eval=some (.int k ((0:Nat):Int)):=by
      rcases q1J hl r2 with⟨rfl,_⟩|⟨k,y,rfl,hy⟩
      ·exact .inl ⟨rfl,rfl⟩
      ·exact .inr ⟨k,hy⟩
     have b2:∃k,hi.map a.eval=some (.int k (hh.toNat:Int)):=by
      rcases q1J hhi r3 with⟨rfl,_⟩|⟨k,y,rfl,hy⟩
      ·cases hhs
      ·exact⟨k,by rw[hy,Int.toNat_of_nonneg h0]⟩
     have b3:∃k,mx.map a.eval=some (.int k (hh.toNat:Int)):=by
      rcases q1J hm r4 with⟨rfl,_⟩|⟨k,y,rfl,hy⟩
      ·cases hms
      ·exact⟨k,by rw[hy,Int.toNat_of_nonneg h0]⟩
     obtain⟨km,b3⟩:=b3
     obtain⟨c1,p1,g1⟩:=c.Z0 hn (x:=none) (L:=(cs.take hh.toNat).length) (fun _ _ _ h=>by cases h)
     have hlen:(cs.take hh.toNat).length=hh.toNat:=by simp;omega
     have hcut:=z1l hrep (Nat.zero_le hh.toNat) hhn
     have hrep':z7 Γ.H (.slice eb' (tyF X.P 11 E)) [.slice (if hh.toNat=0 then ad else ad.map (·.add (0*(tyF X.P 11 E).size))) hh.toNat hh.toNat] (.slice (cs.take hh.toNat)):=by
      obtain⟨a',n',cap',e1,_,e2,e3,e4,e5,e6⟩:=X8 hrep
      simp at e1
      obtain⟨rfl,rfl,rfl⟩:=e1
      simp only[C.elems]at e2 e6
      refine v8 hlen (Nat.le_refl _) (by omega) (Nat.le_trans (Nat.mul_le_mul_right _ hhn) hb) ?_
      by_cases hz:hh.toNat=0
      ·exact .inl hz
      ·rcases e6 with e6|⟨b,off,ll,rfl,hb',hs',hc⟩
       ·omega
       ·refine .inr ⟨b,off,ll,?_,hb',?_,fun i c' hi=>?_⟩
        ·rw[if_neg hz]
         simp[Addr.add]
        ·have:hh.toNat*(tyF X.P 11 E).size≤n*(tyF X.P 11 E).size:=Nat.mul_le_mul_right _ hhn
         omega
        ·rw[List.getElem?_take]at hi
         split at hi
         ·exact hc _ _ hi
         ·cases hi
     refine w6.val (v:=.slice (if hh.toNat=0 then ad else ad.map (·.add (0*(tyF X.P 11 E).size))) hh.toNat hh.toNat) (w':=w) ?_ ⟨_,g1,p1,c1,(w4 rfl rfl).2 ⟨?_,rfl⟩⟩
     ·unfold execOp
      simp only[ho,hv,Instr.sliceAt,Sem.run_bind,run_underlying hu,Result.andThen_ok,Instr.slice,b3]
      rw[q5L (n:=n) (l:=0) (h:=hh.toNat) (m:=hh.toNat) b1 b2 (Nat.zero_le _) (Nat.le_refl _) (by omega)]
      simp[J7 (f:=11) hP (w:=w) hE]
     ·simp only[q8]
      refine⟨_,hh.toNat,hh.toNat,rfl,hrep'.mono p1.1,none,_,by simp[G.Z0,r8],Nat.le_refl _,fun _=>rfl⟩
    ·exact h.elim
   ·exact h.elim
  ·exact h.elim
 ·exact h.elim
end
end Go.E
namespace Go.E
open Go
def q9K {α:Type}:List (Key × α)→Key→Bool
 | [],_=>false
 |(j,_)::l,k=>decide (j=k)||q9K l k
def z2g {α:Type}:List (Key × α)→Key→α→List (Key × α)
 | [],_,_=>[]
 |(j,x)::l,k,y=>if j=k then(j,y)::l else(j,x)::z2g l k y
def z6q {α:Type} (l:List (Key × α)) (k:Key) (y:α):List (Key × α):=bif q9K l k then z2g l k y else(k,y)::l
def q9J {α:Type}:List (Nat × α)→Nat→Bool
 | [],_=>false
 |(j,_)::l,k=>decide (j=k)||q9J l k
def q6t {α:Type}:List (Nat × α)→Nat→α→List (Nat × α)
 | [],_,_=>[]
 |(j,x)::l,k,y=>if j=k then(j,y)::l else(j,x)::q6t l k y
def z1q {α:Type} (l:List (Nat × α)) (k:Nat) (y:α):List (Nat × α):=bif q9J l k then q6t l k y else(k,y)::l
theorem z2z {α:Type}:∀(l:List (Key × α)) (k:Key) (y:α) (j:Key),q9K l k=true→z6 (z2g l k y) j=if k=j then some y else z6 l j
 | [],_,_,_,h=>by simp[q9K]at h
 |(i,x)::l,k,y,j,h=>by
  simp only[z2g]
  by_cases e:i=k
  ·subst e;simp only[if_true,z6];by_cases e2:i=j <;> simp[e2]
  ·rw[if_neg e]
   simp only[z6]
   have h':q9K l k=true:=by simpa[q9K,e]using h
   rw[z2z l k y j h']
   by_cases e2:i=j
   ·subst e2;simp[fun h:k=i=>e h.symm];intro h;exact absurd h.symm e
   ·simp[e2]
theorem y1d {α:Type} (l:List (Key × α)) (k:Key) (y:α) (j:Key):z6 (z6q l k y) j=if k=j then some y else z6 l j:=by
 unfold z6q
 cases h:q9K l k with
 |true=>exact z2z l k y j h
 |false=>rfl
theorem z4x {α:Type}:∀(l:List (Nat × α)) (k:Nat) (y:α) (j:Nat),q9J l k=true→look (q6t l k y) j=if k=j then some y else look l j
 | [],_,_,_,h=>by simp[q9J]at h
 |(i,x)::l,k,y,j,h=>by
  simp only[q6t]
  by_cases e:i=k
  ·subst e;simp only[if_true,look];by_cases e2:i=j <;> simp[e2]
  ·rw[if_neg e]
   simp only[look]
   have h':q9J l k=true:=by simpa[q9J,e]using h
   rw[z4x l k y j h']
   by_cases e2:i=j
   ·subst e2;simp;intro h;exact absurd h.symm e
   ·simp[e2]
theorem q5Y {α:Type} (l:List (Nat × α)) (k:Nat) (y:α) (j:Nat):look (z1q l k y) j=if k=j then some y else look l j:=by
 unfold z1q
 cases h:q9J l k with
 |true=>exact z4x l k y j h
 |false=>rfl
def S.put (s:S) (k:Key) (o:O):S:={s with loc:=z6q s.loc k o}
def S.tok (s:S) (t:Nat) (L:Option Nat):S:={s with tk:=z1q s.tk t L}
def U6:List (Nat × List Nat)→S→S
 | [],s=>s
 |(t,_)::σ,s=>U6 σ (s.tok t none)
theorem b8 (s:S) (k j:Key) (o:O):(s.put k o).obj j=if k=j then some o else s.obj j:=by
 simp only[S.put,S.obj,c3,y1d]
 by_cases h:k=j
 ·simp only[h,if_true]
 ·simp only[if_neg h]
theorem z1A (s:S) (t u:Nat) (L:Option Nat):(s.tok t L).live u=if t=u then L else s.live u:=by
 simp only[S.tok,S.live,H7,q5Y]
 by_cases h:t=u
 ·subst h;simp only[if_true];cases L <;> rfl
 ·simp[h]
theorem q6F (s:S) (t u:Nat) (L:Option Nat):(s.tok t L).known u=(decide (t=u)||s.known u):=by
 simp only[S.tok,S.known,q5Y]
 by_cases h:t=u
 ·subst h;simp
 ·simp[h]
theorem z6H:∀(σ:List (Nat × List Nat)) (s:S) (k:Key),(U6 σ s).obj k=s.obj k
 | [],_,_=>rfl
 |(t,_)::σ,s,k=>by simp only[U6,z6H σ];rfl
theorem z4E:∀(σ:List (Nat × List Nat)) (s:S) (u:Nat),(U6 σ s).live u=match look σ u with|some _=>none|none=>s.live u
 | [],_,_=>rfl
 |(t,p)::σ,s,u=>by
  simp only[U6,z4E σ,z1A,look]
  by_cases h:t=u
  ·subst h;simp;cases look σ t <;> rfl
  ·simp[h]
theorem q77:∀(σ:List (Nat × List Nat)) (s:S) (u:Nat),s.known u=true→(U6 σ s).known u=true
 | [],_,_,h=>h
 |(t,p)::σ,s,u,h=>by
  simp only[U6]
  exact q77 σ _ u (by rw[q6F,h];simp)
theorem z0Z:∀(σ:List (Nat × List Nat)) (s:S) (u:Nat),look σ u≠none→(U6 σ s).known u=true
 | [],_,_,h=>by simp[look]at h
 |(t,p)::σ,s,u,h=>by
  simp only[U6]
  by_cases e:t=u
  ·subst e;exact q77 σ _ t (by rw[q6F];simp)
  ·exact z0Z σ _ u (by simpa[look,e]using h)
def q2z (d:Nat):List (Key × O)→S→S
 | [],s=>s
 |(k,o)::L,s=>(q2z d L s).put (dn d k) (o.ren (dn d))
def q3q (d:Nat):List (Nat × Option Nat)→S→S
 | [],s=>s
 |(m,x)::l,s=>(q3q d l s).tok (rk d m) x
def q20:List Nat→S→S
 | [],s=>s
 |t::l,s=>(q20 l s).tok t none
theorem z6F (d:Nat):∀(L:List (Key × O)) (s:S) (k:Key),(q2z d L s).obj k=match z6 (dnL d L) k with|some o=>some o|none=>s.obj k
 | [],_,_=>rfl
 |(j,o)::L,s,k=>by
  simp only[q2z,b8,dnL,z6,z6F d L s k]
  split <;> rfl
theorem z8F (d:Nat):∀(L:List (Key × O)) (s:S),(q2z d L s).tk=s.tk
 | [],_=>rfl
 |(j,o)::L,s=>by simp only[q2z,S.put,z8F d L s]
theorem z4y (d:Nat):∀(l:List (Nat × Option Nat)) (s:S) (t:Nat),look (q3q d l s).tk t=match look (dnT d l) t with|some x=>some x|none=>look s.tk t
 | [],_,_=>rfl
 |(m,x)::l,s,t=>by
  simp only[q3q,S.tok,q5Y,dnT,look,z4y d l s t]
  split <;> rfl
theorem z1x (d:Nat):∀(l:List (Nat × Option Nat)) (s:S),(q3q d l s).loc=s.loc∧(q3q d l s).A=s.A
 | [],_=>⟨rfl,rfl⟩
 |(m,x)::l,s=>by simp only[q3q,S.tok];exact z1x d l s
theorem z4z:∀(l:List Nat) (s:S) (t:Nat),look (q20 l s).tk t=match look (q2x l) t with|some x=>some x|none=>look s.tk t
 | [],_,_=>rfl
 |m::l,s,t=>by
  simp only[q20,S.tok,q5Y,q2x,look,z4z l s t]
  split <;> rfl
theorem z1y:∀(l:List Nat) (s:S),(q20 l s).loc=s.loc∧(q20 l s).A=s.A
 | [],_=>⟨rfl,rfl⟩
 |m::l,s=>by simp only[q20,S.tok];exact z1y l s
def S.ret (s:S) (tip:Bool) (ys:List V) (d:Nat) (v:V) (L:List (Key × O)):S:=q3q d (v.tkR 2000) (q20 (j7 tip s ys) (q2z d L s))
theorem z8K (s:S) (tip:Bool) (ys:List V) (d:Nat) (v:V) (L:List (Key × O)) (k:Key):(s.ret tip ys d v L).obj k=(s.back tip ys d v L).obj k:=by
 have h1:=z1x d (v.tkR 2000) (q20 (j7 tip s ys) (q2z d L s))
 have h2:=z1y (j7 tip s ys) (q2z d L s)
 have h3:=z6F d L s k
 unfold S.obj at h3 ⊢
 simp only[S.ret,h1.1,h1.2,h2.1,h2.2,h3]
 unfold c3 S.back
 simp only[J8]
 cases z6 (dnL d L) k <;> rfl
theorem y04 (s:S) (tip:Bool) (ys:List V) (d:Nat) (v:V) (L:List (Key × O)) (t:Nat):look (s.ret tip ys d v L).tk t=look (s.back tip ys d v L).tk t:=by
 simp only[S.ret,z4y,z4z,z8F,S.back,q0V]
 cases look (dnT d (v.tkR 2000)) t <;> cases look (q2x (j7 tip s ys)) t <;> rfl
def gOk (s:S) (d:Nat):List (Key × O)→Prop
 | []=>True
 |(.g k,_)::L=>(s.obj k).isSome=true∧gOk s d L
 |(.l j,_)::L=>s.obj (.l (rk d j))=none∧gOk s d L
def tOk (s:S) (d:Nat):List (Nat × Option Nat)→Prop
 | []=>True
 |(m,_)::l=>s.known (rk d m)=false∧tOk s d l
theorem y0f {s:S} {d:Nat}:∀{L:List (Key × O)} {k:Key} {o:O},gOk s d L→z6 L (.g k)=some o→s.obj k≠none
 | [],_,_,_,h=>by simp[z6]at h
 |(.g j,o')::L,k,o,hg,h=>by
  simp only[z6]at h
  split at h
  ·rename_i e;cases e;have:=hg.1;intro h';rw[h']at this;cases this
  ·exact y0f hg.2 h
 |(.l j,o')::L,k,o,hg,h=>by simp[z6]at h;exact y0f hg.2 h
theorem y0e {s:S} {d:Nat}:∀{L:List (Key × O)} {j:Nat} {o:O},gOk s d L→z6 L (.l j)=some o→s.obj (.l (rk d j))=none
 | [],_,_,_,h=>by simp[z6]at h
 |(.l i,o')::L,j,o,hg,h=>by
  simp only[z6]at h
  split at h
  ·rename_i e;cases e;exact hg.1
  ·exact y0e hg.2 h
 |(.g i,o')::L,j,o,hg,h=>by simp[z6]at h;exact y0e hg.2 h
theorem y3G {s:S} {d:Nat}:∀{l:List (Nat × Option Nat)} {m:Nat} {x:Option Nat},tOk s d l→look l m=some x→s.known (rk d m)=false
 | [],_,_,_,h=>by simp[look]at h
 |(i,y)::l,m,x,hg,h=>by
  simp only[look]at h
  split at h
  ·rename_i e;subst e;exact hg.1
  ·exact y3G hg.2 h
def top (X:Cx) (md:List (Nat × Nat)) (dst:Nat) (o:Oper) (ρ:Operand→V) (s:S) (K:V→S→Prop):Prop:=
 match o.op with
 | .store T p y=>(match ρ p with
   | .ptr k q τ=>(match s.obj k with
     |some (.box x)=>τ=ty X.P T∧τ.known=true∧(b6 τ (ρ y)).ty=τ∧(b6 τ (ρ y)).plain=true∧x.at q≠.any∧x.ty.W4=true∧(b6 τ (ρ y)).okH=true∧
       K .any (U6 ((b6 τ (ρ y)).sites s.live q) (s.put k (.box (x.setAt q ((b6 τ (ρ y)).o9 ((b6 τ (ρ y)).sites s.live q) s.live q)))))
     |_=>False)
   |_=>False)
 | .box _ x=>(ρ x).plain=true∧(ρ x).okH=true∧s.obj (.l dst)=none∧
   K (.ptr (.l dst) [] (ρ x).ty) (U6 ((ρ x).sites s.live []) (s.put (.l dst) (.box ((ρ x).o9 ((ρ x).sites s.live []) s.live []))))
 | .load T x=>(match ρ x with
   | .ptr k q τ=>(match s.obj k with
     |some (.box y)=>(match y.at q with
      | .ts eb e cs=>r9 md dst=1∧τ=ty X.P T∧τ= .slice eb e∧y.ty.W4=true∧s.known dst=false∧K (.sl eb e cs dst) ((s.put k (.box (y.setAt q (.d (.slice eb e) (.slice cs))))).tok dst (some cs.length))
      |_=>False)
     |_=>False)
   |_=>False)
 | .mapUpdate T x i y=>(match q30 X.P T,ρ x with
   |some (kt,et),.mp k=>(match s.obj k with
     |some (.map kτ vτ es)=>kτ=ty X.P kt∧vτ=ty X.P et∧F6 X.P kt=true∧kτ.flat=true∧(ρ i).Q4 kτ∧(b6 vτ (ρ y).k6).ty=vτ∧(b6 vτ (ρ y).k6).plain=true∧(b6 vτ (ρ y).k6).u0=true∧
       K .any (s.put k (.map kτ vτ (q0U es (ρ i).toC (b6 vτ (ρ y).k6))))
     |_=>False)
   |_,_=>False)
 | .call c=>(match c.callee with
   | .value fo=>(match ρ fo with
     | .fn f caps=>q0W X.P f=true∧c.argTypes.toList.length=c.args.toList.length∧q0r (j7 (r9 md dst==1) s (Q1 (c.args.toList.map ρ) caps))=true∧
      ∃v L,Q2 X f (c4 X.P (r9 md dst==1) s (q3I c.argTypes.toList caps) (Q1 (c.args.toList.map ρ) caps)) s.up v L∧gOk s dst L∧tOk s dst (v.tkR 2000)∧
       K ((v.X1 2000).ren (dn dst) (rk dst)) (s.ret (r9 md dst==1) (Q1 (c.args.toList.map ρ) caps) dst v L)
     |_=>False)
   | .builtin .append=>(match c.args.toList,c.argTypes.toList with
     | [x,y],[t,t']=>b9 X.P (y7 X.P t)=true∧(match ty X.P t,ρ x with
       | .slice eb e,.sl eb' e' cs tk=>eb'=eb∧e'=e∧s.live tk=some cs.length∧
         q40 X.P s t' eb e (ρ y) fun ys=>(cs.length+ys.length)*eb≤140737488355328∧cs.length+ys.length≤maxLen∧K (.sl eb e (cs++ys) tk) (s.tok tk (some (cs.length+ys.length)))
       | .slice eb e,.sr k [] 0 n none eb' e'=>(match s.obj k with
         |some (.box (.d (.arr M e2) cc))=>eb'=eb∧e'=e∧e2=e∧∃d,s.obj (.l d)=none∧
           q40 X.P s t' eb e (ρ y) fun ys=>(n+ys.length)*eb≤140737488355328∧n+ys.length≤maxLen∧
            K (.sr (.l d) [] 0 (n+ys.length) none eb e) ((s.put k (.dead (.arr M e))).put (.l d) (.box (.d (.arr (n+ys.length) e) (.agg (cc.elems.take n++ys)))))
         |_=>False)
       |_,_=>False)
     |_,_=>False)
   | .builtin .copy=>(match c.args.toList,c.argTypes.toList with
     | [x,y],[t,t']=>b9 X.P (y7 X.P t)=true∧(match ty X.P t,ρ x with
       | .slice eb e,.sr k q lo n (some _) eb' e'=>(match s.obj k with
         |some (.box Z)=>(match Z.at q with
          | .d (.arr m e2) cc=>eb'=eb∧e'=e∧e2=e∧Z.ty.W4=true∧0<n∧
            q40 X.P s t' eb e (ρ y) fun ys=>K (.d (.int .i64) (.int (min ys.length n:Nat))) (s.put k (.box (Z.setAt q (.d (.arr m e) (.agg (q3H cc.elems lo n ys))))))
          |_=>False)
         |_=>False)
       |_,_=>False)
     |_,_=>False)
   |_=>False)
 |_=>False
def y3W (X:Cx) (o:Oper) (ρ:Operand→V) (s:S) (v:V) (s1:S):Prop:=
 s1.A=s.A∧s1.env=s.env∧∀(Γ:G) (w:World) (a:Act),Γ.gl=X.gl→z8 Γ w s→(∀y∈o.op.operands,q9 Γ (ρ y) (a.eval y))→w6 X.P o a w (u5 Γ w s1 v)
section
variable {X:Cx} {Γ:G} {w:World} {s:S}
theorem u5.congr {s1 s2:S} {x:V} {v:Value} {w':World} (h:u5 Γ w s1 x v w') (h1:∀k,s2.obj k=s1.obj k) (h2:∀t,s2.live t=s1.live t) (h3:∀t,s1.known t=true→s2.known t=true):u5 Γ w s2 x v w':=by
 obtain⟨Γ',a,b,c,d⟩:=h
 exact⟨Γ',a,b,c.congr h1 h2 h3,d⟩
theorem q57:∀(σ:List (Nat × List Nat)) (s:S),(U6 σ s).env=s.env∧(U6 σ s).A=s.A
 | [],_=>⟨rfl,rfl⟩
 |(t,_)::σ,s=>by simp only[U6];exact q57 σ _
theorem z1K (d:Nat):∀(L:List (Key × O)) (s:S),(q2z d L s).env=s.env∧(q2z d L s).A=s.A
 | [],_=>⟨rfl,rfl⟩
 |_::L,s=>by simp only[q2z,S.put];exact z1K d L s
theorem z7q (d:Nat):∀(l:List (Nat × Option Nat)) (s:S),(q3q d l s).env=s.env
 | [],_=>rfl
 |_::l,s=>by simp only[q3q,S.tok];exact z7q d l s
theorem z7r:∀(l:List Nat) (s:S),(q20 l s).env=s.env
 | [],_=>rfl
 |_::l,s=>by simp only[q20,S.tok];exact z7r l s
theorem z8L (tip:Bool) (ys:List V) (d:Nat) (v:V) (L:List (Key × O)):(s.ret tip ys d v L).env=s.env∧(s.ret tip ys d v L).A=s.A:=by
 unfold S.ret
 exact⟨by rw[z7q,z7r,(z1K d L s).1],by rw[(z1x _ _ _).2,(z1y _ _).2,(z1K d L s).2]⟩
theorem q9C {s s':S} (h:∀t,look s.tk t=look s'.tk t) (t:Nat):s.live t=s'.live t:=by unfold S.live H7;rw[h]
theorem q8V {s s':S} (h:∀t,look s.tk t=look s'.tk t) (t:Nat):s.known t=s'.known t:=by unfold S.known;rw[h]
theorem z2E {σ:List (Nat × List Nat)} {k:Key} {o:O} {x:V} {v:Value} {w':World} (h:u5 Γ w {s with loc:=(k,o)::s.loc,tk:=q3G σ++s.tk} x v w'):u5 Γ w (U6 σ (s.put k o)) x v w':=by
 refine h.congr (fun j=>?_) (fun t=>?_) (fun t ht=>?_)
 ·rw[z6H,b8]
  exact(u3 {s with tk:=q3G σ++s.tk} k j o).symm
 ·rw[z4E]
  unfold S.live H7
  simp only[q4q]
  cases look σ t <;> rfl
 ·unfold S.known at ht
  simp only[q4q]at ht
  cases hs:look σ t with
  |none=>rw[hs]at ht;exact q77 σ _ t ht
  |some p=>exact z0Z σ _ t (by rw[hs];simp)
theorem q6i (hP:x4 X.P=true) {md:List (Nat × Nat)} {dst:Nat} {o:Oper} {ρ:Operand→V} {K:V→S→Prop} (h:top X md dst o ρ s K):∃v s1,K v s1∧y3W X o ρ s v s1:=by
 unfold top at h
 split at h
 ·rename_i T p y ho
  split at h
  ·rename_i k q τ hp
   split at h
   ·rename_i x hobj
    obtain⟨h1,h2,h3,h4,h5,h6,h7,hK⟩:=h
    refine⟨_,_,hK,by rw[(q57 _ _).2];rfl,by rw[(q57 _ _).1];rfl,fun Γ w a _ c hr=>?_⟩
    have hpr:=hr p (by rw[ho];simp[Op.operands])
    rw[hp]at hpr
    have:=y1P (Y:=ρ y) hP c ho hpr (hr y (by rw[ho];simp[Op.operands])) hobj h1 h2 h3 h4 h5 h6 h7
    exact this.mono fun v w' hpost=>z2E hpost
   ·exact h.elim
  ·exact h.elim
 ·rename_i T x ho
  obtain⟨h1,h2,h3,hK⟩:=h
  refine⟨_,_,hK,by rw[(q57 _ _).2];rfl,by rw[(q57 _ _).1];rfl,fun Γ w a _ c hr=>?_⟩
  exact(y4I c ho h3 (hr x (by rw[ho];simp[Op.operands])) h1 h2).mono fun v w' hpost=>z2E hpost
 ·rename_i T x ho
  split at h
  ·rename_i k q τ hx
   split at h
   ·rename_i y hobj
    split at h
    ·rename_i eb e cs hat
     obtain⟨_,h2,h3,h4,h5,hK⟩:=h
     refine⟨_,_,hK,rfl,rfl,fun Γ w a _ c hr=>?_⟩
     have hxr:=hr x (by rw[ho];simp[Op.operands])
     rw[hx]at hxr
     obtain⟨b,τ0,o0,hι,hw,hv⟩:=X9 hxr
     obtain⟨u,r1,r2⟩:=z1z (T:=T) hP c hxr hobj (by rw[hat];simp) h2 (by rw[h3];rfl)
     rw[hat]at r2
     simp only[view]at r2
     obtain⟨aa,n,cap,e1,_⟩:=q0N (eb:=eb) (e:=e) (cs:=cs) r2 (by simp[V.q1M,C.elems])
     subst e1
     rw[h3]at hw
     have hcell:w.cell? ⟨b,o0,none⟩=some (.slice aa n cap):=by
      have r1':=r1
      rw[hv]at r1'
      simp only[Instr.loadAt,Instr.sureAddr,Sem.run_bind,Sem.run_pure,Result.andThen_ok]at r1'
      obtain⟨b2,cells,E,e1,_,_,e4,e5,e6,e7,_⟩:=c.own hι hobj
      rw[hι]at e1;cases e1
      obtain⟨g1,g2,g3⟩:=e6.at_ hw (by rw[hat];simp) e7
      have hcl:(chunk cells.toList 0 y.ty.size).length=y.ty.size:=u7 _ _ _ (by simpa using e5)
      rw[hcl]at g2
      simp only[Ty.size]at g2
      obtain⟨u',q1,q2,q3⟩:=q4l (T:=T) (E:=E) (fr:=(0,0)) (off:=o0) hP (h2.symm.trans h3) rfl e4 (by simp only[Ty.size];omega) (by
       have:=g3.one (by rw[hat];rfl)
       simp only[Ty.size]at this ⊢
       rwa [o7 _ _ _ _ _ (by omega),Nat.zero_add]at this)
      rw[r1']at q1
      cases q1
      simp only[Value.cells,Ty.size]at q2
      have:(chunk cells.toList o0 1)[0]? =some (.slice aa n cap):=by rw[←q2];rfl
      rw[w8]at this
      simp at this
      simp[World.cell?,e4,this]
     obtain⟨Γ',t1,t2,t3,t4⟩:=c.take (t:=dst) hobj hat h4 h5 hι hw hcell
     refine w6.val (v:=.slice aa n cap) (w':=w) (by unfold execOp;simp[ho,r1]) ⟨Γ',t1,t2,t3.congr (fun j=>?_) (fun t=>?_) (fun t ht=>?_),t4⟩
     ·refine(b8 s k j _).trans ?_
      exact(u3 {s with tk:=(dst,some cs.length)::s.tk} k j _).symm
     ·refine(z1A _ dst t _).trans ?_
      exact(q18 {s with loc:=(k,.box (y.setAt q (.d (.slice eb e) (.slice cs))))::s.loc} dst t (some cs.length)).symm
     ·rw[q6F]
      exact(q1o {s with loc:=(k,.box (y.setAt q (.d (.slice eb e) (.slice cs))))::s.loc} dst t (some cs.length)).symm.trans ht
    ·exact h.elim
   ·exact h.elim
  ·exact h.elim
 ·rename_i T x i y ho
  split at h
  ·rename_i kt et k hT hx
   split at h
   ·rename_i kτ vτ es hobj
    obtain⟨rfl,rfl,h1,h2,h3,h4,h5,h6,hK⟩:=h
    refine⟨_,_,hK,rfl,rfl,fun Γ w a _ c hr=>?_⟩
    have hxr:=hr x (by rw[ho];simp[Op.operands])
    rw[hx]at hxr
    have hir:=hr i (by rw[ho];simp[Op.operands])
    have hd:ρ i= .d (ty X.P kt) (ρ i).toC:=by
     cases hi:ρ i <;> simp[hi,V.Q4]at h3
     subst h3;rfl
    rw[hd]at hir
    exact(z7A hP c ho hT hxr hir (z1O (hr y (by rw[ho];simp[Op.operands])).k6) hobj h1 h2 h4 h5 h6).mono fun v w' hpost=>hpost.congr (fun j=>(b8 s k j _).trans (u3 s k j _).symm) (fun _=>rfl) (fun _ h=>h)
   ·exact h.elim
  ·exact h.elim
 ·rename_i cl ho
  obtain⟨callee,args,ts⟩:=cl
  split at h
  ·rename_i fo hfo
   simp only at hfo h
   subst hfo
   split at h
   ·rename_i f caps hf
    obtain⟨h1,h2,h3,v,L,D,hg,ht,hK⟩:=h
    refine⟨_,_,hK,(z8L ..).2,(z8L ..).1,fun Γ w a hgl c hr=>?_⟩
    have hrf:=hr fo (by rw[ho];simp[Op.operands,Call.operands])
    rw[hf]at hrf
    have:=z9d (A:=s.up) (d:=dst) rfl hgl c ho h1 h2 hrf (fun y hy=>hr y (by rw[ho];simp only[Op.operands,Call.operands];exact Array.mem_append_right _ (Array.mem_toList_iff.1 hy))) h3 D (fun _ _ h=>h)
     (fun k o hk=>y0f hg hk) (fun j o hj=>y0e hg hj) (fun m x hm=>y3G ht hm)
    exact this.mono fun v' w' hpost=>hpost.congr (fun k=>z8K ..) (fun t=>q9C (fun t=>y04 ..) t) (fun t hk=>by rw[q8V (fun t=>y04 ..)];exact hk)
   ·exact h.elim
  ·rename_i hb
   simp only at hb h
   subst hb
   split at h
   ·rename_i x y t t' hargs hts
    have hargs':args=#[x,y]:=by cases args;simpa using hargs
    have hts':ts=#[t,t']:=by cases ts;simpa using hts
    subst hargs';subst hts'
    obtain⟨h1,h⟩:=h
    split at h
    ·rename_i eb e eb' e' cs tk htt hx
     obtain⟨rfl,rfl,hl,h⟩:=h
     obtain⟨ys,⟨b1,b2,hK⟩,hs⟩:=q4H hP h
     refine⟨_,_,hK,rfl,rfl,fun Γ w a _ c hr=>?_⟩
     have hyr:=hr y (by rw[ho];simp[Op.operands,Call.operands])
     have hxr:=hr x (by rw[ho];simp[Op.operands,Call.operands])
     rw[hx]at hxr
     exact(z5w hP c ho htt h1 hl hxr hyr hs b1 b2).mono fun v w' hpost=>hpost.congr (fun _=>rfl) (fun u=>(z1A s tk u _).trans (q18 s tk u _).symm) (fun u hu=>by rw[q6F];exact(q1o s tk u _).symm.trans hu)
    ·rename_i eb e k n eb' e' htt hx
     split at h
     ·rename_i M e2 cc hobj
      obtain⟨rfl,rfl,rfl,d,hd,h⟩:=h
      obtain⟨ys,⟨b1,b2,hK⟩,hs⟩:=q4H hP h
      refine⟨_,_,hK,rfl,rfl,fun Γ w a _ c hr=>?_⟩
      have hyr:=hr y (by rw[ho];simp[Op.operands,Call.operands])
      have hxr:=hr x (by rw[ho];simp[Op.operands,Call.operands])
      rw[hx]at hxr
      exact(z5v hP c ho htt h1 hd hobj hxr hyr hs b1 b2).mono fun v w' hpost=>hpost.congr (fun j=>by rw[b8,b8];rw[show S.obj {s with loc:=(Key.l d,O.box (.d (.arr (n+ys.length) _) (.agg (cc.elems.take n++ys))))::(k,O.dead _)::s.loc} j=S.obj {({s with loc:=(k,O.dead _)::s.loc}:S)with loc:=(Key.l d,_)::({s with loc:=(k,O.dead _)::s.loc}:S).loc} j from rfl,u3,u3]) (fun u=>rfl) (fun u hu=>hu)
     ·exact h.elim
    ·exact h.elim
   ·exact h.elim
  ·rename_i hb
   simp only at hb h
   subst hb
   split at h
   ·rename_i x y t t' hargs hts
    have hargs':args=#[x,y]:=by cases args;simpa using hargs
    have hts':ts=#[t,t']:=by cases ts;simpa using hts
    subst hargs';subst hts'
    obtain⟨h1,h⟩:=h
    split at h
    ·rename_i eb e k q lo n cp eb' e' htt hx
     split at h
     ·rename_i Z hobj
      split at h
      ·rename_i m e2 cc hZ
       obtain⟨rfl,rfl,rfl,hd,h0,h⟩:=h
       obtain⟨ys,hK,hs⟩:=q4H hP h
       refine⟨_,_,hK,rfl,rfl,fun Γ w a _ c hr=>?_⟩
       have hyr:=hr y (by rw[ho];simp[Op.operands,Call.operands])
       have hxr:=hr x (by rw[ho];simp[Op.operands,Call.operands])
       rw[hx]at hxr
       exact(y4G hP c ho htt hobj hZ hd h0 h1 hxr hyr hs).mono fun v w' hpost=>hpost.congr (fun j=>by rw[b8,u3]) (fun u=>rfl) (fun u hu=>hu)
      ·exact h.elim
     ·exact h.elim
    ·exact h.elim
   ·exact h.elim
  ·exact h.elim
 ·exact h.elim
end
end Go.E
namespace Go.E
open Go
def At (X:Cx) (n:Nat) (Γ0:G) (s:S) (a:Act) (w:World):Prop:=
 ∃Γ,GLe Γ0 Γ∧Γ.gl=X.gl∧z8 Γ w s∧q1u Γ s a.tmps∧a.tmps.size=n∧a.defers=[]∧AOk s.A
def S.set (s:S) (d:Option Nat) (x:V):S:=
 match d with
 |some d=>{s with env:=z1q s.env d x}
 |none=>s
def H2 (s:S):List (Key × O)→Prop
 | []=>True
 |(k,_)::l=>s.obj k=none∧H2 s l
def H0 (s:S):List (Nat × Option Nat)→Prop
 | []=>True
 |(t,_)::l=>s.known t=false∧H0 s l
theorem q8f {s:S} {lo:List (Key × O)} {tn:List (Nat × Option Nat)} (h:H2 s lo) (h':H0 s tn):z5S s lo tn:=by
 constructor
 ·induction lo with
  |nil=>intro k o hk;simp[z6]at hk
  |cons x lo ih=>
   intro k o hk
   simp only[z6]at hk
   split at hk
   ·rename_i e;rw[←e];exact h.1
   ·exact ih h.2 k o hk
 ·induction tn with
  |nil=>intro k o hk;simp[look]at hk
  |cons x tn ih=>
   intro k o hk
   simp only[look]at hk
   split at hk
   ·rename_i e;rw[←e];exact h'.1
   ·exact ih h'.2 k o hk
noncomputable def y5r (X:Cx) (dst:Nat) (o:Oper) (s:S) (K:V→S→Prop):Prop:=
  (iop X [] (W8 (q0s (o.op.operands.toList.map (y5 X.gl s))) s) dst o (fun y=>Z9 s (y5 X.gl s y)) (W8 (q0s (o.op.operands.toList.map (y5 X.gl s))) s)
   (fun v lo tn=>H2 (W8 (q0s (o.op.operands.toList.map (y5 X.gl s))) s) lo∧H0 (W8 (q0s (o.op.operands.toList.map (y5 X.gl s))) s) tn∧K v ((W8 (q0s (o.op.operands.toList.map (y5 X.gl s))) s).add lo tn))∨
  top X [] dst o (fun y=>Z9 s (y5 X.gl s y)) (W8 (q0s (o.op.operands.toList.map (y5 X.gl s))) s) K)
noncomputable def lop (X:Cx) (md:List (Nat × Nat)) (dst:Nat) (o:Oper) (s:S) (K:V→S→Prop):Prop:=r9 md dst=100∧y5r X dst o s K
theorem z2x:∀{xs:List V} {x:V} {j:Nat},x∈xs→j∈q0Z x→j∈q0s xs
 |y::ys,x,j,hx,hj=>by
  simp only[q0s,List.mem_append]
  rcases List.mem_cons.1 hx with rfl|hx
  ·exact .inl hj
  ·exact .inr (z2x hx hj)
theorem q4S:∀(js:List Nat) (s:S),(W8 js s).env=s.env∧(W8 js s).A=s.A
 | [],s=>⟨rfl,rfl⟩
 |j::l,s=>by
  simp only[W8]
  have:=q4S l (match s.obj (.l j)with
   |some (.box (.d τ _))=>(match τ with
    | .arr M e=>{s with loc:=(.l j,.dead (.arr M e))::s.loc}
    |_=>s)
   |_=>s)
  refine⟨this.1.trans ?_,this.2.trans ?_⟩ <;> (split <;> (try rfl);split <;> rfl)
noncomputable def sop (X:Cx) (md:List (Nat × Nat)) (dst:Nat) (o:Oper) (s:S) (K:V→S→Prop):Prop:=
 lop X md dst o s K∨(r9 md dst≠1∧iop X md s dst o (y5 X.gl s) s (fun v lo tn=>H2 s lo∧H0 s tn∧K v (s.add lo tn)))∨top X md dst o (y5 X.gl s) s K∨(fop X o (y5 X.gl s) fun v=>K v s)∨sl3 X md dst o (y5 X.gl s) s K
def q1q (ops:Array Oper) (j:Nat):Option Nat:=(ops[j]?).bind (·.dst)
def y6 (o:Oper):Nat:=o.dst.getD 0
def gk (b want:Bool) (p q:Prop):Prop:=(b=want→p)∧(b≠want→q)
def gv (ops:Array Oper) (s:S) (j:Nat):V:=match q1q ops j with
 |none=>.any
 |some t=>s.get t
def gx (x:V) (want:Bool) (p q:Prop):Prop:=match x with
 | .d .bool c=>gk c.toBool want p q
 | .tup []=>q
 |_=>False
noncomputable def vc (X:Cx) (md:List (Nat × Nat)) (ops:Array Oper) (Φ:S→Prop):List Oper→S→Prop
 | [],s=>Φ s
 |o::rest,s=>match o.guard with
  |none=>sop X md (y6 o) o s fun v s'=>vc X md ops Φ rest (s'.set o.dst v)
  |some (j,want)=>gx (gv ops s j) want (sop X md (y6 o) o s fun v s'=>vc X md ops Φ rest (s'.set o.dst v)) (vc X md ops Φ rest (s.set o.dst (.tup [])))
theorem z2h {Γ:G}:q9 Γ (.tup []) undef:=⟨#[],rfl,by simp[y9]⟩
theorem q2v (s:S) (d:Option Nat) (v:V) (t:Nat):(s.set d v).get t=if d=some t then v else s.get t:=by
 cases d with
 |none=>simp[S.set]
 |some d=>
  simp only[S.set,S.get,q5Y]
  by_cases h:d=t
  ·simp[h]
  ·have:¬(some d=some t):=by intro e;cases e;exact h rfl
   simp[h]
section
variable {X:Cx} {n:Nat} {Γ0:G}
theorem y0Z {Γ:G} {s:S} {a:Act} {d:Option Nat} {x:V} {v:Value} (hs:q1u Γ s a.tmps) (hd:∀t,d=some t→t<a.tmps.size) (hx:q9 Γ x v):
  q1u Γ (s.set d x) (a.put d v).tmps:=by
 intro i
 rw[q2v]
 cases d with
 |none=>simpa[Act.put]using hs i
 |some t=>
  have:=hd t rfl
  by_cases h:t=i
  ·subst h
   simp only[Act.put,if_true]
   simp[this]
   exact hx
  ·have h':¬(some t=some i):=by intro e;cases e;exact h rfl
   rw[if_neg h']
   have:=hs i
   simpa[Act.put,Array.getElem?_setIfInBounds_ne h]using this
theorem q6b {Γ:G} {w:World} {s:S} (c:z8 Γ w s) (d:Option Nat) (x:V):z8 Γ w (s.set d x):=by
 cases d with
 |none=>exact c
 |some t=>exact c.env _
theorem q6I {Γ:G} {w:World} {s s':S} {a:Act} (hgl:Γ.gl=X.gl) (c:z8 Γ w s') (hs:∀t,q9 Γ (s.get t) (a.tmps.getD t undef)) {y:Operand} (hy:q6w y=true):q9 Γ (y5 X.gl s y) (a.eval y):=by
 cases y with
 |tmp t=>exact hs t
 |func f=>
  show q9 Γ (.fn f []) (.func (.func f) #[] #[])
  exact(y8 rfl).2 ⟨by simp[q8,y9,Value.cells],by simp[V.ty,Ty.isAgg,x9]⟩
 |global g=>
  simp only[y5]
  cases hg:X.gl g with
  |none=>simp[q9]
  |some x=>
   obtain⟨τ,cc⟩:=x
   obtain⟨l,h1,h2,h3⟩:=c.hgl g τ cc (by rw[hgl];exact hg)
   exact q0m h1 (by simpa using h2) h3
 |const v=>
  simp only[y5,Act.eval]
  unfold z7L
  simp only[q6w]at hy
  split
  ·simp[z4b]at hy;exact s5 hy.1 hy.2
  ·exact w5
  ·simp[z4b]at hy
   rename_i str
   exact W5 (l:=str.data.toList) (by simpa using hy)
  ·exact(y8 rfl).2 ⟨by simp[q8,z7,Value.cells],by simp[V.ty,Ty.isAgg,x9]⟩
  ·exact(y8 rfl).2 ⟨by simp[q8,Value.cells],by simp[V.ty,Ty.isAgg,x9]⟩
  ·exact(y8 rfl).2 ⟨by simp[q8,z7,Value.cells],by simp[V.ty,Ty.isAgg,x9]⟩
  ·exact(y8 rfl).2 ⟨by simp[q8,z7,Value.cells],by simp[V.ty,Ty.isAgg,x9]⟩
  ·exact(y8 rfl).2 ⟨by simp[q8,z7,Value.cells],by simp[V.ty,Ty.isAgg,x9]⟩
  ·simp[q9]
theorem q6d {s:S} {a:Act} {w:World} {d:Option Nat} {x:V} (hd:match d with|some d=>decide (d<n)=true|none=>True) {Γ:G} (h1:GLe Γ0 Γ) (h3:Γ.gl=X.gl) (c:z8 Γ w s) (hs:q1u Γ s a.tmps) (hn:a.tmps.size=n) (hf:a.defers=[]∧AOk s.A) {v:Value} (hx:q9 Γ x v):
  At X n Γ0 (s.set d x) (a.put d v) w:=by
 refine⟨Γ,h1,h3,q6b c d x,y0Z hs (fun t ht=>?_) hx,?_,?_,?_⟩
 ·subst ht;simp at hd;omega
 ·cases d <;> simp[Act.put,hn]
 ·cases d <;> simp[Act.put,hf.1]
 ·cases d <;> exact hf.2
theorem q1f {Γ:G} {s s':S} {t:Array Value} (h:s'.env=s.env) (hs:q1u Γ s t):q1u Γ s' t:=fun i=>by
 have:=hs i
 simp only[S.get]at this ⊢
 rw[h];exact this
theorem y0Y (hP:x4 X.P=true) {md:List (Nat × Nat)} {o:Oper} {s:S} {K:V→S→Prop} (hok:q45 n o=true) (h:sop X md (y6 o) o s K) {a:Act} {w:World} (hat:At X n Γ0 s a w):
  w6 X.P o a w fun u w'=>∃v s',K v s'∧At X n Γ0 (s'.set o.dst v) (a.put o.dst u) w':=by
 obtain⟨Γ,g1,g3,c,hs,hn,hf⟩:=hat
 simp only[q45,Bool.and_eq_true,Array.all_eq_true']at hok
 have hd:match o.dst with|some d=>decide (d<n)=true|none=>True:=by
  cases ho:o.dst with
  |none=>trivial
  |some d=>have:=hok.2;rw[ho]at this;exact this
 have hops:∀y∈o.op.operands,q9 Γ (y5 X.gl s y) (a.eval y):=fun y hy=>q6I g3 c hs (hok.1 y hy)
 rcases h with⟨_,h⟩|⟨_,h⟩|h|h|h
 ·obtain⟨Γ1,gl1,p1,c1,hcv⟩:=q74 (q0s (o.op.operands.toList.map (y5 X.gl s))) s c
  have hops1:∀y∈o.op.operands,q9 Γ1 (Z9 s (y5 X.gl s y)) (a.eval y):=fun y hy=>
   hcv _ _ (hops y hy) fun j hj=>z2x (List.mem_map_of_mem (by simpa using hy)) hj
  have henv:=q4S (q0s (o.op.operands.toList.map (y5 X.gl s))) s
  have hs1:q1u Γ1 (W8 (q0s (o.op.operands.toList.map (y5 X.gl s))) s) a.tmps:=q1f henv.1 (hs.o8 p1)
  have g31:Γ1.gl=X.gl:=gl1.gl.trans g3
  rcases h with h|h
  ·obtain⟨v,lo,tn,⟨hf1,hf2,hK⟩,hI⟩:=q2b hP h
   refine(hI Γ1 w a _ g31 c1 ⟨fun _ _ h _=>h,fun _ _ h=>h⟩ (q8f hf1 hf2) hops1).mono ?_
   rintro u w' ⟨Γ',gle,hp,c',hv⟩
   exact⟨_,_,hK,q6d hd ((g1.trans gl1).trans gle) (gle.gl.trans g31) c' (q1f (s:=W8 (q0s (o.op.operands.toList.map (y5 X.gl s))) s) rfl (hs1.o8 hp)) hn ⟨hf.1,by show AOk (W8 _ s).A;rw[henv.2];exact hf.2⟩ hv⟩
  ·obtain⟨v,s1,hK,hsA,he,hT⟩:=q6i hP h
   refine(hT Γ1 w a g31 c1 hops1).mono ?_
   rintro u w' ⟨Γ',gle,hp,c',hv⟩
   exact⟨_,_,hK,q6d hd ((g1.trans gl1).trans gle) (gle.gl.trans g31) c' (q1f he (hs1.o8 hp)) hn ⟨hf.1,by rw[hsA,henv.2];exact hf.2⟩ hv⟩
 ·obtain⟨v,lo,tn,⟨hf1,hf2,hK⟩,hI⟩:=q2b hP h
  refine(hI Γ w a s g3 c ⟨fun _ _ h _=>h,fun _ _ h=>h⟩ (q8f hf1 hf2) hops).mono ?_
  rintro u w' ⟨Γ',gle,hp,c',hv⟩
  exact⟨_,_,hK,q6d hd (g1.trans gle) (gle.gl.trans g3) c' (q1f rfl (hs.o8 hp)) hn hf hv⟩
 ·obtain⟨v,s1,hK,hsA,he,hT⟩:=q6i hP h
  refine(hT Γ w a g3 c hops).mono ?_
  rintro u w' ⟨Γ',gle,hp,c',hv⟩
  exact⟨_,_,hK,q6d hd (g1.trans gle) (gle.gl.trans g3) c' (q1f he (hs.o8 hp)) hn ⟨hf.1,by rw[hsA];exact hf.2⟩ hv⟩
 ·obtain⟨v,hK,hI⟩:=q9M hP h
  refine(hI Γ w a s c hops).mono ?_
  rintro u w' ⟨Γ',gle,hp,c',hv⟩
  exact⟨_,_,hK,q6d hd (g1.trans gle) (gle.gl.trans g3) c' (q1f rfl (hs.o8 hp)) hn hf hv⟩
 ·obtain⟨v,s1,hK,hsA,he,hT⟩:=y01 hP h
  refine(hT Γ w a c hops).mono ?_
  rintro u w' ⟨Γ',gle,hp,c',hv⟩
  exact⟨_,_,hK,q6d hd (g1.trans gle) (gle.gl.trans g3) c' (q1f he (hs.o8 hp)) hn ⟨hf.1,by rw[hsA];exact hf.2⟩ hv⟩
end
def DC (X:Cx) (n:Nat) (c:Code) (s:S) (Ψ:Exit→S→Prop):Prop:=
 ∀(Γ0:G) (a:Act) (w:World),At X n Γ0 s a w→c.wp X.P (fun e a w=>∃s',Ψ e s'∧At X n Γ0 s' a w) a w
def q0g (X:Cx) (n:Nat) (s s':S):Prop:=∀(Γ0:G) (a:Act) (w:World),At X n Γ0 s a w→At X n Γ0 s' a w
section
variable {X:Cx} {n:Nat} {s:S} {Ψ:Exit→S→Prop}
theorem z8s {Γ:G} {ops:Array Oper} {a:Act} {o:Oper} {j t:Nat} {want b:Bool} (hg:o.guard=some (j,want)) (ht:q1q ops j=some t)
  (hs:q9 Γ (.d .bool (.bool b)) (a.tmps.getD t undef)):Region.wanted o (yielded ops a.tmps)=(b==want):=by
 have e2:a.tmps.getD t undef= .bool b:=(Z2 hs).1
 have hsome:a.tmps[t]? =some (.bool b):=by
  rw[Array.getD_eq_getD_getElem?]at e2
  cases h:a.tmps[t]? with
  |none=>rw[h]at e2;simp[undef]at e2
  |some v=>rw[h]at e2;simp at e2;rw[e2]
 simp only[q1q]at ht
 simp[Region.wanted,hg,yielded,ht,hsome]
theorem z2I {Γ:G} {ops:Array Oper} {a:Act} {o:Oper} {j t:Nat} {want:Bool} {c:C} (hg:o.guard=some (j,want)) (ht:q1q ops j=some t)
  (hs:q9 Γ (.d .bool c) (a.tmps.getD t undef)):Region.wanted o (yielded ops a.tmps)=(c.toBool==want):=by
 obtain⟨_,e⟩:=Z2 hs
 rw[e]at hs
 exact z8s hg ht hs
theorem z05 {Γ:G} {ops:Array Oper} {a:Act} {o:Oper} {j t:Nat} {want:Bool} (hg:o.guard=some (j,want)) (ht:q1q ops j=some t)
  (hs:q9 Γ (.tup []) (a.tmps.getD t undef)):Region.wanted o (yielded ops a.tmps)=false:=by
 obtain⟨vs,e,_⟩:=hs
 have hnb:∀b,a.tmps[t]?≠some (.bool b):=by
  intro b h
  rw[Array.getD_eq_getD_getElem?,h]at e
  simp at e
 simp only[q1q]at ht
 simp only[Region.wanted,hg,yielded,ht,Option.bind_some]
 rfl
theorem z1c (hP:x4 X.P=true) {Γ0:G} {md:List (Nat × Nat)} {ops:Array Oper} {Φ:S→Prop} {Q:Exit→Act→World→Prop} (hQ:∀s a w,Φ s→At X n Γ0 s a w→Q .normal a w):
  ∀(rest:List Oper) (s:S) (a:Act) (w:World),(∀o∈rest,q45 n o=true)→vc X md ops Φ rest s→At X n Γ0 s a w→wpList X.P ops Q rest a w
 | [],s,a,w,_,h,hat=>hQ s a w h hat
 |o::rest,s,a,w,hok,h,hat=>by
  have run:(sop X md (y6 o) o s fun v s'=>vc X md ops Φ rest (s'.set o.dst v))→o.wp X.P a w (wpList X.P ops Q rest) Q:=by
   intro h
   refine y0Y hP (hok o (by simp)) h hat _ _ ?_
   rintro u w' ⟨v,s',hv,hat'⟩
   exact z1c hP hQ rest _ _ _ (fun o ho=>hok o (by simp[ho])) hv hat'
  have skip:vc X md ops Φ rest (s.set o.dst (.tup []))→wpList X.P ops Q rest (a.put o.dst undef) w:=by
   intro h
   obtain⟨Γ,g1,g3,c,hs,hn,hf⟩:=hat
   have hd:match o.dst with|some d=>decide (d<n)=true|none=>True:=by
    have:=hok o (by simp)
    simp only[q45,Bool.and_eq_true]at this
    cases ho:o.dst with
    |none=>trivial
    |some d=>have:=this.2;rw[ho]at this;exact this
   exact z1c hP hQ rest _ _ _ (fun o ho=>hok o (by simp[ho])) h (q6d hd g1 g3 c hs hn hf z2h)
  simp only[vc]at h
  simp only[wpList]
  split at h
  ·rename_i hg
   have:Region.wanted o (yielded ops a.tmps)=true:=by simp[Region.wanted,hg]
   rw[if_pos this]
   exact .inl (run h)
  ·rename_i j want hg
   cases ht:q1q ops j with
   |none=>simp[gv,ht,gx]at h
   |some t=>
    simp only[gv,ht]at h
    unfold gx at h
    obtain⟨Γ,g1,g3,c,hs,hn,hf⟩:=id hat
    have hst:=hs t
    split at h
    ·rename_i cb hb
     rw[hb]at hst
     rw[z2I hg ht hst]
     by_cases hbw:cb.toBool=want
     ·rw[if_pos (by simp[hbw])]
      exact .inl (run (h.1 hbw))
     ·rw[if_neg (by simp[hbw])]
      exact skip (h.2 hbw)
    ·rename_i hb
     rw[hb]at hst
     rw[if_neg (by rw[z05 hg ht hst];simp)]
     exact skip h
    ·exact h.elim
theorem DC.mono {c:Code} {Ψ':Exit→S→Prop} (h:DC X n c s Ψ) (hq:∀e s,Ψ e s→Ψ' e s):DC X n c s Ψ':=
 fun Γ0 a w hat=>wp_mono (h Γ0 a w hat) fun e a w ⟨s',h1,h2⟩=>⟨s',hq _ _ h1,h2⟩
theorem DC.q83 {c:Code} {s':S} (hw:q0g X n s s') (h:DC X n c s' Ψ):DC X n c s Ψ:=
 fun Γ0 a w hat=>h Γ0 a w (hw Γ0 a w hat)
theorem q0g.refl (s:S):q0g X n s s:=fun _ _ _ h=>h
theorem q0g.trans {s s' s'':S} (h:q0g X n s s') (h':q0g X n s' s''):q0g X n s s'':=fun Γ0 a w hat=>h' Γ0 a w (h Γ0 a w hat)
theorem y1T (hP:x4 X.P=true) (md:List (Nat × Nat)) {id:Nat} {l:List Oper} (hok:l.all (q45 n)=true) (h:vc X md l.toArray (fun s'=>Ψ .normal s') l s):DC X n (.region id l.toArray false) s Ψ:=by
 intro Γ0 a w hat
 refine wp_region_lit (z1c hP (fun s' a w hΨ hat=>⟨s',hΨ,hat⟩) l s a w (fun o ho=>List.all_eq_true.1 hok o ho) h hat)
theorem q6a {c c':Code} (h:DC X n c s fun e s'=>match e with| .normal=>DC X n c' s' Ψ|e=>Ψ e s'):DC X n (c.seq c') s Ψ:=by
 intro Γ0 a w hat
 refine wp_seq (wp_mono (h Γ0 a w hat) ?_)
 rintro e a w ⟨s',h1,h2⟩
 cases e with
 |normal=>exact h1 Γ0 a w h2
 |exit _|goto _|ret|panic _|outgrown=>exact⟨s',h1,h2⟩
theorem z9i (h:Ψ .normal s):DC X n .skip s Ψ:=fun _ _ _ hat=>wp_skip ⟨s,h,hat⟩
theorem z7G {l:Nat} (h:Ψ .normal s):DC X n (.label l) s Ψ:=fun _ _ _ hat=>wp_label ⟨s,h,hat⟩
theorem y5y (h:Ψ .ret s):DC X n .ret s Ψ:=fun _ _ _ hat=>wp_ret ⟨s,h,hat⟩
theorem y4L {id:Nat} (h:Ψ (.exit id) s):DC X n (.exit id) s Ψ:=fun _ _ _ hat=>wp_exit ⟨s,h,hat⟩
theorem y4K {id:Nat} (h:Ψ (.goto id) s):DC X n (.goto id) s Ψ:=fun _ _ _ hat=>wp_goto ⟨s,h,hat⟩
theorem q8t {id:Nat} {c:Code} (h:DC X n c s fun e s'=>match e with| .exit id'=>if id'=id then Ψ .normal s' else Ψ (.exit id') s'|e=>Ψ e s'):DC X n (.block id c) s Ψ:=by
 intro Γ0 a w hat
 refine wp_block (wp_mono (h Γ0 a w hat) ?_)
 rintro e a w ⟨s',h1,h2⟩
 cases e with
 |exit id'=>
  simp only[Exit.inBlock]at h1 ⊢
  split
  ·rename_i hid;rw[if_pos hid]at h1;exact⟨s',h1,h2⟩
  ·rename_i hid;rw[if_neg hid]at h1;exact⟨s',h1,h2⟩
 |normal|goto _|ret|panic _|outgrown=>exact⟨s',h1,h2⟩
theorem z7H {t:Nat} {c c':Code} {v:C} (hv:s.get t= .d .bool v) (h1:v.toBool=true→DC X n c s Ψ) (h2:v.toBool=false→DC X n c' s Ψ):DC X n (.cond (.tmp t) c c') s Ψ:=by
 intro Γ0 a w hat
 have he:a.eval (.tmp t)= .bool v.toBool:=by
  obtain⟨Γ,g1,g3,c,hs,hn,hf⟩:=hat
  have:=hs t
  rw[hv]at this
  exact(Z2 this).1
 refine wp_cond (t:=v.toBool) he ?_
 cases hb:v.toBool with
 |true=>exact h1 hb Γ0 a w hat
 |false=>exact h2 hb Γ0 a w hat
end
end Go.E
namespace Go.E
open Go
mutual
def V.u2 (x:V):V→Prop
 | .d τ c=>(match x with
  | .nilc=>(∃eb e,τ= .slice eb e)∧c= .slice []
  |x=>s7 x=some c∧x.ty=τ)
 | .emp eb e=>x= .emp eb e∨x= .nilc
 | .agg τ ws=>(match x with
  | .agg τ' vs=>τ'=τ∧V.q01 vs ws
  |x=>x= .agg τ ws)
 | .any=>True
 |y=>x=y
def V.q01:List V→List V→Prop
 | [],[]=>True
 |x::xs,y::ys=>V.u2 x y∧y.ty=x.ty∧V.q01 xs ys
 |_,_=>False
end
def O.u2:O→O→Prop
 | .box x,.box y=>V.u2 x y∧y.ty=x.ty∧y.plain=true∧y.u0=true
 | .map kτ vτ es,.map kτ' vτ' es'=>kτ=kτ'∧vτ=vτ'∧es=es'
 | .it l p,.it l' p'=>l=l'∧p=p'
 |o,.dead τ=>τ=o.ty
 |_,_=>False
def W0 (tk:List (Nat × Option Nat)) (t:Nat):Bool:=(look tk t).isSome
def j9 (L:List (Key × O)) (n:Nat):Bool:=(z6 L (.l n)).isSome
section
variable {Γ:G}
theorem V.q9F:∀{xs ys:List V},V.q01 xs ys→xs.length=ys.length
 | [],[],_=>rfl
 |x::xs,y::ys,h=>by simp only[V.q01]at h;simp[V.q9F h.2.2]
 | [],_::_,h=>by simp[V.q01]at h
 |_::_,[],h=>by simp[V.q01]at h
mutual
theorem q8.u2 {hm:Option Key}:∀(y x:V) {p:List Nat} {vs:List Value},V.u2 x y→q8 Γ hm p x vs→q8 Γ hm p y vs∧(y≠.any→y.ty.isAgg=x.ty.isAgg∧(x≠.nilc→y.ty=x.ty))
 | .d τ c,x,p,vs,h,hr=>by
  cases x
  case nilc=>
   simp only[V.u2]at h
   obtain⟨⟨eb,e,rfl⟩,rfl⟩:=h
   simp only[q8]at hr ⊢
   subst hr
   exact⟨v8 rfl (Nat.le_refl _) (Nat.zero_le _) (by rw[Nat.zero_mul];exact Nat.zero_le _) (.inl rfl),fun _=>⟨rfl,fun h=>absurd rfl h⟩⟩
  all_goals
   simp only[V.u2]at h
   obtain⟨h1,h2⟩:=h
   have:=q0P _ hr h1
   rw[h2]at this
   exact⟨by simpa only[q8]using this,fun _=>⟨by simp only[V.ty]at h2 ⊢;rw[h2],fun _=>by simp only[V.ty]at h2 ⊢;rw[h2]⟩⟩
 | .emp eb e,x,p,vs,h,hr=>by
  simp only[V.u2]at h
  rcases h with rfl|rfl
  ·exact⟨hr,fun _=>⟨rfl,fun _=>rfl⟩⟩
  ·simp only[q8]at hr ⊢
   subst hr
   exact⟨⟨none,rfl⟩,fun _=>⟨rfl,fun h=>absurd rfl h⟩⟩
 | .agg τ ws,x,p,vs,h,hr=>by
  cases x
  case agg τ' us=>
   simp only[V.u2]at h
   obtain⟨rfl,h⟩:=h
   simp only[q8]at hr ⊢
   obtain⟨r1,r2,r3,r4,r5⟩:=hr
   exact⟨⟨r1,r2,by rw[←V.q9F h];exact r3,r4,y4.u2 ws us h r5⟩,fun _=>⟨rfl,fun _=>rfl⟩⟩
  all_goals (simp only[V.u2]at h;cases h)
 | .any,x,p,vs,_,_=>⟨by simp only[q8],fun h=>absurd rfl h⟩
 | .sl eb e cs t,x,p,vs,h,hr=>by simp only[V.u2]at h;subst h;exact⟨hr,fun _=>⟨rfl,fun _=>rfl⟩⟩
 | .ts eb e cs,x,p,vs,h,hr=>by simp only[V.u2]at h;subst h;exact⟨hr,fun _=>⟨rfl,fun _=>rfl⟩⟩
 | .nilc,x,p,vs,h,hr=>by simp only[V.u2]at h;subst h;exact⟨hr,fun _=>⟨rfl,fun _=>rfl⟩⟩
 | .ptr k q τ,x,p,vs,h,hr=>by simp only[V.u2]at h;subst h;exact⟨hr,fun _=>⟨rfl,fun _=>rfl⟩⟩
 | .cptr τ c,x,p,vs,h,hr=>by simp only[V.u2]at h;subst h;exact⟨hr,fun _=>⟨rfl,fun _=>rfl⟩⟩
 | .sr k q lo n cp eb e,x,p,vs,h,hr=>by simp only[V.u2]at h;subst h;exact⟨hr,fun _=>⟨rfl,fun _=>rfl⟩⟩
 | .mp k,x,p,vs,h,hr=>by simp only[V.u2]at h;subst h;exact⟨hr,fun _=>⟨rfl,fun _=>rfl⟩⟩
 | .fn f caps,x,p,vs,h,hr=>by simp only[V.u2]at h;subst h;exact⟨hr,fun _=>⟨rfl,fun _=>rfl⟩⟩
 | .tup us,x,p,vs,h,hr=>by simp only[V.u2]at h;subst h;exact⟨hr,fun _=>⟨rfl,fun _=>rfl⟩⟩
 | .top τ,x,p,vs,h,hr=>by simp only[V.u2]at h;subst h;exact⟨hr,fun _=>⟨rfl,fun _=>rfl⟩⟩
theorem y4.u2 {hm:Option Key}:∀(ys xs:List V) {p:List Nat} {i:Nat} {τ:Ty} {vs:List Value},V.q01 xs ys→y4 Γ hm p i τ xs vs→y4 Γ hm p i τ ys vs
 | [],[],_,_,_,_,_,h=>h
 |y::ys,x::xs,p,i,τ,vs,h,hr=>by
  simp only[V.q01]at h
  simp only[y4]at hr ⊢
  obtain⟨⟨o,f,h1,h2,h3,h4⟩,h5⟩:=hr
  obtain⟨k1,k2⟩:=q8.u2 y x h.1 h4
  exact⟨⟨o,f,h1,h.2.1.trans h2,h3,k1⟩,y4.u2 ys xs h.2.2 h5⟩
 | [],_::_,_,_,_,_,h,_=>by simp[V.q01]at h
 |_::_,[],_,_,_,_,h,_=>by simp[V.q01]at h
end
mutual
theorem V.q7o {f g f' g':Nat→Bool} (hf:∀n,f n=true→f' n=true) (hg:∀n,g n=true→g' n=true):∀x:V,x.ok f g=true→x.ok f' g'=true
 | .ptr (.l k) _ _,h| .mp (.l k),h| .sr (.l k) _ _ _ _ _ _,h=>by simp only[V.ok]at h ⊢;exact hf _ h
 | .sl _ _ _ t,h=>by simp only[V.ok]at h ⊢;exact hg _ h
 | .agg _ vs,h| .fn _ vs,h| .tup vs,h=>by simp only[V.ok]at h ⊢;exact V.z6A hf hg vs h
 | .ptr (.g _) _ _,_| .mp (.g _),_| .sr (.g _) _ _ _ _ _ _,_| .d _ _,_| .ts _ _ _,_| .emp _ _,_| .nilc,_| .cptr _ _,_| .top _,_| .any,_=>by simp[V.ok]
theorem V.z6A {f g f' g':Nat→Bool} (hf:∀n,f n=true→f' n=true) (hg:∀n,g n=true→g' n=true):∀xs:List V,V.oks f g xs=true→V.oks f' g' xs=true
 | [],_=>rfl
 |x::xs,h=>by simp only[V.oks,Bool.and_eq_true]at h ⊢;exact⟨V.q7o hf hg x h.1,V.z6A hf hg xs h.2⟩
end
theorem V.z4v {f g f' g':Nat→Bool} (hf:∀n,f n=true→f' n=true) (hg:∀n,g n=true→g' n=true):∀xs:List (C × V),V.q0p f g xs=true→V.q0p f' g' xs=true
 | [],_=>rfl
 |x::xs,h=>by simp only[V.q0p,Bool.and_eq_true]at h ⊢;exact⟨V.q7o hf hg x.2 h.1,V.z4v hf hg xs h.2⟩
theorem O.q7o {f g f' g':Nat→Bool} (hf:∀n,f n=true→f' n=true) (hg:∀n,g n=true→g' n=true) (o:O) (h:o.ok f g=true):o.ok f' g'=true:=by
 cases o with
 |box x=>exact V.q7o hf hg x h
 |map=>exact V.z4v hf hg _ h
 |it=>rfl
 |dead=>rfl
structure Sub (Γ Γ':G) (f g:Nat→Bool):Prop where
 oo:Γ'.oo=Γ.oo
 σ:Γ'.σ=Γ.σ
 H:Γ'.H=Γ.H
 Z:Γ'.Z=Γ.Z
 gl:Γ'.gl=Γ.gl
 ιg:∀k,Γ'.ι (.g k)=Γ.ι (.g k)
 ιl:∀n,f n=true→Γ'.ι (.l n)=Γ.ι (.l n)
 τ:∀t,g t=true→Γ'.τ t=Γ.τ t
 κ:∀b k p sz,Γ.κ b=some (.home k p,sz)→Γ'.κ b=Γ.κ b
variable {Γ':G} {f g:Nat→Bool}
mutual
theorem q8.sub (hs:Sub Γ Γ' f g) {hm:Option Key}:∀(x:V) {p:List Nat} {vs:List Value},x.ok f g=true→q8 Γ hm p x vs→q8 Γ' hm p x vs
 | .d _ _,_,_,_,h=>by simp only[q8]at h ⊢;rw[hs.H];exact h
 | .sl eb e cs t,_,_,ho,h=>by
  simp only[q8]at h ⊢
  obtain⟨a,n,cap,h1,h2,x,L,h3,h4⟩:=h
  exact⟨a,n,cap,h1,by rw[hs.H];exact h2,x,L,by rw[hs.τ t (by simpa[V.ok]using ho)];exact h3,h4⟩
 | .ts eb e cs,_,_,_,h=>by
  simp only[q8]at h ⊢
  obtain⟨a,n,cap,k,h0,h1,h2,h3⟩:=h
  refine⟨a,n,cap,k,h0,h1,by rw[hs.H];exact h2,?_⟩
  rcases h3 with h3|⟨b,l,sz,a1,a2,a3,a4,a5⟩
  ·exact .inl h3
  ·exact .inr ⟨b,l,sz,a1,by rw[hs.H];exact a2,a3,by rw[hs.κ b k _ sz a4];exact a4,a5⟩
 | .emp _ _,_,_,_,h=>by simpa only[q8]using h
 | .nilc,_,_,_,h=>by simpa only[q8]using h
 | .ptr (.l k) q τ,_,_,ho,h=>by
  simp only[q8]at h ⊢
  rw[hs.ιl k (by simpa[V.ok]using ho)];exact h
 | .ptr (.g k) q τ,_,_,_,h=>by
  simp only[q8]at h ⊢
  rw[hs.ιg];exact h
 | .cptr τ c,_,_,_,h=>by
  simp only[q8]at h ⊢
  rw[hs.H];exact h
 | .sr (.l k) _ _ _ _ _ _,_,_,ho,h=>by
  simp only[q8]at h ⊢
  rw[hs.ιl k (by simpa[V.ok]using ho),hs.σ];exact h
 | .sr (.g k) _ _ _ _ _ _,_,_,_,h=>by
  simp only[q8]at h ⊢
  rw[hs.ιg,hs.σ];exact h
 | .mp (.l k),_,_,ho,h=>by
  simp only[q8]at h ⊢
  rw[hs.ιl k (by simpa[V.ok]using ho)];exact h
 | .mp (.g k),_,_,_,h=>by
  simp only[q8]at h ⊢
  rw[hs.ιg];exact h
 | .agg τ xs,_,_,ho,h=>by
  simp only[q8]at h ⊢
  exact⟨h.1,h.2.1,h.2.2.1,h.2.2.2.1,y4.sub hs xs (by simpa[V.ok]using ho) h.2.2.2.2⟩
 | .fn _ caps,_,_,ho,h=>by
  simp only[q8]at h ⊢
  obtain⟨cv,h1,h2⟩:=h
  exact⟨cv,h1,y9.sub hs caps (by simpa[V.ok]using ho) h2⟩
 | .tup _,_,_,_,h=>by simp only[q8]at h
 | .top _,_,_,_,h=>by simpa only[q8]using h
 | .any,_,_,_,_=>by simp only[q8]
theorem y4.sub (hs:Sub Γ Γ' f g) {hm:Option Key}:∀(xs:List V) {p:List Nat} {i:Nat} {τ:Ty} {vs:List Value},V.oks f g xs=true→y4 Γ hm p i τ xs vs→y4 Γ' hm p i τ xs vs
 | [],_,_,_,_,_,_=>by simp only[y4]
 |x::xs,_,_,_,_,ho,h=>by
  simp only[y4]at h ⊢
  simp only[V.oks,Bool.and_eq_true]at ho
  obtain⟨⟨o,ff,h1,h2,h3,h4⟩,h5⟩:=h
  exact⟨⟨o,ff,h1,h2,h3,q8.sub hs x ho.1 h4⟩,y4.sub hs xs ho.2 h5⟩
theorem y9.sub (hs:Sub Γ Γ' f g):∀(xs:List V) {vs:List Value},V.oks f g xs=true→y9 Γ xs vs→y9 Γ' xs vs
 | [],_,_,h=>by simpa only[y9]using h
 |x::xs,_,ho,h=>by
  simp only[y9]at h ⊢
  simp only[V.oks,Bool.and_eq_true]at ho
  obtain⟨v,vs',h1,h2,h3,h4⟩:=h
  exact⟨v,vs',h1,q8.sub hs x ho.1 h2,h3,y9.sub hs xs ho.2 h4⟩
end
theorem q9.sub (hs:Sub Γ Γ' f g) {x:V} {v:Value} (ho:x.ok f g=true) (h:q9 Γ x v):q9 Γ' x v:=by
 cases x
 case any=>trivial
 case tup us=>obtain⟨vs,h1,h2⟩:=h;exact⟨vs,h1,y9.sub hs _ (by simpa[V.ok]using ho) h2⟩
 all_goals exact⟨q8.sub hs _ ho h.1,h.2⟩
theorem z6C {f g:Nat→Bool}:∀{es:List (C × V)} {i:Nat} {c:C × V},V.q0p f g es=true→es[i]? =some c→c.2.ok f g=true
 | [],_,_,_,h=>by simp at h
 |x::xs,0,c,h,hc=>by simp[V.q0p]at h;simp at hc;subst hc;exact h.1
 |x::xs,i+1,c,h,hc=>by simp[V.q0p]at h;exact z6C h.2 (by simpa using hc)
theorem z0Q:∀{l:List Ty} {i:Nat} {t:Ty},Ty.q7l l=true→l[i]? =some t→t.Y5=true
 | [],_,_,_,h=>by cases h
 |x::l,0,t,h,hi=>by
  simp only[Ty.q7l,Bool.and_eq_true]at h
  simp at hi;subst hi;exact h.1
 |x::l,i+1,t,h,hi=>by
  simp only[Ty.q7l,Bool.and_eq_true]at h
  exact z0Q h.2 (by simpa using hi)
theorem z6r {τ f:Ty} {i o:Nat} (h:τ.Y5=true) (hc:τ.child i=some (o,f)):f.Y5=true:=by
 cases τ with
 |struct sz os fs=>
  simp only[Ty.child]at hc
  split at hc
  ·rename_i o' f' h1 h2
   cases hc
   exact z0Q (by simpa only[Ty.Y5]using h) h2
  ·cases hc
 |arr n e=>
  simp only[Ty.child]at hc
  split at hc
  ·cases hc;simpa only[Ty.Y5]using h
  ·cases hc
 |_=>cases hc
mutual
theorem q8.plain (hH:Γ'.H=Γ.H) {hm:Option Key}:∀(x:V) {p:List Nat} {vs:List Value},x.ty.Y5=true→q8 Γ hm p x vs→q8 Γ' hm p x vs
 | .d _ _,_,_,_,h=>by simp only[q8]at h ⊢;rw[hH];exact h
 | .top _,_,_,_,h=>by simpa only[q8]using h
 | .agg τ xs,p,vs,ht,h=>by
  simp only[q8]at h ⊢
  exact⟨h.1,h.2.1,h.2.2.1,h.2.2.2.1,y4.plain hH xs ht h.2.2.2.2⟩
 | .sl ..,_,_,ht,_=>by simp[V.ty,Ty.Y5]at ht
 | .ts ..,_,_,ht,_=>by simp[V.ty,Ty.Y5]at ht
 | .emp ..,_,_,ht,_=>by simp[V.ty,Ty.Y5]at ht
 | .nilc,_,_,ht,_=>by simp[V.ty,Ty.Y5]at ht
 | .ptr ..,_,_,ht,_=>by simp[V.ty,Ty.Y5]at ht
 | .cptr ..,_,_,ht,_=>by simp[V.ty,Ty.Y5]at ht
 | .sr ..,_,_,ht,_=>by simp[V.ty,Ty.Y5]at ht
 | .mp ..,_,_,ht,_=>by simp[V.ty,Ty.Y5]at ht
 | .fn ..,_,_,ht,_=>by simp[V.ty,Ty.Y5]at ht
 | .tup ..,_,_,ht,_=>by simp[V.ty,Ty.Y5]at ht
 | .any,_,_,ht,_=>by simp[V.ty,Ty.Y5]at ht
theorem y4.plain (hH:Γ'.H=Γ.H) {hm:Option Key} {p:List Nat}:∀(xs:List V) {i:Nat} {τ:Ty} {vs:List Value},τ.Y5=true→y4 Γ hm p i τ xs vs→y4 Γ' hm p i τ xs vs
 | [],_,_,_,_,_=>by simp[y4]
 |x::xs,i,τ,vs,ht,h=>by
  simp only[y4]at h ⊢
  obtain⟨⟨o,f,h1,h2,h3,h4⟩,h5⟩:=h
  exact⟨⟨o,f,h1,h2,h3,q8.plain hH x (by rw[h2];exact z6r ht h1) h4⟩,y4.plain hH xs ht h5⟩
end
def O.okP (f g:Nat→Bool):O→Bool
 | .map _ vτ es=>vτ.Y5||V.q0p f g es
 |o=>o.ok f g
theorem O.y5l {f g:Nat→Bool} {o:O} (h:o.ok f g=true):o.okP f g=true:=by
 cases o with
 |map=>exact Bool.or_eq_true_iff.2 (.inr h)
 |_=>exact h
theorem Own.sub (hs:Sub Γ Γ' f g) {w:World} {k:Key} {o:O} (hk:Γ'.ι k=Γ.ι k) (ho:o.okP f g=true) (h:Own Γ w k o):Own Γ' w k o:=by
 cases o with
 |box x=>
  obtain⟨b,cells,T,h1,h2,h3,h4,h5,h6,h7⟩:=h
  exact⟨b,cells,T,by rw[hk];exact h1,by rw[hs.H];exact h2,by rw[hs.Z];exact h3,h4,h5,q8.sub hs x ho h6,h7⟩
 |map kτ vτ es=>
  obtain⟨b,ms,clock,h1,h2,h3,h4,h5,h6,h7⟩:=h
  refine⟨b,ms,clock,by rw[hk];exact h1,by rw[hs.H];exact h2,by rw[hs.Z];exact h3,h4,h5,fun i m c hm hc=>?_,h7⟩
  obtain⟨a1,a2,a3,a4⟩:=h6 i m c hm hc
  simp only[O.okP,Bool.or_eq_true]at ho
  rcases ho with ho|ho
  ·exact⟨by rw[hs.H];exact a1,a2,q8.plain hs.H _ (by rw[a4.2.1];exact ho) a3,a4⟩
  ·exact⟨by rw[hs.H];exact a1,a2,q8.sub hs _ (z6C ho hc) a3,a4⟩
 |it l pos=>
  obtain⟨b,adr,v,h1,h2,h3,h4,h5,h6,h7⟩:=h
  refine⟨b,adr,v,by rw[hk];exact h1,by rw[hs.H];exact h2,by rw[hs.Z];exact h3,h4,h5,h6,?_⟩
  rcases h7 with h7|⟨g,cap,g1,g2,g3,g4⟩
  ·exact .inl h7
  ·exact .inr ⟨g,cap,g1,by rw[hs.H];exact g2,by rw[hs.κ g _ _ _ g3];exact g3,g4⟩
 |dead τ=>
  obtain⟨b,h1,h4⟩:=h
  exact⟨b,by rw[hk];exact h1,h4⟩
theorem Own.u2 {w:World} {k:Key} {o o':O} (hi:O.u2 o o') (h:Own Γ w k o):Own Γ w k o':=by
 cases o' with
 |dead τ=>
  have e:τ=o.ty:=by cases o <;> exact hi
  obtain⟨b,τ',h1,_,h4,h5⟩:=h.block
  exact⟨b,by rw[e,←h5];exact h1,h4⟩
 |box y=>cases o with
  |box x=>
   obtain⟨b,cells,T,h1,h2,h3,h4,h5,h6,h7,h8⟩:=h
   obtain⟨i1,ht,i2,i3⟩:=hi
   obtain⟨r1,_⟩:=q8.u2 y x i1 h6
   exact⟨b,cells,T,by rw[ht];exact h1,h2,h3,h4,by rw[ht];exact h5,by rw[ht];exact r1,i2,i3⟩
  |_=>exact hi.elim
 |map kτ vτ es=>cases o with
  |map=>obtain⟨rfl,rfl,rfl⟩:=hi;exact h
  |_=>exact hi.elim
 |it l p=>cases o with
  |it=>obtain⟨rfl,rfl⟩:=hi;exact h
  |_=>exact hi.elim
theorem O.y1z {o o':O} (hi:O.u2 o o') (h:o.q6M):o'.q6M:=by
 cases o' with
 |dead=>trivial
 |box y=>cases o with
  |box x=>
   obtain⟨e,rfl⟩:=h
   obtain⟨i1,_,i2,_⟩:=hi
   cases y <;> simp only[V.u2,V.plain,reduceCtorEq,or_self,Bool.false_eq_true]at i1 i2
   obtain⟨h1,rfl⟩:=i1
   simp only[s7,Option.some.injEq]at h1
   subst h1
   exact⟨e,rfl⟩
  |_=>exact hi.elim
 |map kτ vτ es=>cases o with
  |map=>exact h.elim
  |_=>exact hi.elim
 |it l p=>cases o with
  |it=>exact h.elim
  |_=>exact hi.elim
theorem O.z4K {o o':O} (hi:O.u2 o o') (h:o.Y6=true):o'.Y6=true:=by
 cases o <;> simp[O.Y6]at h
 cases o' <;> first|rfl|exact hi.elim
end
end Go.E
namespace Go.E
open Go
def q2A (s:S):List (Key × O)→Prop
 | []=>True
 |(k,o)::l=>(match s.obj k with|some o0=>O.u2 o0 o|none=>False)∧q2A s l
def q0f (τ:Ty):List (C × V)→Bool
 | []=>true
 |(_,v)::l=>(match v with| .d τ' _=>Ty.beq τ' τ|_=>false)&&q0f τ l
theorem z7U {f g:Nat→Bool} {τ:Ty}:∀{es:List (C × V)},q0f τ es=true→V.q0p f g es=true
 | [],_=>rfl
 |(_,v)::l,h=>by
  simp only[q0f,Bool.and_eq_true]at h
  simp only[V.q0p,Bool.and_eq_true]
  refine⟨?_,z7U h.2⟩
  cases v <;> simp at h
  rfl
def O.okB (f g:Nat→Bool):O→Bool
 | .map _ vτ es=>vτ.Y5||q0f vτ es
 |o=>o.ok f g
theorem O.y5m {f g:Nat→Bool} {o:O} (h:o.okB f g=true):o.okP f g=true:=by
 cases o with
 |map kτ vτ es=>
  simp only[O.okB,O.okP,Bool.or_eq_true]at h ⊢
  exact h.imp id z7U
 |_=>exact h
def q0z (f g:Nat→Bool):List (Key × O)→Bool
 | []=>true
 |(_,o)::l=>o.okB f g&&q0z f g l
def q6e (L:List (Key × O)) (A:Key→Option O):List (Key × O)→Prop
 | []=>True
 |(.g k,o)::l=>((z6 L (.g k)).isSome=true∨A k=some o)∧q6e L A l
 |(.l _,_)::l=>q6e L A l
def q5d (f g:Nat→Bool) (s:S):List (Nat × V)→Prop
 | []=>True
 |(i,x)::l=>V.u2 (s.get i) x∧x.ok f g=true∧(x= .any∨x.ty.isAgg=(s.get i).ty.isAgg)∧q5d f g s l
def tkW (s:S):List (Nat × Option Nat)→Prop
 | []=>True
 |(t,x)::l=>(match x with|some L=>s.live t=some L|none=>s.known t=true)∧tkW s l
theorem q6D {s:S}:∀{l:List (Key × O)} {k:Key} {o:O},q2A s l→z6 l k=some o→∃o0,s.obj k=some o0∧O.u2 o0 o
 | [],_,_,_,h=>by simp[z6]at h
 |(j,p)::l,k,o,hw,h=>by
  simp only[z6]at h
  split at h
  ·rename_i e
   cases h;subst e
   have:=hw.1
   split at this
   ·rename_i o0 ho;exact⟨o0,ho,this⟩
   ·exact this.elim
  ·exact q6D hw.2 h
theorem z2A {f g:Nat→Bool}:∀{l:List (Key × O)} {k:Key} {o:O},q0z f g l=true→z6 l k=some o→o.okP f g=true
 | [],_,_,_,h=>by simp[z6]at h
 |(j,p)::l,k,o,hw,h=>by
  simp only[z6]at h
  simp only[q0z,Bool.and_eq_true]at hw
  split at h
  ·cases h;exact O.y5m hw.1
  ·exact z2A hw.2 h
theorem q92 {L:List (Key × O)} {A:Key→Option O}:∀{l:List (Key × O)} {k:Key} {o:O},q6e L A l→z6 l (.g k)=some o→(z6 L (.g k)).isSome=true∨A k=some o
 | [],_,_,_,h=>by simp[z6]at h
 |(.l j,p)::l,k,o,hw,h=>by simp[z6]at h;exact q92 (l:=l) hw h
 |(.g j,p)::l,k,o,hw,h=>by
  simp only[z6]at h
  split at h
  ·rename_i e;cases e;cases h;exact hw.1
  ·exact q92 hw.2 h
theorem q9P {f g:Nat→Bool} {s:S}:∀{l:List (Nat × V)} {i:Nat} {x:V},q5d f g s l→look l i=some x→V.u2 (s.get i) x∧x.ok f g=true∧(x= .any∨x.ty.isAgg=(s.get i).ty.isAgg)
 | [],_,_,_,h=>by simp[look]at h
 |(j,y)::l,i,x,hw,h=>by
  simp only[look]at h
  split at h
  ·rename_i e;cases h;subst e;exact⟨hw.1,hw.2.1,hw.2.2.1⟩
  ·exact q9P hw.2.2.2 h
theorem z1e {s:S}:∀{l:List (Nat × Option Nat)} {t:Nat} {x:Option Nat},tkW s l→look l t=some x→match x with|some L=>s.live t=some L|none=>s.known t=true
 | [],_,_,_,h=>by simp[look]at h
 |(j,y)::l,t,x,hw,h=>by
  simp only[look]at h
  split at h
  ·rename_i e;cases h;subst e;exact hw.1
  ·exact z1e hw.2 h
section
variable {Γ:G} {w:World} {s:S}
theorem z0e {s':S} (hA:s'.A=s.A) (hg:q6e s'.loc s.A s.loc) {k:Key} (h:z6 s'.loc (.g k)=none):s'.obj (.g k)=s.obj (.g k):=by
 unfold S.obj c3
 rw[h]
 simp only
 cases ho:z6 s.loc (.g k)with
 |none=>rw[hA]
 |some o=>
  rcases q92 hg ho with h1|h1
  ·rw[h]at h1;cases h1
  ·rw[hA];exact h1
theorem z8.sub (c:z8 Γ w s) {Γ':G} {f g:Nat→Bool} {s':S} (hs:Sub Γ Γ' f g) (hf:f=j9 s'.loc) (hι:∀n,f n=false→Γ'.ι (.l n)=none) (hA:s'.A=s.A) (hAok:AOk s.A)
  (hloc:q2A s s'.loc) (hlok:q0z f g s'.loc=true) (hg:q6e s'.loc s.A s.loc)
  (hκ:∀b o sz,Γ'.κ b=some (o,sz)→∃o',Γ.κ b=some (o',sz)∧∀T,z1Q o' T→z1Q o T)
  (tok:∀t L,s'.live t=some L→∃x,Γ'.τ t=some (x,L)∧∀b pos sz,x=some (b,pos,sz)→(∃l,Γ.H b=some l∧l.length=pos)∧Γ'.κ b=some (.tok t,sz))
  (tdom:∀t,Γ'.τ t≠none→s'.known t=true):z8 Γ' w s':=by
 subst hf
 have hfl:∀n,j9 s'.loc n=true↔z6 s'.loc (.l n)≠none:=by
  intro n;unfold j9;cases z6 s'.loc (.l n) <;> simp
 have keyok:∀k o,s'.obj k=some o→Γ'.ι k=Γ.ι k:=by
  intro k o h
  cases k with
  |g k=>exact hs.ιg k
  |l n=>
   refine hs.ιl n ?_
   rw[hfl]
   unfold S.obj c3 at h
   intro e
   rw[e]at h;cases h
 refine⟨fun b l h=>c.hH b l (by rw[←hs.H];exact h),fun b o h=>c.hZ b o (by rw[←hs.Z];exact h),fun b o sz h=>?_,fun k o h=>?_,fun k h=>?_,fun k k' b τ τ' h1 h2=>?_,fun t L h=>?_,tdom,fun gg τ cc h=>?_,by rw[hs.oo];exact c.hoo,fun b sz h=>c.hσ b sz (by rw[←hs.σ];exact h)⟩
 ·obtain⟨o',h',hT⟩:=hκ b o sz h
  obtain⟨a1,a2,arr,T,a3,a4,a5⟩:=c.hκ b o' sz h'
  exact⟨by rw[hs.Z];exact a1,by rw[hs.H];exact a2,arr,T,a3,a4,hT T a5⟩
 ·have hk:=keyok k o h
  cases hl:z6 s'.loc k with
  |some o1=>
   have:o1=o:=by unfold S.obj c3 at h;rw[hl]at h;cases h;rfl
   subst this
   obtain⟨o0,ho,hi⟩:=q6D hloc hl
   exact(c.obj k o0 ho).imp (fun h=>⟨hk.trans h.1,O.y1z hi h.2⟩) fun hown=>(hown.u2 hi).sub hs hk (z2A hlok hl)
  |none=>
   cases k with
   |l n=>unfold S.obj c3 at h;rw[hl]at h;cases h
   |g k=>
    have h':s.obj (.g k)=some o:=by rw[←z0e hA hg hl];exact h
    have hAk:s.A k=some o:=by
     have h2:s'.A k=some o:=by unfold S.obj c3 at h;rw[hl]at h;exact h
     rw[←hA];exact h2
    exact(c.obj _ o h').imp (fun h=>⟨hk.trans h.1,h.2⟩) fun hown=>hown.sub hs hk (O.y5l (O.q7o (by simp[c8]) (by simp[c8]) o (hAok k o hAk)))
 ·cases k with
  |l n=>
   cases hh:j9 s'.loc n with
   |false=>exact absurd (hι n hh) h
   |true=>
    have:=(hfl n).1 hh
    unfold S.obj c3
    cases hl:z6 s'.loc (.l n)with
    |none=>exact absurd hl this
    |some o=>simp
  |g k=>
   rw[hs.ιg]at h
   have:=c.dom _ h
   cases hl:z6 s'.loc (.g k)with
   |some o=>unfold S.obj c3;rw[hl];simp
   |none=>rw[z0e hA hg hl];exact this
 ·have back:∀k x,Γ'.ι k=some x→Γ.ι k=some x:=by
   intro k x h
   cases k with
   |g k=>rw[←hs.ιg];exact h
   |l n=>
    cases hh:j9 s'.loc n with
    |false=>rw[hι n hh]at h;cases h
    |true=>rw[←hs.ιl n hh];exact h
  have hdead:∀k x,Γ'.ι k=some x→s.o6 k=true→s'.o6 k=true:=by
   intro k x hx h
   cases hl:z6 s'.loc k with
   |some o1=>
    obtain⟨o0,ho,hi⟩:=q6D hloc hl
    rw[j6 ho]at h
    have e:s'.obj k=some o1:=by unfold S.obj c3;rw[hl]
    rw[j6 e]
    exact O.z4K hi h
   |none=>
    cases k with
    |g k=>unfold S.o6 at h ⊢;rw[z0e hA hg hl];exact h
    |l n=>
     cases hh:j9 s'.loc n with
     |false=>rw[hι n hh]at hx;cases hx
     |true=>exact absurd hl ((hfl n).1 hh)
  exact(c.inj k k' b τ τ' (back _ _ h1) (back _ _ h2)).imp id (And.imp (Or.imp (hdead _ _ h1) (hdead _ _ h2)) id)
 ·obtain⟨x,a1,a2⟩:=tok t L h
  refine⟨x,a1,fun b pos sz hx=>?_⟩
  obtain⟨a3,a4⟩:=a2 b pos sz hx
  exact⟨by rw[hs.H];exact a3,a4⟩
 ·rw[hs.H];exact c.hgl gg τ cc (by rw[←hs.gl];exact h)
end
def G.part (Γ:G) (f g:Nat→Bool):G:=
 {Γ with ι:=fun k=>match k with| .l n=>if f n then Γ.ι (.l n)else none| .g k=>Γ.ι (.g k),τ:=fun t=>if g t then Γ.τ t else none}
theorem z8A {X:Cx} {n:Nat} {s s':S} (hA:s'.A=s.A) (hloc:q2A s s'.loc) (hlok:q0z (j9 s'.loc) (W0 s'.tk) s'.loc=true) (hg:q6e s'.loc s.A s.loc)
  (htk:tkW s s'.tk) (henv:q5d (j9 s'.loc) (W0 s'.tk) s s'.env):q0g X n s s':=by
 rintro Γ0 a w ⟨Γ,g1,g3,c,hs,hn,hf,hAok⟩
 have sub:Sub Γ (Γ.part (j9 s'.loc) (W0 s'.tk)) (j9 s'.loc) (W0 s'.tk):=
  ⟨rfl,rfl,rfl,rfl,rfl,fun _=>rfl,fun n h=>by simp[G.part,h],fun t h=>by simp[G.part,h],fun _ _ _ _ _=>rfl⟩
 refine⟨Γ.part (j9 s'.loc) (W0 s'.tk),⟨g1.H,g1.Z,g1.ZH,g1.g,g1.gl,g1.oo,g1.σ,g1.gn⟩,g3,c.sub sub rfl (fun n h=>by simp[G.part,h]) hA hAok hloc hlok hg (fun b o sz h=>⟨o,h,fun _ h=>h⟩) (fun t L h=>?_) (fun t h=>?_),fun i=>?_,hn,hf,by rw[hA];exact hAok⟩
 ·unfold S.live H7 at h
  cases hl:look s'.tk t with
  |none=>simp[hl]at h
  |some x=>
   cases x with
   |none=>simp[hl]at h
   |some M=>
    simp[hl]at h;subst h
    have hlive:s.live t=some M:=z1e htk hl
    obtain⟨x,a1,a2⟩:=c.tok t M hlive
    exact⟨x,by simp[G.part,W0,hl,a1],fun b pos sz hx=>a2 b pos sz hx⟩
 ·cases hh:W0 s'.tk t with
  |true=>exact hh
  |false=>simp[G.part,hh]at h
 ·cases hl:look s'.env i with
  |none=>simp[S.get,hl,q9]
  |some x=>
   obtain⟨e1,e2,e3⟩:=q9P henv hl
   have hget:s'.get i=x:=by simp[S.get,hl]
   rw[hget]
   by_cases hx:x= .any
   ·subst hx;trivial
   ·have hr:=hs i
    have e3:=e3.resolve_left hx
    refine q9.sub sub e2 ?_
    cases hsi:s.get i with
    |any=>
     rw[hsi]at e1
     cases x <;> simp[V.u2,s7]at e1 hx
    |tup us=>
     rw[hsi]at e1 hr
     cases x <;> simp[V.u2,s7]at e1 hx
     subst e1;exact hr
    |_=>
     rw[hsi]at e1 hr e3
     have hpl:q8 Γ none [] _ (a.tmps.getD i undef).cells.toList∧_:=hr
     obtain⟨r1,r2⟩:=q8.u2 x _ e1 hpl.1
     have hxp:=V.q13 r1 hx
     exact(y8 hxp).2 ⟨r1,by rw[e3];exact hpl.2⟩
end Go.E
namespace Go.E
open Go
def q7R (X:Cx) (s:S) (r:ResultVar):V:=
 match r with
 | .tmp t=>s.get t
 | .cell a t=>(match s.get a with
   | .ptr k q τ=>(match s.obj k with
     |some (.box y)=>view (y.at q)
     |_=>.any)
   |_=>.any)
def q1i (X:Cx) (s:S):List ResultVar→List V
 | []=>[]
 |r::rs=>q7R X s r::q1i X s rs
def q69 (X:Cx) (s:S) (r:ResultVar):Prop:=
 match r with
 | .tmp _=>True
 | .cell a t=>(match s.get a with
   | .ptr k q τ=>(match s.obj k with
     |some (.box y)=>τ=ty X.P t∧τ.known=true∧y.at q≠.any
     |_=>False)
   |_=>False)
def q5B (X:Cx) (s:S):List ResultVar→Prop
 | []=>True
 |r::rs=>q69 X s r∧q5B X s rs
def H4 (s:S) (f:Nat→Bool) (x:V) (v:V):Prop:=
 match v with
 | .ts eb e cs=>(match x with
  | .sl eb' e' cs' t=>eb'=eb∧e'=e∧cs'=cs∧s.live t=some cs.length
  | .emp eb' e'=>eb'=eb∧e'=e∧cs=[]
  | .nilc=>cs=[]
  |_=>False)
 |v=>V.u2 x v∧v.ok f c8=true∧v.plain=true∧v.ty.isAgg=x.ty.isAgg
def F1 (s:S) (f:Nat→Bool):List V→List V→Prop
 | [],[]=>True
 |x::xs,v::vs=>H4 s f x v∧F1 s f xs vs
 |_,_=>False
def q7Q:List V→V→Option (List V)
 | [_],v=>some [v]
 |_,.tup vs=>some vs
 |_,_=>none
def q0L:Nat→List V→List V→List (Nat × Option Nat)
 |m,x::xs,v::vs=>(match v,x with
  | .ts _ _ _,.sl _ _ _ t=>[(m,some t)]
  | .ts _ _ _,_=>[(m,none)]
  |_,_=>[])++q0L (m+1) xs vs
 |_,_,_=>[]
def q3h:List (Nat × Option Nat)→List Nat
 | []=>[]
 |(_,some t)::l=>t::q3h l
 |(_,none)::l=>q3h l
def z5B (X:Cx) (fn:Func) (A:Key→Option O) (v:V) (L:List (Key × O)) (s:S):Prop:=
 s.A=A∧q2A s L∧q0z (j9 L) c8 L=true∧q6e L A s.loc∧q5B X s fn.results.toList∧
  (match q7Q (q1i X s fn.results.toList) v with
   |some vs=>F1 s (j9 L) (q1i X s fn.results.toList) vs∧q0r (q3h (q0L 2000 (q1i X s fn.results.toList) vs))=true
   |none=>False)
def q7n:List (Nat × Option Nat)→Nat→Option Nat
 | [],_=>none
 |(m,some t)::l,u=>if t=u then some m else q7n l u
 |(_,none)::l,u=>q7n l u
theorem q7V:∀{l:List (Nat × Option Nat)} {m t:Nat},q0r (q3h l)=true→look l m=some (some t)→q7n l t=some m
 | [],_,_,_,h=>by simp[look]at h
 |(j,y)::l,m,t,hn,h=>by
  simp only[look]at h
  split at h
  ·rename_i e;cases h;subst e;simp[q7n]
  ·cases y with
   |none=>exact q7V (l:=l) hn h
   |some u=>
    simp only[q3h,q0r,Bool.and_eq_true,Bool.not_eq_true']at hn
    have ih:=q7V hn.2 h
    have hne:u≠t:=by
     intro e;subst e
     have hm:∀{l:List (Nat × Option Nat)} {m:Nat},look l m=some (some u)→u∈q3h l:=by
      intro l
      induction l with
      |nil=>intro m h;simp[look]at h
      |cons z l ih=>
       obtain⟨j',y'⟩:=z
       intro m h
       simp only[look]at h
       split at h
       ·cases h;simp[q3h]
       ·cases y' with
        |none=>exact ih h
        |some t'=>simp[q3h,ih h]
     have:=hm h
     simp[this]at hn
    simp[q7n,hne,ih]
def G.fin (Γ:G) (f:Nat→Bool) (pairs:List (Nat × Option Nat)):G:=
 {Γ with
  ι:=fun k=>match k with| .l n=>if f n then Γ.ι (.l n)else none| .g k=>Γ.ι (.g k)
  τ:=fun m=>match look pairs m with
   |some (some t)=>Γ.τ t
   |some none=>some (none,0)
   |none=>none
  κ:=fun b=>match Γ.κ b with
   |some (.tok t,sz)=>match q7n pairs t with
    |some m=>some (.tok m,sz)
    |none=>none
   |x=>x}
theorem q5l:∀{n:Nat} {xs vs:List V} {m:Nat},look (q0L n xs vs) m=if n≤m then(match xs[m-n]?,vs[m-n]? with
  |some (.sl _ _ _ t),some (.ts _ _ _)=>some (some t)
  |some _,some (.ts _ _ _)=>some none
  |_,_=>none)else none
 |n,[],vs,m=>by simp[q0L,look]
 |n,x::xs,[],m=>by simp only[q0L,look];split <;> simp
 |n,x::xs,v::vs,m=>by
  simp only[q0L,q0V]
  have ih:=q5l (n:=n+1) (xs:=xs) (vs:=vs) (m:=m)
  by_cases h1:n=m
  ·subst h1
   have hr:look (q0L (n+1) xs vs) n=none:=by rw[ih,if_neg (by omega)]
   cases v <;> cases x <;> simp[look,hr]
  ·have h0:look (match v,x with
     | .ts _ _ _,.sl _ _ _ t=>[(n,some t)]
     | .ts _ _ _,_=>[(n,none)]
     |_,_=>[]) m=none:=by
    cases v <;> cases x <;> simp[look,h1]
   rw[h0,ih]
   by_cases h2:n≤m
   ·rw[if_pos h2,if_pos (by omega),show m-n=(m-(n+1))+1 by omega]
    simp only[List.getElem?_cons_succ]
   ·rw[if_neg h2,if_neg (by omega)]
section
variable {X:Cx} {n:Nat} {s:S}
def q4L (a:Act):ResultVar→Sem Value
 | .tmp t=>pure (a.tmps.getD t undef)
 | .cell b t=>do loadVar t (←asAddr (a.tmps.getD b undef))
theorem z9D (fn:Func) (a:Act):results fn a.tmps=(do
  let vs ←fn.results.mapM (q4L a)
  pure (if h:vs.size=1 then vs[0]else .tuple vs)):=by
 unfold results
 congr 2
theorem z9A (hP:x4 X.P=true) {Γ:G} {w:World} {a:Act} (c:z8 Γ w s) (hs:q1u Γ s a.tmps) {r:ResultVar} (hch:q69 X s r):
  ∃v,(q4L a r).run X.P w= .ok v w∧q9 Γ (q7R X s r) v:=by
 cases r with
 |tmp t=>exact⟨_,rfl,hs t⟩
 |cell b t=>
  have hb:=hs b
  simp only[q69]at hch
  split at hch
  ·rename_i k q τ hk
   rw[hk]at hb
   split at hch
   ·rename_i y hy
    obtain⟨u,h1,h2⟩:=z1z hP c hb hy hch.2.2 hch.1 hch.2.1
    obtain⟨b',τ0,o,_,_,hv⟩:=X9 hb
    refine⟨u,?_,?_⟩
    ·rw[hv]at h1
     simp only[q4L,hv]
     simpa[Instr.loadAt,Instr.sureAddr,asAddr]using h1
    ·simp only[q7R,hk,hy]
     exact h2
   ·exact hch.elim
  ·exact hch.elim
theorem z0K (hP:x4 X.P=true) {Γ:G} {w:World} {a:Act} (c:z8 Γ w s) (hs:q1u Γ s a.tmps):∀(rs:List ResultVar),q5B X s rs→
  ∃vs:List Value,(rs.mapM (q4L a)).run X.P w= .ok vs w∧vs.length=rs.length∧
   ∀(i:Nat) x v,(q1i X s rs)[i]? =some x→vs[i]? =some v→q9 Γ x v
 | [],_=>⟨[],by simp,rfl,by simp[q1i]⟩
 |r::rs,hpl=>by
  simp only[q5B]at hpl
  obtain⟨v,h1,h2⟩:=z9A hP c hs hpl.1
  obtain⟨vs,h3,h4,h5⟩:=z0K hP c hs rs hpl.2
  refine⟨v::vs,?_,by simp[h4],?_⟩
  ·rw[List.mapM_cons]
   simp only[Sem.run_bind]
   rw[h1]
   simp only[Result.andThen_ok,Sem.run_bind]
   rw[h3]
   simp
  ·intro i x u hx hu
   cases i with
   |zero=>simp[q1i]at hx hu;subst hx;subst hu;exact h2
   |succ i=>exact h5 i x u (by simpa[q1i]using hx) (by simpa using hu)
theorem z0L:∀(rs:List ResultVar),(q1i X s rs).length=rs.length
 | []=>rfl
 |r::rs=>by simp[q1i,z0L rs]
theorem q05 {f:Nat→Bool}:∀{xs vs:List V} {i:Nat} {v:V},F1 s f xs vs→vs[i]? =some v→∃x,xs[i]? =some x∧H4 s f x v
 | [],[],_,_,_,h=>by simp at h
 |x::xs,v::vs,0,v',hr,h=>by simp at h;subst h;exact⟨x,rfl,hr.1⟩
 |x::xs,v::vs,i+1,v',hr,h=>by
  obtain⟨y,h1,h2⟩:=q05 hr.2 (show vs[i]? =some v' by simpa using h)
  exact⟨y,by simpa using h1,h2⟩
 | [],_::_,_,_,hr,_=>by simp[F1]at hr
 |_::_,[],_,_,hr,_=>by simp[F1]at hr
theorem q9m {f:Nat→Bool}:∀{xs vs:List V},F1 s f xs vs→xs.length=vs.length
 | [],[],_=>rfl
 |x::xs,v::vs,h=>by simp[q9m h.2]
 | [],_::_,hr=>by simp[F1]at hr
 |_::_,[],hr=>by simp[F1]at hr
theorem z8a {Γ:G} {w:World} (c:z8 Γ w s) {f:Nat→Bool} {pairs:List (Nat × Option Nat)} {m:Nat} {x v:V} {u:Value} (hsub:Sub Γ (Γ.fin f pairs) f c8) (hr:q9 Γ x u) (hi:H4 s f x v)
  (hp:∀eb e cs,v= .ts eb e cs→match x with| .sl _ _ _ t=>look pairs m=some (some t)|_=>look pairs m=some none):q9 (Γ.fin f pairs) (v.slot m) u:=by
 have other:v.q6x=true→V.u2 x v∧v.ok f c8=true∧v.plain=true∧v.ty.isAgg=x.ty.isAgg→q9 (Γ.fin f pairs) (v.slot m) u:=by
  intro hn ⟨h1,h2,h3,h4⟩
  have hvs:v.slot m=v:=by cases v <;> simp[V.slot];simp[V.q6x]at hn
  rw[hvs]
  refine q9.sub hsub h2 ?_
  cases x with
  |any=>
   cases v <;> simp[V.u2,s7,V.plain]at h1 h3
  |tup us=>
   cases v <;> simp[V.u2,s7,V.plain]at h1 h3
  |_=>
   obtain⟨q1,q2⟩:=hr
   obtain⟨r1,_⟩:=q8.u2 v _ h1 q1
   exact(y8 h3).2 ⟨r1,by rw[h4];exact q2⟩
 cases v
 case ts eb e cs=>
  have hp:=hp eb e cs rfl
  simp only[H4]at hi
  cases x <;> simp only at hi hp
  case sl eb' e' cs' t=>
   obtain⟨rfl,rfl,rfl,hl⟩:=hi
   obtain⟨h1,_⟩:=(w4 rfl rfl).1 hr
   simp only[q8]at h1
   obtain⟨a,n,cap,hv,hrc,y,L,h2,h3,h4⟩:=h1
   simp at hv;subst hv
   simp only[V.slot]
   refine(w4 rfl rfl).2 ⟨?_,rfl⟩
   simp only[q8]
   exact⟨a,n,cap,rfl,hrc,y,L,by simp[G.fin,hp,h2],h3,h4⟩
  case emp eb' e'=>
   obtain⟨rfl,rfl,rfl⟩:=hi
   obtain⟨h1,_⟩:=(w4 rfl rfl).1 hr
   simp only[q8]at h1
   obtain⟨a,hv⟩:=h1
   simp at hv;subst hv
   simp only[V.slot]
   refine(w4 rfl rfl).2 ⟨?_,rfl⟩
   simp only[q8]
   exact⟨a,0,0,rfl,v8 rfl (Nat.le_refl _) (Nat.zero_le _) (by rw[Nat.zero_mul];exact Nat.zero_le _) (.inl rfl),none,0,by simp[G.fin,hp],Nat.le_refl _,fun _=>rfl⟩
  case nilc=>
   subst hi
   have hp2:look pairs m=some none:=by assumption
   rw[Q6 hr]
   simp only[V.slot]
   refine(w4 rfl rfl).2 ⟨?_,rfl⟩
   simp only[q8]
   exact⟨none,0,0,rfl,v8 rfl (Nat.le_refl _) (Nat.zero_le _) (by rw[Nat.zero_mul];exact Nat.zero_le _) (.inl rfl),none,0,by simp[G.fin,hp2],Nat.le_refl _,fun _=>rfl⟩
 all_goals exact other rfl (by simpa only[H4]using hi)
theorem y4P {Γ:G}:∀(xs:List V) (vs:List Value),xs.length=vs.length→(∀(i:Nat) x,xs[i]? =some x→x.plain=true)→(∀(i:Nat) x v,xs[i]? =some x→vs[i]? =some v→q9 Γ x v)→y9 Γ xs vs:=
 fun xs vs hl hp hr=>q5n hl fun i x v hx hv=>⟨hp i x hx,hr i x v hx hv⟩
theorem q8P:∀(xs:List V) (i j:Nat),look (q3X i xs) j=if i≤j then xs[j-i]? else none
 | [],i,j=>by simp[q3X,look]
 |x::xs,i,j=>by
  simp only[q3X,look,q8P xs (i+1) j]
  by_cases h1:i=j
  ·subst h1;simp
  ·rw[if_neg h1]
   by_cases h2:i≤j
   ·rw[if_pos h2,if_pos (by omega),show j-i=(j-(i+1))+1 by omega,List.getElem?_cons_succ]
   ·rw[if_neg h2,if_neg (by omega)]
theorem z7F (hP:x4 X.P=true) {f:FuncId} {fn:Func} {c:Code} {xs:List V} {A:Key→Option O} {v:V} {L:List (Key × O)}
  (hf:X.P.funcs[f]? =some fn) (hb:fn.body=some c) (hn:fn.ntmps=n) (hlen:xs.length≤n)
  (h:∀A',(∀k o,A k=some o→A' k=some o)→DC X n c (S.start xs A') fun e s'=>(e= .normal∨e= .ret)∧z5B X fn A' v L s'):Q2 X f xs A v L:=by
 intro A' Γ w args hAA hgl ⟨c0,hA0⟩ hargs hrep
 subst hn
 refine calls_of_wp hf hb ?_
 refine wp_mono (h A' hAA Γ {tmps:=args++Array.replicate (fn.ntmps-args.size) undef,defers:=[]} w ⟨Γ,.refl Γ,hgl,c0,?_,by simp;omega,rfl,hA0⟩) ?_
 ·intro i
  have hget:(S.start xs A').get i=((Y9 1000 xs)[i]?).getD .any:=by
   simp only[S.get,S.start,q8P,Nat.zero_le,if_true,Nat.sub_zero]
  rw[hget]
  cases hx:(Y9 1000 xs)[i]? with
  |none=>simp[q9]
  |some x=>
   have hi:i<args.size:=by rw[←hargs,←q5K 1000 xs];exact(List.getElem?_eq_some_iff.1 hx).1
   have hv:args[i]? =some args[i]:=Array.getElem?_eq_getElem hi
   have:=hrep i x _ hx hv
   rw[Array.getD_eq_getD_getElem?,Array.getElem?_append_left hi,hv]
   simpa using this
 ·rintro e a w' ⟨s',⟨he,hA,hL,hLok,hall,hch,hres⟩,Γ',g1,g3,c',hs,hn,hfr,hAok⟩
  obtain⟨us,hvs,hvl,hvr⟩:=z0K hP c' hs _ hch
  split at hres
  ·rename_i vs hretV
   obtain⟨hri,hnd⟩:=hres
   generalize hxs:q1i X s' fn.results.toList=rs at*
   have hrl:rs.length=fn.results.toList.length:=by rw[←hxs];exact z0L _
   have hsub:Sub Γ' (Γ'.fin (j9 L) (q0L 2000 rs vs)) (j9 L) c8:=
    ⟨rfl,rfl,rfl,rfl,rfl,fun _=>rfl,fun n h=>by simp[G.fin,h],fun t h=>by simp[c8]at h,fun b k p sz h=>by simp[G.fin,h]⟩
   have hvlen:=q9m hri
   have hul:us.length=rs.length:=by rw[hvl,hrl]
   -- what the places of the result's tokens are
   have htk:∀m,look (v.tkR 2000) m=if 2000≤m then(match vs[m-2000]? with|some (.ts _ _ cs)=>some (some cs.length)|_=>none)else none:=by
    intro m
    cases rs with
    |nil=>cases v <;> simp[q7Q]at hretV;subst hretV;simp only[V.tkR,q3f] <;> rfl
    |cons x1 rs1=>cases rs1 with
     |nil=>
      simp only[q7Q]at hretV
      cases hretV
      obtain⟨x',_,hi'⟩:=q05 hri (i:=0) (v:=v) rfl
      have hnt:v.tkR 2000=v.q0Q 2000:=by
       cases v <;> simp[V.tkR]
       simp[H4,V.plain]at hi'
      rw[hnt,z4n]
      by_cases hm:2000=m
      ·subst hm;simp;cases v <;> rfl
      ·rw[if_neg hm]
       by_cases hm2:2000≤m
       ·rw[if_pos hm2,show m-2000=(m-2001)+1 by omega];simp
       ·rw[if_neg hm2]
     |cons x2 rs2=>cases v <;> simp[q7Q]at hretV;subst hretV;simp only[V.tkR,q3f] <;> rfl
   have cfin:z8 (Γ'.fin (j9 L) (q0L 2000 rs vs)) w' (S.fin v L A'):=by
    refine c'.sub (s':=S.fin v L A') hsub rfl (fun n h=>by simp[G.fin,show j9 L n=false from h]) hA.symm hAok hL hLok (hA ▸ hall) (fun b o sz h=>?_) (fun m M h=>?_) (fun m h=>?_)
    ·simp only[G.fin]at h
     cases hk:Γ'.κ b with
     |none=>simp[hk]at h
     |some y=>
      obtain⟨o',sz'⟩:=y
      cases o' with
      |home k p=>simp[hk]at h;exact⟨_,by rw[h.2],fun T hT=>by rw[←h.1];exact hT⟩
      |tok t=>
       simp only[hk]at h
       split at h
       ·simp at h;exact⟨_,by rw[h.2],fun T _=>by rw[←h.1];trivial⟩
       ·cases h
    · -- a live token of the result
     have h:look (v.tkR 2000) m=some (some M):=by
      unfold S.live H7 at h
      change (match look (v.tkR 2000) m with|some (some L)=>some L|_=>none)=some M at h
      cases hl:look (v.tkR 2000) m with
      |none=>simp[hl]at h
      |some y=>cases y with
       |none=>simp[hl]at h
       |some M'=>simp[hl]at h;rw[h]
     rw[htk]at h
     by_cases hm:2000≤m
     ·rw[if_pos hm]at h
      cases hv:vs[m-2000]? with
      |none=>simp[hv]at h
      |some v1=>
       obtain⟨x1,hx1,hi1⟩:=q05 hri hv
       cases v1 <;> simp[hv]at h
       rename_i eb e cs
       subst h
       have hlook:=q5l (n:=2000) (xs:=rs) (vs:=vs) (m:=m)
       rw[if_pos hm,hx1,hv]at hlook
       simp only[H4]at hi1
       cases x1 <;> simp only at hi1 hlook
       ·obtain⟨rfl,rfl,rfl,hlive⟩:=hi1
        rename_i cs' t
        obtain⟨y,a1,a2⟩:=c'.tok t _ hlive
        refine⟨y,by simp[G.fin,hlook,a1],fun b pos sz hy=>?_⟩
        obtain⟨a3,a4⟩:=a2 b pos sz hy
        exact⟨a3,by simp[G.fin,a4,q7V hnd hlook]⟩
       ·obtain⟨rfl,rfl,rfl⟩:=hi1
        exact⟨none,by simp[G.fin,hlook],fun b pos sz h=>by cases h⟩
       ·subst hi1
        exact⟨none,by simp[G.fin,hlook],fun b pos sz h=>by cases h⟩
     ·rw[if_neg hm]at h;cases h
    · -- tokens known
     have:look (q0L 2000 rs vs) m≠none:=by
      intro e;simp[G.fin,e]at h
     rw[q5l]at this
     unfold S.known
     change (look (v.tkR 2000) m).isSome=true
     rw[htk]
     by_cases hm:2000≤m
     ·rw[if_pos hm]at this ⊢
      cases hv:vs[m-2000]? with
      |none=>rw[hv]at this;cases hx1:rs[m-2000]? with
       |none=>simp[hx1]at this
       |some x1=>simp[hx1]at this
      |some v1=>
       rw[hv]at this
       cases v1
       case ts=>rfl
       all_goals (exfalso;cases hx1:rs[m-2000]? with
        |none=>simp[hx1]at this
        |some x1=>simp[hx1]at this)
     ·rw[if_neg hm]at this;exact absurd rfl this
   have hres':(results fn a.tmps).run X.P w'= .ok (if h:us.length=1 then us[0]else .tuple us.toArray) w':=by
    have hmap:(fn.results.mapM (q4L a)).run X.P w'= .ok us.toArray w':=by
     rw[Array.mapM_eq_mapM_toList]
     simp only[Sem.run_map]at hvs ⊢
     rw[hvs]
     rfl
    rw[z9D]
    simp only[Sem.run_bind]
    rw[hmap]
    simp only[Result.andThen_ok,Sem.run_pure,List.size_toArray]
    split <;> simp
   have hone:∀(i:Nat) (v1:V) (u:Value),vs[i]? =some v1→us[i]? =some u→q9 (Γ'.fin (j9 L) (q0L 2000 rs vs)) (v1.slot (2000+i)) u:=by
    intro i v1 u hv1 hu
    obtain⟨x1,hx1,hi1⟩:=q05 hri hv1
    refine z8a c' hsub (hvr i x1 u hx1 hu) hi1 fun eb e cs hts=>?_
    subst hts
    have hlook:=q5l (n:=2000) (xs:=rs) (vs:=vs) (m:=2000+i)
    rw[if_pos (by omega),show 2000+i-2000=i by omega,hx1,hv1]at hlook
    simp only[H4]at hi1
    cases x1 <;> simp only at hi1 hlook ⊢ <;> exact hlook
   have hpl:∀(i:Nat) (x:V),(Y9 2000 vs)[i]? =some x→x.plain=true:=by
    intro i x hx
    rw[q4I]at hx
    cases hv1:vs[i]? with
    |none=>simp[hv1]at hx
    |some v1=>
     simp[hv1]at hx
     subst hx
     obtain⟨x1,_,hi1⟩:=q05 hri hv1
     cases v1 <;> simp only[H4]at hi1 <;> first|rfl|(exact hi1.2.2.1)
   have hrv:q9 (Γ'.fin (j9 L) (q0L 2000 rs vs)) (v.X1 2000) (if h:us.length=1 then us[0]else .tuple us.toArray):=by
    by_cases h1:us.length=1
    ·rw[dif_pos h1]
     cases rs with
     |nil=>rw[hul]at h1;simp at h1
     |cons x1 rs1=>cases rs1 with
      |nil=>
       simp only[q7Q]at hretV;cases hretV
       have:=hone 0 v us[0] rfl (List.getElem?_eq_getElem (by omega))
       have hsr:v.X1 2000=v.slot 2000:=by
        cases v <;> simp[V.X1]
        obtain⟨x',_,hi'⟩:=q05 hri (i:=0) rfl
        simp[H4,V.plain]at hi'
       rw[hsr];exact this
      |cons x2 rs2=>rw[hul]at h1;simp at h1
    ·rw[dif_neg h1]
     have hcap:y9 (Γ'.fin (j9 L) (q0L 2000 rs vs)) (Y9 2000 vs) us:=y4P _ _ (by rw[q5K];omega) hpl fun i x u hx hu=>by
      rw[q4I]at hx
      cases hv1:vs[i]? with
      |none=>simp[hv1]at hx
      |some v1=>simp[hv1]at hx;subst hx;exact hone i v1 u hv1 hu
     have hvt:v= .tup vs:=by
      cases rs with
      |nil=>cases v <;> simp[q7Q]at hretV;rw[hretV]
      |cons x1 rs1=>cases rs1 with
       |nil=>exact absurd hul h1
       |cons x2 rs2=>cases v <;> simp[q7Q]at hretV;rw[hretV]
     subst hvt
     exact⟨_,rfl,by simpa using hcap⟩
   have gfin:GLe Γ' (Γ'.fin (j9 L) (q0L 2000 rs vs)):=⟨Hp.le_refl _,rfl,fun _ _=>rfl,fun _ _ h=>h,rfl,rfl,fun _ _ h=>h,fun _ h=>h⟩
   rcases he with rfl|rfl
   ·exact⟨hfr,_,hres',_,_,rfl,g1.trans gfin,cfin,hrv⟩
   ·exact⟨hfr,_,hres',_,_,rfl,g1.trans gfin,cfin,hrv⟩
  ·exact hres.elim
end
end Go.E
