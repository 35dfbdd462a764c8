/-
 A framework for runs of Go code over abstract data: what it needs, and that it is sound, part 5.
 Conditions: none.
-/
import Derived.Test.YtoademomlabgnaaDoorEd
import Derived.ScopeJumps
import Derived.ProofKit
import Derived.LaidMore
import Derived.OpenShut
import Derived.Stop.Joined
import Derived.ChangeStays
import Derived.Deep.DeepHandedRow
import Derived.Lib.LaidTab
import Derived.LoopN
set_option linter.all false
namespace Go.E
open Go
def dep (ops:List Oper) (i j:Nat):Prop:=∃o,ops[i]? =some o∧∃e∈o.after,Region.binds .any e=true∧e.on=j
inductive Anc (ops:List Oper):Nat→Nat→Prop where
 |one {i j:Nat}:dep ops i j→Anc ops j i
 |step {i j k:Nat}:dep ops i k→Anc ops j k→Anc ops j i
theorem Anc.closed {ops:List Oper} {D:Nat→Prop} (hD:∀i j,D i→dep ops i j→D j) {i j:Nat} (h:Anc ops j i) (hi:D i):D j:=by
 induction h with
 |one h=>exact hD _ _ hi h
 |step h _ ih=>exact ih (hD _ _ hi h)
structure Res where
 t:Nat
 v:V
 lo:List (Key × O)
 tn:List (Nat × Option Nat)
 s1:S
def om (s:S):Key ⊕ Nat→Option (O ⊕ Option Nat)
 | .inl k=>(s.obj k).map .inl
 | .inr t=>(look s.tk t).map .inr
def Res.om (r:Res):Key ⊕ Nat→Option (O ⊕ Option Nat)
 | .inl k=>(z6 r.lo k).map .inl
 | .inr t=>(look r.tn t).map .inr
def S.step (s:S) (o:Oper) (r:Res):S:=
 bif r.t==0 then s.set o.dst r.v else bif r.t==1 then(s.add r.lo r.tn).set o.dst r.v else r.s1.set o.dst r.v
theorem z6z (s:S) (d:Option Nat) (v:V):om (s.set d v)=om s:=by cases d <;> rfl
theorem y0O (s:S) (d:Option Nat) (v:V):(s.set d v).A=s.A:=by cases d <;> rfl
theorem y1a (s:S) (lo:List (Key × O)) (tn:List (Nat × Option Nat)) (k:Key ⊕ Nat) {r:Res} (h1:r.lo=lo) (h2:r.tn=tn):om (s.add lo tn) k=match r.om k with|some x=>some x|none=>om s k:=by
 subst h1;subst h2
 cases k with
 |inl k=>
  simp only[om,Res.om,S.add,S.obj,c3,J8]
  cases z6 r.lo k <;> rfl
 |inr t=>
  simp only[om,Res.om,S.add,q0V]
  cases look r.tn t <;> rfl
theorem z1s {s:S} {o:Oper} {r:Res} (h:r.t=0):om (s.step o r)=om s:=by unfold S.step;rw[h];exact z6z _ _ _
theorem q7X {s:S} {o:Oper} {r:Res} (h:r.t=1) (k:Key ⊕ Nat):om (s.step o r) k=match r.om k with|some x=>some x|none=>om s k:=by
 unfold S.step;rw[h]
 exact(congrFun (z6z _ _ _) k).trans (y1a s _ _ k rfl rfl)
theorem z6y {s:S} {o:Oper} {r:Res} (h:r.t=2):om (s.step o r)=om r.s1:=by unfold S.step;rw[h];exact z6z _ _ _
theorem y2Z {s:S} {o:Oper} {r:Res} (h3:r.t=0∨r.t=1∨r.t=2) (h2:r.t=2→r.s1.env=s.env) (t:Nat):(s.step o r).get t=if o.dst=some t then r.v else s.get t:=by
 unfold S.step
 rcases h3 with h|h|h
 ·rw[h];exact q2v _ _ _ _
 ·rw[h];exact q2v _ _ _ _
 ·have e:r.s1.get t=s.get t:=by simp only[S.get,h2 h]
  rw[h,←e];exact q2v _ _ _ _
theorem y5E {s:S} {o:Oper} {r:Res} (h3:r.t=0∨r.t=1∨r.t=2) (h2:r.t=2→r.s1.A=s.A):(s.step o r).A=s.A:=by
 unfold S.step
 rcases h3 with h|h|h
 ·rw[h];exact y0O _ _ _
 ·rw[h];exact y0O _ _ _
 ·rw[h,←h2 h];exact y0O _ _ _
def U1 (ops:Array Oper) (s:S) (o:Oper):Option Bool:=
 match o.guard with
 |none=>some true
 |some (j,want)=>match q1q ops j with
  |none=>none
  |some t=>match s.get t with
   | .d .bool c=>some (c.toBool==want)
   | .tup []=>some false
   |_=>none
def z0z (X:Cx) (Q:S→Prop) (o:Oper) (ρ:Operand→V) (v:V):Prop:=
 ∀(Γ:G) (w:World) (a:Act) (s:S),Γ.gl=X.gl→z8 Γ w s→Q s→(∀y∈o.op.operands,q9 Γ (ρ y) (a.eval y))→w6 X.P o a w (u5 Γ w s v)
def OkR (X:Cx) (Q:S→Prop) (ops:Array Oper) (base s:S) (o:Oper) (r:Res):Prop:=
 (U1 ops s o=some false∧r.t=0∧r.v= .tup [])∨
 (U1 ops s o=some true∧(
  (r.t=0∧z0z X Q o (y5 X.gl s) r.v)∨
  (r.t=1∧y0K X base o (y5 X.gl s) s r.v r.lo r.tn∧z5S s r.lo r.tn)∨
  (r.t=2∧y3W X o (y5 X.gl s) s r.v r.s1)))
theorem OkR.mono {X:Cx} {Q Q':S→Prop} {ops:Array Oper} {base s:S} {o:Oper} {r:Res} (h:OkR X Q ops base s o r) (hq:∀s,Q' s→Q s):OkR X Q' ops base s o r:=by
 rcases h with h|⟨h0,h|h|h⟩
 ·exact .inl h
 ·exact .inr ⟨h0,.inl ⟨h.1,fun Γ w a s g c q=>h.2 Γ w a s g c (hq s q)⟩⟩
 ·exact .inr ⟨h0,.inr (.inl h)⟩
 ·exact .inr ⟨h0,.inr (.inr h)⟩
def QC (n:Nat) (c:Nat→S) (s:S):Prop:=∀k o,(∀p,p≤n→(c p).obj k=some o)→s.obj k=some o
def p8 (rs:Nat→Res):Nat→Nat
 |0=>0
 |i+1=>if(rs i).t=2 then i+1 else p8 rs i
theorem F4 (rs:Nat→Res):∀i,p8 rs i≤i
 |0=>Nat.le_refl _
 |i+1=>by simp only[p8];split;exact Nat.le_refl _;exact Nat.le_succ_of_le (F4 rs i)
theorem z0i (rs:Nat→Res):∀i k,k<i→(rs k).t=2→k<p8 rs i
 |0,k,h,_=>by omega
 |i+1,k,h,ht=>by
  simp only[p8]
  split
  ·exact h
  ·rename_i hi
   refine z0i rs i k ?_ ht
   rcases Nat.lt_succ_iff_lt_or_eq.1 h with h|h
   ·exact h
   ·subst h;exact absurd ht hi
theorem z1D (rs:Nat→Res):∀i,p8 rs i=0∨∃k,p8 rs i=k+1∧(rs k).t=2
 |0=>.inl rfl
 |i+1=>by
  simp only[p8]
  split
  ·exact .inr ⟨i,rfl,‹_›⟩
  ·exact z1D rs i
structure Canon (X:Cx) (ops:List Oper) (s0:S) (rs:Nat→Res) (c:Nat→S):Prop where
 c0:c 0=s0
 cs:∀i o,ops[i]? =some o→c (i+1)=(c i).step o (rs i)
 ok:∀i o,ops[i]? =some o→OkR X (QC ops.length c) ops.toArray (c (p8 rs i)) (c i) o (rs i)
 tri:∀i,(rs i).t=0∨(rs i).t=1∨(rs i).t=2
def writes (ops:List Oper) (j t:Nat):Prop:=∃o,ops[j]? =some o∧o.dst=some t
def looks (ops:List Oper) (i t:Nat):Prop:=∃o,ops[i]? =some o∧t∈o.looksAt ops.toArray
structure Orders (ops:List Oper) (rs:Nat→Res):Prop where
 lt:∀i j,dep ops i j→j<i
 tt:∀i j,i<ops.length→j<ops.length→(rs i).t=2→(rs j).t≠0→j≠i→(j<i∧Anc ops j i)∨(i<j∧Anc ops i j)
 Y9:∀i j t,j≠i→writes ops j t→looks ops i t→(j<i∧Anc ops j i)∨(i<j∧Anc ops i j)
 one:∀i j t,writes ops i t→writes ops j t→i=j
theorem OkR.env {X:Cx} {Q:S→Prop} {ops:Array Oper} {base s:S} {o:Oper} {r:Res} (h:OkR X Q ops base s o r) (ht:r.t=2):r.s1.env=s.env∧r.s1.A=s.A:=by
 rcases h with h|⟨_,h|h|h⟩
 ·omega
 ·omega
 ·omega
 ·exact⟨h.2.2.1,h.2.1⟩
section
variable {X:Cx} {ops:List Oper} {s0:S} {rs:Nat→Res} {c:Nat→S}
theorem getOp {i:Nat} (h:i<ops.length):∃o,ops[i]? =some o:=⟨_,List.getElem?_eq_getElem h⟩
theorem Canon.A (K:Canon X ops s0 rs c):∀i,i≤ops.length→(c i).A=s0.A
 |0,_=>by rw[K.c0]
 |i+1,h=>by
  obtain⟨o,ho⟩:=getOp (ops:=ops) (i:=i) (by omega)
  rw[K.cs i o ho,y5E (K.tri i) (fun ht=>((K.ok i o ho).env ht).2),K.A i (by omega)]
theorem Canon.y3P (K:Canon X ops s0 rs c) {i:Nat} {o:Oper} (ho:ops[i]? =some o) (t:Nat):(c (i+1)).get t=if o.dst=some t then(rs i).v else(c i).get t:=by
 rw[K.cs i o ho];exact y2Z (K.tri i) (fun ht=>((K.ok i o ho).env ht).1) t
theorem Canon.y0c (K:Canon X ops s0 rs c) (Od:Orders ops rs) {j t:Nat} (hw:writes ops j t):∀i,j<i→i≤ops.length→(c i).get t=(rs j).v
 |0,h,_=>by omega
 |i+1,h,hi=>by
  obtain⟨o,ho⟩:=getOp (ops:=ops) (i:=i) (by omega)
  rw[K.y3P ho]
  by_cases hji:j=i
  ·subst hji
   obtain⟨o',h1,h2⟩:=hw
   rw[ho]at h1;cases h1
   rw[if_pos h2]
  ·have hd:¬o.dst=some t:=fun e=>hji (Od.one j i t hw ⟨o,ho,e⟩)
   rw[if_neg hd]
   exact K.y0c Od hw i (by omega) (by omega)
theorem Canon.z5E (K:Canon X ops s0 rs c) {t:Nat}:∀i,i≤ops.length→(∀j,j<i→¬writes ops j t)→(c i).get t=s0.get t
 |0,_,_=>by rw[K.c0]
 |i+1,hi,hw=>by
  obtain⟨o,ho⟩:=getOp (ops:=ops) (i:=i) (by omega)
  have hd:¬o.dst=some t:=fun e=>hw i (by omega) ⟨o,ho,e⟩
  rw[K.y3P ho,if_neg hd]
  exact K.z5E i (by omega) (fun j hj=>hw j (by omega))
theorem Canon.fresh (K:Canon X ops s0 rs c) {i:Nat} (hi:i<ops.length) (ht:(rs i).t=1) {k:Key ⊕ Nat} {x:O ⊕ Option Nat} (h:(rs i).om k=some x):om (c i) k=none:=by
 obtain⟨o,ho⟩:=getOp hi
 rcases K.ok i o ho with h1|⟨_,h1|h1|h1⟩
 ·omega
 ·omega
 ·have hf:=h1.2.2
  cases k with
  |inl k=>
   simp only[Res.om,Option.map_eq_some_iff]at h
   obtain⟨y,h,_⟩:=h
   simp only[om,hf.l k y h,Option.map_none]
  |inr t=>
   simp only[Res.om,Option.map_eq_some_iff]at h
   obtain⟨y,h,_⟩:=h
   have:=hf.t t y h
   simp only[S.known]at this
   simp only[om]
   cases hh:look (c i).tk t with
   |none=>rfl
   |some z=>rw[hh]at this;cases this
 ·omega
theorem Canon.mono (K:Canon X ops s0 rs c) {k:Key ⊕ Nat} {x:O ⊕ Option Nat} {i:Nat}:∀j,i≤j→j≤ops.length→(∀m,i≤m→m<j→(rs m).t≠2)→om (c i) k=some x→om (c j) k=some x
 |0,h,_,_,hx=>by have:i=0:=by omega
                 subst this;exact hx
 |j+1,h,hj,hn,hx=>by
  by_cases he:i=j+1
  ·subst he;exact hx
  ·have ih:=K.mono j (by omega) (by omega) (fun m h1 h2=>hn m h1 (by omega)) hx
   obtain⟨o,ho⟩:=getOp (ops:=ops) (i:=j) (by omega)
   rw[K.cs j o ho]
   rcases K.tri j with h1|h1|h1
   ·rw[z1s h1];exact ih
   ·rw[q7X h1]
    cases hr:(rs j).om k with
    |none=>exact ih
    |some y=>have:=K.fresh (by omega) h1 hr;rw[ih]at this;cases this
   ·exact absurd h1 (hn j (by omega) (by omega))
theorem Canon.obj (K:Canon X ops s0 rs c) (k:Key ⊕ Nat):∀i,i≤ops.length→
  (∀j x,j<i→p8 rs i≤j→(rs j).t=1→(rs j).om k=some x→om (c i) k=some x)∧
  ((∀j,j<i→p8 rs i≤j→(rs j).t=1→(rs j).om k=none)→om (c i) k=om (c (p8 rs i)) k)
 |0,_=>⟨fun j x h=>by omega,fun _=>rfl⟩
 |i+1,hi=>by
  obtain⟨h1,h2⟩:=K.obj k i (by omega)
  obtain⟨o,ho⟩:=getOp (ops:=ops) (i:=i) (by omega)
  simp only[p8]
  rcases K.tri i with ht|ht|ht
  ·rw[if_neg (by omega),K.cs i o ho,z1s ht]
   refine⟨fun j x h3 h4 h5 h6=>?_,fun h3=>h2 fun j h4 h5 h6=>h3 j (by omega) h5 h6⟩
   rcases Nat.lt_succ_iff_lt_or_eq.1 h3 with h7|h7
   ·exact h1 j x h7 h4 h5 h6
   ·subst h7;omega
  ·rw[if_neg (by omega),K.cs i o ho,q7X ht]
   refine⟨fun j x h3 h4 h5 h6=>?_,fun h3=>?_⟩
   ·rcases Nat.lt_succ_iff_lt_or_eq.1 h3 with h7|h7
    ·have:=h1 j x h7 h4 h5 h6
     cases hr:(rs i).om k with
     |none=>exact this
     |some y=>have h8:=K.fresh (by omega) ht hr;rw[this]at h8;cases h8
    ·subst h7;rw[h6]
   ·rw[h3 i (by omega) (Nat.le_of_lt_succ (Nat.lt_succ_of_le (F4 rs i))) ht]
    exact h2 fun j h4 h5 h6=>h3 j (by omega) h5 h6
  ·rw[if_pos ht]
   exact⟨fun j x h3 h4=>by omega,fun _=>rfl⟩
end
end Go.E
namespace Go.E
open Go
section
variable {X:Cx} {ops:List Oper} {s0:S} {rs:Nat→Res} {c:Nat→S}
def q6f (X:Cx) (ops:List Oper) (s0:S) (rs:Nat→Res) (c:Nat→S) (Γ0:G) (n:Nat) (D:Nat→Prop) (a:Act) (w:World):Prop:=
 ∃Γ sD p,GLe Γ0 Γ∧Γ.gl=X.gl∧z8 Γ w sD∧AOk s0.A∧a.tmps.size=n∧a.defers=[]∧
  p≤ops.length∧(p=0∨∃k,p=k+1∧(rs k).t=2∧D k)∧(∀k,D k→(rs k).t=2→k<p)∧
  (∀k j x,D j→p≤j→(rs j).t=1→(rs j).om k=some x→om sD k=some x)∧
  (∀k,(∀j,D j→p≤j→(rs j).t=1→(rs j).om k=none)→om sD k=om (c p) k)∧
  (∀j t,D j→writes ops j t→q9 Γ (rs j).v (a.tmps.getD t undef))∧
  (∀t,(∀j,D j→¬writes ops j t)→q9 Γ (s0.get t) (a.tmps.getD t undef))
theorem z4j {Γ:G} {a:Act} {s:S} {o:Oper} {b:Bool} {l:Array Oper} (h:U1 l s o=some b) (hs:∀t,t∈o.looksAt l→q9 Γ (s.get t) (a.tmps.getD t undef)):
  Region.wanted o (yielded l a.tmps)=b:=by
 unfold U1 at h
 split at h
 ·rename_i hg
  cases h
  simp[Region.wanted,hg]
 ·rename_i j want hg
  split at h
  ·cases h
  ·rename_i t ht
   have hst:=hs t (by
    simp only[Oper.looksAt,hg,List.mem_append]
    right
    simp only[q1q]at ht
    rw[ht];simp)
   split at h
   ·rename_i b' hb
    cases h
    rw[hb]at hst
    exact z2I hg ht hst
   ·rename_i hb
    cases h
    rw[hb]at hst
    exact z05 hg ht hst
   ·cases h
theorem y0k {Γ:G} {w:World} {s s':S} {a:Act} (hgl:Γ.gl=X.gl) (c:z8 Γ w s') {y:Operand} (hy:q6w y=true) (ht:∀t,y= .tmp t→q9 Γ (s.get t) (a.tmps.getD t undef)):
  q9 Γ (y5 X.gl s y) (a.eval y):=by
 cases y with
 |tmp t=>exact ht t rfl
 |const v=>exact q6I (y:=.const v) (s:=⟨[],[],fun _=>none,[]⟩) hgl c (fun i=>by simp[S.get,look,q9]) hy
 |global g=>exact q6I (y:=.global g) (s:=⟨[],[],fun _=>none,[]⟩) (a:=a) hgl c (fun i=>by simp[S.get,look,q9]) hy
 |func f=>exact q6I (y:=.func f) (s:=⟨[],[],fun _=>none,[]⟩) (a:=a) hgl c (fun i=>by simp[S.get,look,q9]) hy
theorem z8N {a:Act} {d:Option Nat} {v:Value} {t:Nat} (h:d≠some t):(a.put d v).tmps.getD t undef=a.tmps.getD t undef:=by
 cases d with
 |none=>rfl
 |some e=>
  have:e≠t:=fun he=>h (by rw[he])
  simp only[Act.put,Array.getD_eq_getD_getElem?,Array.getElem?_setIfInBounds_ne this]
theorem y2D {a:Act} {t:Nat} {v:Value} (h:t<a.tmps.size):(a.put (some t) v).tmps.getD t undef=v:=by
 simp[Act.put,h]
theorem y5k {s s':S} (h:∀k,om s' k=om s k) (k:Key):s'.obj k=s.obj k:=by
 have:=h (.inl k)
 simp only[om]at this
 cases h1:s'.obj k <;> cases h2:s.obj k <;> rw[h1,h2]at this
 ·cases this
 ·cases this
 ·cases this;rfl
theorem y3I {s s':S} (h:∀k,om s' k=om s k) (t:Nat):look s'.tk t=look s.tk t:=by
 have:=h (.inr t)
 simp only[om]at this
 cases h1:look s'.tk t <;> cases h2:look s.tk t <;> rw[h1,h2]at this
 ·cases this
 ·cases this
 ·cases this;rfl
theorem z8.om {Γ:G} {w:World} {s s':S} (c:z8 Γ w s) (h:∀k,Go.E.om s' k=Go.E.om s k):z8 Γ w s':=
 c.congr (y5k h) (q9C (y3I h)) (fun t ht=>by rw[q8V (y3I h)];exact ht)
theorem z0d {s:S} {k:Key} {o:O}:om s (.inl k)=some (.inl o)↔s.obj k=some o:=by simp[om]
theorem z9P {s:S} {k:Key}:om s (.inl k)=none↔s.obj k=none:=by simp[om]
variable {Γ0:G} {n:Nat} {D:Nat→Prop}
theorem y2s (hP:x4 X.P=true) (K:Canon X ops s0 rs c) (Od:Orders ops rs) (hok:∀o∈ops,q45 n o=true) (hDl:∀j,D j→j<ops.length) (hD:∀i j,D i→dep ops i j→D j) {i:Nat} (hi:i<ops.length) (hiD:¬D i) (hdep:∀j,dep ops i j→D j)
  {a:Act} {w:World} {Q:Exit→Act→World→Prop} (h:q6f X ops s0 rs c Γ0 n D a w):wpOp X.P ops.toArray Q i (q6f X ops s0 rs c Γ0 n (fun j=>D j∨j=i)) a w:=by
 obtain⟨Γ,sD,p,g1,g3,hc,hA,hn,hf,hp0,hp1,hp2,ob1,ob2,ew,e0⟩:=h
 obtain⟨o,ho⟩:=getOp hi
 -- what is before i is done; what is behind i is not
 have hD':∀k j,(D k∨k=i)→dep ops k j→(D j∨j=i):=by
  rintro k j (h|rfl) hd
  ·exact .inl (hD k j h hd)
  ·exact .inl (hdep j hd)
 have before:∀j,j≠i→Anc ops j i→D j:=fun j hj ha=>(Anc.closed hD' ha (.inr rfl)).resolve_right hj
 have behind:∀k,D k→¬Anc ops i k:=fun k hk ha=>hiD (Anc.closed hD ha hk)
 have later:∀k,D k→(rs k).t=2→i<k→(rs i).t=0:=by
  intro k hk ht hik
  by_cases h0:(rs i).t=0
  ·exact h0
  ·rcases Od.tt k i (hDl k hk) hi ht h0 (by omega)with⟨_,ha⟩|⟨h1,_⟩
   ·exact absurd ha (behind k hk)
   ·omega
 have slot:∀t,looks ops i t→q9 Γ ((c i).get t) (a.tmps.getD t undef):=by
  intro t ht
  by_cases hw:∃j,j≠i∧writes ops j t
  ·obtain⟨j,hj,hw⟩:=hw
   rcases Od.Y9 i j t hj hw ht with⟨hlt,ha⟩|⟨hlt,ha⟩
   ·rw[K.y0c Od hw i hlt (by omega)]
    exact ew j t (before j hj ha) hw
   ·have hDj:¬D j:=fun h=>behind j h ha
    have uniq:∀j',writes ops j' t→j'=j:=fun j' h=>Od.one j' j t h hw
    rw[K.z5E (t:=t) i (by omega) (fun j' hj' h=>by have:=uniq j' h;omega)]
    exact e0 t (fun j' hj' h=>hDj (uniq j' h ▸ hj'))
  ·have nw:∀j',writes ops j' t→j'=i:=fun j' h=>Classical.byContradiction fun hne=>hw ⟨j',hne,h⟩
   rw[K.z5E (t:=t) i (by omega) (fun j' hj' h=>by have:=nw j' h;omega)]
   exact e0 t (fun j' hj' h=>hiD (nw j' h ▸ hj'))
 have hko:=hok o (List.mem_of_getElem? ho)
 simp only[q45,Bool.and_eq_true,Array.all_eq_true']at hko
 have hd:∀t,o.dst=some t→t<a.tmps.size:=by
  intro t ht
  have h2:=hko.2
  rw[ht]at h2
  rw[hn]
  exact of_decide_eq_true h2
 have hops:∀y∈o.op.operands,q9 Γ (y5 X.gl (c i) y) (a.eval y):=fun y hy=>y0k g3 hc (hko.1 y hy) fun t ht=>slot t ⟨o,ho,by
  subst ht
  simp only[Oper.looksAt,List.mem_append,List.mem_filterMap]
  exact .inl ⟨.tmp t,by simpa using hy,rfl⟩⟩
 have wr:∀j t,writes ops j t→j≠i→o.dst≠some t:=fun j t hw hj hdt=>hj (Od.one j i t hw ⟨o,ho,hdt⟩)
 -- what all kinds of operations share
 have fin:∀{u:Value} {w':World} {Γ':G} {sD':S} {p':Nat},GLe Γ Γ'→Γ'.gl=X.gl→z8 Γ' w' sD'→p'≤ops.length→(p'=0∨∃k,p'=k+1∧(rs k).t=2∧(D k∨k=i))→
   (∀k,(D k∨k=i)→(rs k).t=2→k<p')→(∀k j x,(D j∨j=i)→p'≤j→(rs j).t=1→(rs j).om k=some x→om sD' k=some x)→
   (∀k,(∀j,(D j∨j=i)→p'≤j→(rs j).t=1→(rs j).om k=none)→om sD' k=om (c p') k)→
   s6 Γ Γ'→q9 Γ' (rs i).v u→
   q6f X ops s0 rs c Γ0 n (fun j=>D j∨j=i) (a.put o.dst u) w':=by
  intro u w' Γ' sD' p' gle hgl' c' q0 q1 q2 qo1 qo2 keep hv
  refine⟨Γ',sD',p',g1.trans gle,hgl',c',hA,?_,?_,q0,q1,q2,qo1,qo2,?_,?_⟩
  ·cases o.dst <;> simp[Act.put,hn]
  ·cases o.dst <;> simp[Act.put,hf]
  ·rintro j t (hj|rfl) hw
   ·have hji:j≠i:=fun e=>hiD (e ▸ hj)
    rw[z8N (wr j t hw hji)]
    exact(ew j t hj hw).o8 keep
   ·obtain⟨o',h1,h2⟩:=hw
    rw[ho]at h1;cases h1
    rw[h2,y2D (hd t h2)];exact hv
  ·intro t hw
   rw[z8N (fun e=>hw i (.inr rfl) ⟨o,ho,e⟩)]
   exact(e0 t (fun j hj=>hw j (.inl hj))).o8 keep
 -- a value alone
 have value:∀{u:Value} {w':World} {Γ':G},(rs i).t=0→GLe Γ Γ'→Γ'.gl=X.gl→z8 Γ' w' sD→s6 Γ Γ'→q9 Γ' (rs i).v u→
   q6f X ops s0 rs c Γ0 n (fun j=>D j∨j=i) (a.put o.dst u) w':=by
  intro u w' Γ' ht gle hgl' c' keep hv
  refine fin gle hgl' c' hp0 ?_ ?_ ?_ ?_ keep hv
  ·rcases hp1 with h|⟨k,h1,h2,h3⟩
   ·exact .inl h
   ·exact .inr ⟨k,h1,h2,.inl h3⟩
  ·rintro k (hk|rfl) htk
   ·exact hp2 k hk htk
   ·omega
  ·rintro k j x (hj|rfl) h1 h2 h3
   ·exact ob1 k j x hj h1 h2 h3
   ·omega
  ·exact fun k h=>ob2 k fun j hj h1 h2=>h j (.inl hj) h1 h2
 -- the phase
 have hpL:(rs i).t≠0→p=p8 rs i:=by
  intro hti
  have hTD:∀k,(rs k).t=2→k<i→D k:=by
   intro k hk hki
   rcases Od.tt k i (by omega) hi hk hti (by omega)with⟨h1,_⟩|⟨_,ha⟩
   ·omega
   ·exact before k (by omega) ha
  have h1:p≤p8 rs i:=by
   rcases hp1 with h|⟨k,h1,h2,h3⟩
   ·omega
   ·have hki:k<i:=by
     rcases Nat.lt_or_ge k i with h|h
     ·exact h
     ·rcases Nat.lt_or_eq_of_le h with h|h
      ·exact absurd (later k h3 h2 h) hti
      ·subst h;exact absurd h3 hiD
    have:=z0i rs i k hki h2
    omega
  have h2:p8 rs i≤p:=by
   rcases z1D rs i with h|⟨k,h3,h4⟩
   ·omega
   ·have:=F4 rs i
    have:=hp2 k (hTD k h4 (by omega)) h4
    omega
  omega
 have noTj:∀j,D j→(rs j).t≠0→∀m,p≤m→m<j→(rs m).t≠2:=by
  intro j hj ht m hm hmj htm
  rcases Od.tt m j (by have:=hDl j hj;omega) (hDl j hj) htm ht (by omega)with⟨h1,_⟩|⟨_,ha⟩
  ·omega
  ·have:=hp2 m (Anc.closed hD ha hj) htm
   omega
 have noTi:(rs i).t≠0→∀m,p≤m→m<i→(rs m).t≠2:=by
  intro hti m hm hmi htm
  have:=z0i rs i m hmi htm
  have:=hpL hti
  omega
 -- a key is one of an operation's that is done, or stands as at the phase's start
 have split2:∀k,(∃j x,D j∧p≤j∧(rs j).t=1∧(rs j).om k=some x)∨(∀j,D j→p≤j→(rs j).t=1→(rs j).om k=none):=by
  intro k
  by_cases h:∃j x,D j∧p≤j∧(rs j).t=1∧(rs j).om k=some x
  ·exact .inl h
  ·refine .inr fun j h1 h2 h3=>?_
   cases hr:(rs j).om k with
   |none=>rfl
   |some x=>exact absurd ⟨j,x,h1,h2,h3,hr⟩ h
 simp only[wpOp,List.getElem?_toArray,ho]
 have hslots:∀t,t∈o.looksAt ops.toArray→q9 Γ ((c i).get t) (a.tmps.getD t undef):=fun t ht=>slot t ⟨o,ho,ht⟩
 rcases K.ok i o ho with⟨hw,ht,hv⟩|⟨hw,hrest⟩
 ·rw[z4j hw hslots]
  simp only[Bool.false_eq_true,if_false]
  exact value ht (.refl Γ) g3 hc (.refl Γ) (by rw[hv];exact z2h)
 ·rw[z4j hw hslots]
  simp only[if_true]
  left
  rcases hrest with⟨ht,hdo⟩|⟨ht,hdo,hfr⟩|⟨ht,hdo⟩
  ·have hQ:QC ops.length c sD:=fun k ob hk=>by
    rcases split2 (.inl k)with⟨j,y,hj,hpj,htj,hy⟩|hB
    ·have:=K.fresh (hDl j hj) htj hy
     rw[z9P,hk j (Nat.le_of_lt (hDl j hj))]at this
     cases this
    ·rw[←z0d,ob2 _ hB,z0d]
     exact hk p hp0
   refine hdo Γ w a sD g3 hc hQ hops _ _ ?_
   rintro u w' ⟨Γ',gle,kp,c',hv⟩
   exact value ht gle (gle.gl.trans g3) c' kp hv
  ·have hne:(rs i).t≠0:=by omega
   have hpl:=hpL hne
   have hpi:p≤i:=by rw[hpl];exact F4 rs i
   obtain⟨co1,co2⟩:(∀k j x,j<i→p≤j→(rs j).t=1→(rs j).om k=some x→om (c i) k=some x)∧(∀k,(∀j,j<i→p≤j→(rs j).t=1→(rs j).om k=none)→om (c i) k=om (c p) k):=by
    refine⟨fun k=>?_,fun k=>?_⟩
    ·rw[hpl];exact(K.obj k i (by omega)).1
    ·rw[hpl];exact(K.obj k i (by omega)).2
   have freshi:∀k x,(rs i).om k=some x→om sD k=none:=by
    intro k x hx
    have hfi:=K.fresh hi ht hx
    rcases split2 k with⟨j,y,hj,hpj,htj,hy⟩|hB
    ·exfalso
     rcases Nat.lt_or_ge j i with hlt|hge
     ·have:=co1 k j y hlt hpj htj hy
      rw[hfi]at this;cases this
     ·have hij:i≠j:=fun e=>hiD (e ▸ hj)
      have h1:om (c (i+1)) k=some x:=by rw[K.cs i o ho,q7X ht,hx]
      have h2:=K.mono j (by omega) (Nat.le_of_lt (hDl j hj)) (fun m hm hmj=>noTj j hj (by omega) m (by omega) hmj) h1
      have h3:=K.fresh (hDl j hj) htj hy
      rw[h2]at h3;cases h3
    ·rw[ob2 k hB]
     cases hcpk:om (c p) k with
     |none=>rfl
     |some y=>
      have:=K.mono i hpi (by omega) (noTi hne) hcpk
      rw[hfi]at this;cases this
   have hcompat:Compat sD (c i) (c (p8 rs i)):=by
    rw[←hpl]
    refine⟨fun k x hx hne'=>?_,fun k x hx=>?_⟩
    ·rw[←z0d]at hx ⊢
     rw[Ne,←z9P]at hne'
     rcases split2 (.inl k)with⟨j,y,hj,hpj,htj,hy⟩|hB
     ·have hsD:=ob1 _ j y hj hpj htj hy
      have hfj:=K.fresh (hDl j hj) htj hy
      rcases Nat.lt_or_ge j i with hlt|hge
      ·have h1:=co1 _ j y hlt hpj htj hy
       rw[hx]at h1;cases h1
       exact hsD
      ·have:=K.mono j hge (Nat.le_of_lt (hDl j hj)) (fun m hm hmj=>noTj j hj (by omega) m (by omega) hmj) hx
       rw[hfj]at this;cases this
     ·have hsD:=ob2 _ hB
      cases hcpk:om (c p) (.inl k)with
      |some y=>
       have:=K.mono i hpi (by omega) (noTi hne) hcpk
       rw[hx]at this;cases this
       rw[hsD,hcpk]
      |none=>rw[hcpk]at hsD;exact absurd hsD hne'
    ·rw[←z0d]at hx ⊢
     rcases split2 (.inl k)with⟨j,y,hj,hpj,htj,hy⟩|hB
     ·exfalso
      have hfj:=K.fresh (hDl j hj) htj hy
      have:=K.mono j hpj (Nat.le_of_lt (hDl j hj)) (fun m' hm hmj=>noTj j hj (by omega) m' hm hmj) hx
      rw[hfj]at this;cases this
     ·rw[ob2 _ hB];exact hx
   have hfresh:z5S sD (rs i).lo (rs i).tn:=by
    refine⟨fun k x hx=>?_,fun t x hx=>?_⟩
    ·exact z9P.1 (freshi (.inl k) (.inl x) (by simp[Res.om,hx]))
    ·have:=freshi (.inr t) (.inr x) (by simp[Res.om,hx])
     simp only[om,Option.map_eq_none_iff]at this
     simp[S.known,this]
   refine hdo Γ w a sD g3 hc hcompat hfresh hops _ _ ?_
   rintro u w' ⟨Γ',gle,kp,c',hv⟩
   have hom:∀k,om (sD.add (rs i).lo (rs i).tn) k=match(rs i).om k with|some x=>some x|none=>om sD k:=fun k=>y1a sD _ _ k rfl rfl
   refine fin gle (gle.gl.trans g3) c' hp0 ?_ ?_ ?_ ?_ kp hv
   ·rcases hp1 with h|⟨k,h1,h2,h3⟩
    ·exact .inl h
    ·exact .inr ⟨k,h1,h2,.inl h3⟩
   ·rintro k (hk|rfl) htk
    ·exact hp2 k hk htk
    ·omega
   ·rintro k j x (hj|rfl) h1 h2 h3
    ·rw[hom k]
     have:=ob1 k j x hj h1 h2 h3
     cases hr:(rs i).om k with
     |none=>exact this
     |some y=>rw[freshi k y hr]at this;cases this
    ·rw[hom k,h3]
   ·intro k h
    rw[hom k,h i (.inr rfl) hpi ht]
    exact ob2 k fun j hj h1 h2=>h j (.inl hj) h1 h2
  ·have hne:(rs i).t≠0:=by omega
   have hpl:=hpL hne
   have hpi:p≤i:=by rw[hpl];exact F4 rs i
   have notD:∀j,D j→(rs j).t≠0→j<i:=by
    intro j hj htj
    rcases Od.tt i j hi (hDl j hj) ht htj (fun e=>hiD (e ▸ hj))with⟨h1,_⟩|⟨_,ha⟩
    ·exact h1
    ·exact absurd ha (behind j hj)
   have hom:∀k,om (c i) k=om sD k:=by
    intro k
    rcases split2 k with⟨j,y,hj,hpj,htj,hy⟩|hB
    ·rw[ob1 k j y hj hpj htj hy]
     refine(K.obj k i (by omega)).1 j y (notD j hj (by omega)) (by rw[←hpl];exact hpj) htj hy
    ·rw[ob2 k hB,hpl]
     refine(K.obj k i (by omega)).2 fun j hj hpj htj=>?_
     rw[←hpl]at hpj
     rcases Od.tt i j hi (by omega) ht (by omega) (by omega)with⟨_,ha⟩|⟨h1,_⟩
     ·exact hB j (before j (by omega) ha) hpj htj
     ·omega
   refine hdo.2.2 Γ w a g3 (hc.om hom) hops _ _ ?_
   rintro u w' ⟨Γ',gle,kp,c',hv⟩
   refine fin (p':=i+1) gle (gle.gl.trans g3) c' (by omega) (.inr ⟨i,rfl,ht,.inr rfl⟩) ?_ ?_ ?_ kp hv
   ·rintro k (hk|rfl) htk
    ·have:=notD k hk (by omega);omega
    ·omega
   ·rintro k j x (hj|rfl) h1 h2 h3
    ·have:=notD j hj (by omega);omega
    ·omega
   ·intro k _
    rw[K.cs i o ho,z6y ht]
end
end Go.E
namespace Go.E
open Go
theorem z8w {p q:Nat→Bool} {i:Nat} (hi:p i=false) (hq:∀j,q j=(p j||j==i)):∀n,i<n→(List.range n).countP q=(List.range n).countP p+1:=by
 have low:∀m,m≤i→(List.range m).countP q=(List.range m).countP p:=by
  intro m hm
  apply List.countP_congr
  intro j hj
  have:j≠i:=by have:=List.mem_range.1 hj;omega
  simp[hq j,this]
 intro n hn
 induction n with
 |zero=>omega
 |succ n ih=>
  rw[List.range_succ,List.countP_append,List.countP_append]
  by_cases h:i<n
  ·rw[ih h]
   have:n≠i:=by omega
   simp only[List.countP_singleton,hq n]
   have hb:(n==i)=false:=by simpa using this
   rw[hb,Bool.or_false];omega
  ·have:n=i:=by omega
   subst this
   rw[low n (Nat.le_refl _)]
   simp[hq n,hi]
section
variable {X:Cx} {ops:List Oper} {s0:S} {rs:Nat→Res} {c:Nat→S} {Γ0:G} {n:Nat}
theorem q6f.congr {D D':Nat→Prop} (h:∀j,D j↔D' j) {a:Act} {w:World} (hi:q6f X ops s0 rs c Γ0 n D a w):q6f X ops s0 rs c Γ0 n D' a w:=by
 have:D=D':=funext fun j=>propext (h j)
 rw[←this];exact hi
theorem z2l {listed:Array Bool} {i:Nat} (hsz:listed.size=ops.length) (h:i∈Region.ready .any ops.toArray listed):
  i<ops.length∧listed.getD i false=false∧∀j,dep ops i j→listed.getD j false=true:=by
 simp only[Region.ready,List.size_toArray,List.mem_filter,List.mem_range,Bool.and_eq_true,Bool.not_eq_true',List.getElem?_toArray]at h
 obtain⟨h1,h2,h3⟩:=h
 refine⟨h1,?_,?_⟩
 ·have:i<listed.size:=by omega
  simpa[Array.getD,this]using h2
 ·rintro j ⟨o,ho,e,he,hb,rfl⟩
  rw[ho]at h3
  simp only[Option.map_some,Option.getD_some,Array.all_eq_true']at h3
  have:=h3 e he
  rw[hb]at this
  simpa using this
theorem y08 (Od:Orders ops rs) {listed:Array Bool} (hsz:listed.size=ops.length) (h:Region.ready .any ops.toArray listed=[]):∀i,i<ops.length→listed.getD i false=true:=by
 intro i
 induction i using Nat.strongRecOn with
 |_ i ih=>
  intro hi
  cases hl:listed.getD i false with
  |true=>rfl
  |false=>
   exfalso
   have:i∈Region.ready .any ops.toArray listed:=by
    simp only[Region.ready,List.size_toArray,List.mem_filter,List.mem_range,Bool.and_eq_true,Bool.not_eq_true',List.getElem?_toArray]
    have hs:i<listed.size:=by omega
    refine⟨hi,by simpa[Array.getD,hs]using hl,?_⟩
    rw[List.getElem?_eq_getElem hi]
    simp only[Option.map_some,Option.getD_some,Array.all_eq_true']
    intro e he
    cases hb:Region.binds .any e with
    |false=>rfl
    |true=>
     have hd:dep ops i e.on:=⟨_,List.getElem?_eq_getElem hi,e,he,hb,rfl⟩
     have hlt:=Od.lt i e.on hd
     simp only[Bool.not_true,Bool.false_or]
     exact ih e.on hlt (by omega)
   rw[h]at this
   cases this
theorem y16 (hP:x4 X.P=true) (K:Canon X ops s0 rs c) (Od:Orders ops rs) (hok:∀o∈ops,q45 n o=true) {Q:Exit→Act→World→Prop}
  (hQ:∀a w,q6f X ops s0 rs c Γ0 n (fun j=>j<ops.length) a w→Q .normal a w):
  ∀(fuel:Nat) (listed:Array Bool) (a:Act) (w:World),listed.size=ops.length→fuel+(List.range ops.length).countP (fun j=>listed.getD j false)=ops.length→
   (∀i j,i<ops.length→listed.getD i false=true→dep ops i j→listed.getD j false=true)→
   q6f X ops s0 rs c Γ0 n (fun j=>j<ops.length∧listed.getD j false=true) a w→wpAny X.P .any ops.toArray Q fuel listed a w:=by
 intro fuel
 induction fuel with
 |zero=>
  intro listed a w hsz hc hcl hI
  have hall:∀j,j<ops.length→listed.getD j false=true:=by
   have:(List.range ops.length).countP (fun j=>listed.getD j false)=(List.range ops.length).length:=by rw[List.length_range];omega
   rw[List.countP_eq_length]at this
   exact fun j hj=>this j (List.mem_range.2 hj)
  refine⟨?_,hQ a w (hI.congr fun j=>⟨fun h=>h.1,fun h=>⟨h,hall j h⟩⟩)⟩
  apply List.eq_nil_iff_forall_not_mem.2
  intro i hi
  obtain⟨h1,h2,_⟩:=z2l hsz hi
  rw[hall i h1]at h2;cases h2
 |succ fuel ih=>
  intro listed a w hsz hc hcl hI
  refine⟨fun hr=>hQ a w (hI.congr fun j=>⟨fun h=>h.1,fun h=>⟨h,y08 Od hsz hr j h⟩⟩),fun i hi=>?_⟩
  obtain⟨h1,h2,h3⟩:=z2l hsz hi
  have hD:∀i j,(i<ops.length∧listed.getD i false=true)→dep ops i j→(j<ops.length∧listed.getD j false=true):=
   fun i j h hd=>⟨by have:=Od.lt i j hd;omega,hcl i j h.1 h.2 hd⟩
  have hstep:=y2s (Q:=Q) hP K Od hok (fun j h=>h.1) hD h1 (fun h=>by rw[h2]at h;cases h.2) (fun j hd=>⟨by have:=Od.lt i j hd;omega,h3 j hd⟩) hI
  refine wpOp_mono ?_ hstep
  intro a' w' hI'
  have hset:∀j,(listed.setIfInBounds i true).getD j false=(listed.getD j false||j==i):=by
   intro j
   simp only[Array.getD_eq_getD_getElem?,Array.getElem?_setIfInBounds]
   by_cases hji:i=j
   ·subst hji
    have:i<listed.size:=by omega
    simp[this]
   ·have:(j==i)=false:=by simpa using fun e=>hji e.symm
    simp[hji,this]
  refine ih _ a' w' (by simp[hsz]) ?_ ?_ (hI'.congr fun j=>?_)
  ·have:=z8w (p:=fun j=>listed.getD j false) (q:=fun j=>(listed.setIfInBounds i true).getD j false) (i:=i) h2 hset ops.length h1
   omega
  ·intro k j hk hlk hd
   rw[hset]at hlk ⊢
   rcases Bool.or_eq_true_iff.1 hlk with h|h
   ·rw[hcl k j hk h hd];rfl
   ·have:k=i:=by simpa using h
    subst this
    rw[h3 j hd];rfl
  ·rw[hset]
   constructor
   ·rintro(h|rfl)
    ·exact⟨h.1,by rw[h.2];rfl⟩
    ·exact⟨h1,by simp⟩
   ·rintro⟨ha,hb⟩
    rcases Bool.or_eq_true_iff.1 hb with h|h
    ·exact .inl ⟨ha,h⟩
    ·exact .inr (by simpa using h)
theorem y1y (K:Canon X ops s0 rs c) {a:Act} {w:World} (h:At X n Γ0 s0 a w):q6f X ops s0 rs c Γ0 n (fun j=>j<ops.length∧(Array.replicate ops.length false).getD j false=true) a w:=by
 obtain⟨Γ,g1,g3,hc,hs,hn,hf,hA⟩:=h
 have no:∀j,¬(j<ops.length∧(Array.replicate ops.length false).getD j false=true):=by
  rintro j ⟨h1,h2⟩
  simp[Array.getD,h1]at h2
 exact⟨Γ,s0,0,g1,g3,hc,hA,hn,hf,Nat.zero_le _,.inl rfl,fun k h=>absurd h (no k),fun k j x h=>absurd h (no j),fun k _=>by rw[K.c0],fun j t h=>absurd h (no j),fun t _=>hs t⟩
theorem y4n (K:Canon X ops s0 rs c) (Od:Orders ops rs) {a:Act} {w:World} (h:q6f X ops s0 rs c Γ0 n (fun j=>j<ops.length) a w):At X n Γ0 (c ops.length) a w:=by
 obtain⟨Γ,sD,p,g1,g3,hc,hA,hn,hf,hp0,hp1,hp2,ob1,ob2,ew,e0⟩:=h
 have hpl:p=p8 rs ops.length:=by
  have h1:p≤p8 rs ops.length:=by
   rcases hp1 with h|⟨k,h1,h2,h3⟩
   ·omega
   ·have:=z0i rs ops.length k h3 h2;omega
  have h2:p8 rs ops.length≤p:=by
   rcases z1D rs ops.length with h|⟨k,h3,h4⟩
   ·omega
   ·have:=F4 rs ops.length
    have:=hp2 k (by omega) h4
    omega
  omega
 have hom:∀k,om (c ops.length) k=om sD k:=by
  intro k
  by_cases h:∃j x,j<ops.length∧p≤j∧(rs j).t=1∧(rs j).om k=some x
  ·obtain⟨j,x,h1,h2,h3,h4⟩:=h
   rw[ob1 k j x h1 h2 h3 h4]
   exact(K.obj k _ (Nat.le_refl _)).1 j x h1 (by rw[←hpl];exact h2) h3 h4
  ·have hn:∀j,j<ops.length→p≤j→(rs j).t=1→(rs j).om k=none:=by
    intro j h1 h2 h3
    cases hr:(rs j).om k with
    |none=>rfl
    |some x=>exact absurd ⟨j,x,h1,h2,h3,hr⟩ h
   rw[ob2 k hn,hpl]
   exact(K.obj k _ (Nat.le_refl _)).2 fun j h1 h2 h3=>hn j h1 (by rw[hpl];exact h2) h3
 refine⟨Γ,g1,g3,hc.om hom,fun t=>?_,hn,hf,by rw[K.A _ (Nat.le_refl _)];exact hA⟩
 by_cases hw:∃j,j<ops.length∧writes ops j t
 ·obtain⟨j,hj,hw⟩:=hw
  rw[K.y0c Od hw _ hj (Nat.le_refl _)]
  exact ew j t hj hw
 ·rw[K.z5E (t:=t) _ (Nat.le_refl _) (fun j hj h=>hw ⟨j,hj,h⟩)]
  exact e0 t (fun j hj h=>hw ⟨j,hj,h⟩)
theorem y1V (hP:x4 X.P=true) (hm:X.P.follows .mixedOrders=true) {id:Nat} {Ψ:Exit→S→Prop} (K:Canon X ops s0 rs c) (Od:Orders ops rs) (hok:∀o∈ops,q45 n o=true) (h:Ψ .normal (c ops.length)):
  DC X n (.region id ops.toArray true) s0 Ψ:=by
 intro Γ0 a w hat
 obtain⟨Γ,g1,g3,hc,hs,hn,hf⟩:=hat
 have hat':At X n Γ0 s0 a {w with drawn:=w.drawn+1}:=by
  exact⟨Γ,g1,g3,hc.ext (Ext.drew w),hs,hn,hf⟩
 refine wp_region_any hm ?_
 refine y16 hP K Od hok (fun a w hI=>⟨c ops.length,h,y4n K Od hI⟩) ops.length (Array.replicate ops.length false) a _ (by simp) ?_ ?_ (y1y K hat')
 ·have:(List.range ops.length).countP (fun j=>(Array.replicate ops.length false).getD j false)=0:=by
   apply List.countP_eq_zero.2
   intro j hj
   simp[Array.getD,List.mem_range.1 hj]
  omega
 ·intro i j hi hl
  simp[Array.getD,hi]at hl
end
end Go.E
namespace Go.E
open Go
def q7H (o:Oper):List Nat:=(o.after.toList.filter (Region.binds .any)).map (·.on)
def y5q (acc:List Nat) (ds:List Nat):Nat:=ds.foldl (fun m k=>m|||2^k|||acc.getD k 0) 0
def z4f:List Oper→List Nat→List Nat
 | [],acc=>acc
 |o::rest,acc=>z4f rest (acc++[y5q acc (q7H o)])
def y60 (ops:List Oper) (j i:Nat):Bool:=((z4f ops []).getD i 0).testBit j
theorem q9c (acc:List Nat) (j:Nat):∀(ds:List Nat) (m:Nat),(ds.foldl (fun m k=>m|||2^k|||acc.getD k 0) m).testBit j=true→m.testBit j=true∨∃k∈ds,j=k∨(acc.getD k 0).testBit j=true
 | [],m,h=>.inl h
 |k::ds,m,h=>by
  rcases q9c acc j ds _ h with h1|⟨k',hk,h1⟩
  ·simp only[Nat.testBit_or,Bool.or_eq_true,Nat.testBit_two_pow,decide_eq_true_eq]at h1
   rcases h1 with(h1|h1)|h1
   ·exact .inl h1
   ·exact .inr ⟨k,by simp,.inl h1.symm⟩
   ·exact .inr ⟨k,by simp,.inr h1⟩
  ·exact .inr ⟨k',by simp[hk],h1⟩
theorem z9W {ops:List Oper} {i k:Nat} {o:Oper} (ho:ops[i]? =some o) (h:k∈q7H o):dep ops i k:=by
 simp only[q7H,List.mem_map,List.mem_filter]at h
 obtain⟨e,⟨h1,h2⟩,h3⟩:=h
 exact⟨o,ho,e,by simpa using h1,h2,h3⟩
theorem y0u {ops:List Oper} {i k:Nat} {o:Oper} (ho:ops[i]? =some o) (h:dep ops i k):k∈q7H o:=by
 obtain⟨o',h1,e,h2,h3,h4⟩:=h
 rw[ho]at h1;cases h1
 simp only[q7H,List.mem_map,List.mem_filter]
 exact⟨e,⟨by simpa using h2,h3⟩,h4⟩
theorem z3k (ops:List Oper):∀(rest done:List Oper) (acc:List Nat),ops=done++rest→acc.length=done.length→(∀i j,(acc.getD i 0).testBit j=true→Anc ops j i)→
  ∀i j,((z4f rest acc).getD i 0).testBit j=true→Anc ops j i
 | [],_,acc,_,_,h=>h
 |o::rest,done,acc,he,hl,h=>by
  refine z3k ops rest (done++[o]) _ (by simp[he]) (by simp[hl]) ?_
  intro i j hij
  have ho:ops[acc.length]? =some o:=by rw[he,hl];simp
  simp only[List.getD_eq_getElem?_getD]at hij
  by_cases hi:i<acc.length
  ·rw[List.getElem?_append_left hi]at hij
   exact h i j (by simpa[List.getD_eq_getElem?_getD]using hij)
  ·by_cases hi2:i=acc.length
   ·subst hi2
    simp only[List.getElem?_concat_length,Option.getD_some]at hij
    rcases q9c acc j _ _ hij with h1|⟨k,hk,h1⟩
    ·simp at h1
    ·have hd:=z9W ho hk
     rcases h1 with rfl|h1
     ·exact .one hd
     ·exact .step hd (h k j h1)
   ·rw[List.getElem?_eq_none (by simp;omega)]at hij
    simp at hij
theorem z3l {ops:List Oper} {j i:Nat} (h:y60 ops j i=true):Anc ops j i:=
 z3k ops ops [] [] rfl rfl (fun i j h=>by simp at h) i j h
def tmpsOf:List Operand→List Nat
 | []=>[]
 | .tmp t::l=>t::tmpsOf l
 |_::l=>tmpsOf l
def lk (ops:Array Oper) (o:Oper):List Nat:=
 tmpsOf o.op.operands.toList++(match o.guard with
  |some (g,_)=>(match q1q ops g with|some t=>[t] |none=>[])
  |none=>[])
theorem z2w {t:Nat}:∀{l:List Operand},Operand.tmp t∈l→t∈tmpsOf l
 | [],h=>by simp at h
 |y::l,h=>by
  rcases List.mem_cons.1 h with h1|h1
  ·subst h1;simp[tmpsOf]
  ·have:=z2w h1
   cases y <;> simp[tmpsOf,this]
theorem y5p {ops:Array Oper} {o:Oper} {t:Nat} (h:t∈o.looksAt ops):t∈lk ops o:=by
 simp only[Oper.looksAt,List.mem_append,List.mem_filterMap]at h
 simp only[lk,List.mem_append]
 rcases h with⟨y,hy,ht⟩|h
 ·left
  cases y <;> simp at ht
  subst ht
  exact z2w hy
 ·right
  cases hg:o.guard with
  |none=>simp[hg]at h
  |some x=>
   obtain⟨g,b⟩:=x
   simp only[hg]at h ⊢
   simp only[q1q]
   cases hs:(ops[g]?).bind (·.dst)with
   |none=>simp[hs]at h
   |some t'=>simpa[hs]using h
def z3H (ops:List Oper) (ts:List Nat):Bool:=
 let m:=z4f ops []
 let anc:=fun j i=>(m.getD i 0).testBit j
 let ix:=List.range ops.length
 let both:=fun i j=>(decide (j<i)&&anc j i)||(decide (i<j)&&anc i j)
 (ix.all fun i=>match ops[i]? with|some o=>(q7H o).all fun k=>decide (k<i)|none=>true)&&
 (ix.all fun i=>ts.getD i 0 != 2||ix.all fun j=>ts.getD j 0==0||j==i||both i j)&&
 (ix.all fun j=>match(ops[j]?).bind (·.dst)with
  |none=>true
  |some t=>ix.all fun i=>j==i||((match(ops[i]?).bind (·.dst)with|some t'=>t' != t|none=>true)&&
    (match ops[i]? with|some o=> !(lk ops.toArray o).contains t||both i j|none=>true)))
def s00:S:=⟨[],[],fun _=>none,[]⟩
theorem q68 (k:Key):s00.obj k=none:=by cases k <;> rfl
noncomputable def kop (X:Cx) (md:List (Nat × Nat)) (k:Option Nat) (base s:S) (o:Oper) (K0:V→Prop) (K1:V→List (Key × O)→List (Nat × Option Nat)→Prop) (K2:V→S→Prop):Prop:=
 match k with
 |some 0=>iop X md s00 (y6 o) o (y5 X.gl s) s00 (fun v lo tn=>lo=[]∧tn=[]∧K0 v)∨fop X o (y5 X.gl s) K0
 |some 1=>iop X md base (y6 o) o (y5 X.gl s) s K1
 |some 2=>top X md (y6 o) o (y5 X.gl s) s K2
 |_=>False
noncomputable def vd (X:Cx) (md:List (Nat × Nat)) (ops:Array Oper) (Φ:S→Prop):List Oper→List Nat→S→S→Prop
 | [],_,_,s=>Φ s
 |o::rest,ts,base,s=>
  match o.guard with
  |none=>kop X md ts.head? base s o (fun v=>vd X md ops Φ rest ts.tail base (s.set o.dst v))
    (fun v lo tn=>H2 s lo∧H0 s tn∧vd X md ops Φ rest ts.tail base ((s.add lo tn).set o.dst v))
    (fun v s'=>vd X md ops Φ rest ts.tail (s'.set o.dst v) (s'.set o.dst v))
  |some (j,want)=>gx (gv ops s j) want (kop X md ts.head? base s o (fun v=>vd X md ops Φ rest ts.tail base (s.set o.dst v))
         (fun v lo tn=>H2 s lo∧H0 s tn∧vd X md ops Φ rest ts.tail base ((s.add lo tn).set o.dst v))
         (fun v s'=>vd X md ops Φ rest ts.tail (s'.set o.dst v) (s'.set o.dst v)))
     (vd X md ops Φ rest ts.tail base (s.set o.dst (.tup [])))
end Go.E
namespace Go.E
open Go
def y2z:Res:=⟨0,.any,[],[],s00⟩
def r6 (rl:List Res) (i:Nat):Res:=rl.getD i y2z
def cst (s0:S) (ops:List Oper) (rl:List Res):Nat→S
 |0=>s0
 |i+1=>match ops[i]? with
  |some o=>(cst s0 ops rl i).step o (r6 rl i)
  |none=>cst s0 ops rl i
theorem q4m {rl q:List Res} {i:Nat} (h:i<rl.length):r6 (rl++q) i=r6 rl i:=by
 simp only[r6,List.getD_eq_getElem?_getD,List.getElem?_append_left h]
theorem q22 (rl:List Res) (r:Res):r6 (rl++[r]) rl.length=r:=by
 simp[r6,List.getD_eq_getElem?_getD]
theorem q1s {s0:S} {ops:List Oper} {rl q:List Res}:∀i,i≤rl.length→cst s0 ops (rl++q) i=cst s0 ops rl i
 |0,_=>rfl
 |i+1,h=>by
  simp only[cst]
  rw[q1s i (by omega),q4m (by omega)]
theorem q2a {rl q:List Res}:∀i,i≤rl.length→p8 (r6 (rl++q)) i=p8 (r6 rl) i
 |0,_=>rfl
 |i+1,h=>by
  simp only[p8]
  rw[q2a i (by omega),q4m (by omega)]
section
variable {X:Cx} {Q:S→Prop} {ops:List Oper} {s0:S} {Φ:S→Prop} {ts0:List Nat} {md:List (Nat × Nat)}
structure Pre (X:Cx) (Q:S→Prop) (ops:List Oper) (s0:S) (ts0:List Nat) (pre:List Res):Prop where
 ok:∀i o,i<pre.length→ops[i]? =some o→OkR X Q ops.toArray (cst s0 ops pre (p8 (r6 pre) i)) (cst s0 ops pre i) o (r6 pre i)
 kind:∀i,i<pre.length→(r6 pre i).t=0∨(r6 pre i).t=ts0.getD i 0
 tri:∀i,(r6 pre i).t=0∨(r6 pre i).t=1∨(r6 pre i).t=2
theorem Pre.snoc {pre:List Res} (p:Pre X Q ops s0 ts0 pre) {o:Oper} (ho:ops[pre.length]? =some o) {r:Res}
  (hok:OkR X Q ops.toArray (cst s0 ops pre (p8 (r6 pre) pre.length)) (cst s0 ops pre pre.length) o r) (hk:r.t=0∨r.t=ts0.getD pre.length 0) (htri:r.t=0∨r.t=1∨r.t=2):Pre X Q ops s0 ts0 (pre++[r]):=by
 have rl:∀i,i<pre.length→r6 (pre++[r]) i=r6 pre i:=fun i h=>q4m h
 have cl:∀i,i≤pre.length→cst s0 ops (pre++[r]) i=cst s0 ops pre i:=fun i h=>q1s i h
 have tl:∀i,i≤pre.length→p8 (r6 (pre++[r])) i=p8 (r6 pre) i:=fun i h=>q2a i h
 have rlast:r6 (pre++[r]) pre.length=r:=q22 pre r
 have cases_:∀i,i<(pre++[r]).length→i<pre.length∨i=pre.length:=by intro i h;simp at h;omega
 refine⟨?_,?_,?_⟩
 ·intro i o' hi ho'
  rcases cases_ i hi with h|rfl
  ·rw[rl i h,cl i (by omega),tl i (by omega),cl _ (by have:=F4 (r6 pre) i;omega)]
   exact p.ok i o' h ho'
  ·rw[ho]at ho';cases ho'
   rw[rlast,cl _ (Nat.le_refl _),tl _ (Nat.le_refl _),cl _ (F4 _ _)]
   exact hok
 ·intro i hi
  rcases cases_ i hi with h|rfl
  ·rw[rl i h];exact p.kind i h
  ·rw[rlast];exact hk
 ·intro i
  by_cases h:i<pre.length
  ·rw[rl i h];exact p.tri i
  ·by_cases h2:i=pre.length
   ·subst h2;rw[rlast];exact htri
   ·left
    simp only[r6,List.getD_eq_getElem?_getD]
    rw[List.getElem?_eq_none (by simp;omega)]
    rfl
theorem y0U (hP:x4 X.P=true):∀(rest:List Oper) (ts:List Nat) (pre:List Res) (done:List Oper),
  ops=done++rest→pre.length=done.length→ts=ts0.drop pre.length→Pre X Q ops s0 ts0 pre→
  vd X md ops.toArray Φ rest ts (cst s0 ops pre (p8 (r6 pre) pre.length)) (cst s0 ops pre pre.length)→
  ∃rl,rl.length=ops.length∧Pre X Q ops s0 ts0 rl∧Φ (cst s0 ops rl ops.length)
 | [],ts,pre,done,he,hl,_,p,h=>by
  have:pre.length=ops.length:=by rw[he,hl];simp
  exact⟨pre,this,p,by rw[←this];simpa[vd]using h⟩
 |o::rest,ts,pre,done,he,hl,hts,p,h=>by
  have ho:ops[pre.length]? =some o:=by rw[he,hl];simp
  have next:∀(r:Res),Pre X Q ops s0 ts0 (pre++[r])→
    vd X md ops.toArray Φ rest ts.tail (if r.t=2 then(cst s0 ops pre pre.length).step o r else cst s0 ops pre (p8 (r6 pre) pre.length)) ((cst s0 ops pre pre.length).step o r)→
    ∃rl,rl.length=ops.length∧Pre X Q ops s0 ts0 rl∧Φ (cst s0 ops rl ops.length):=by
   intro r p' hv
   refine y0U hP rest ts.tail (pre++[r]) (done++[o]) (by simp[he]) (by simp[hl]) ?_ p' ?_
   ·rw[hts];simp
   ·have e1:cst s0 ops (pre++[r]) (pre++[r]).length=(cst s0 ops pre pre.length).step o r:=by
     rw[List.length_append]
     simp only[List.length_cons,List.length_nil,Nat.zero_add,cst,ho]
     rw[q1s _ (Nat.le_refl _),q22]
    have e2:cst s0 ops (pre++[r]) (p8 (r6 (pre++[r])) (pre++[r]).length)=if r.t=2 then(cst s0 ops pre pre.length).step o r else cst s0 ops pre (p8 (r6 pre) pre.length):=by
     have e3:(pre++[r]).length=pre.length+1:=by simp
     rw[e3]
     simp only[p8,q22]
     split
     ·rw[←e3];exact e1
     ·rw[q2a _ (Nat.le_refl _),q1s _ (F4 _ _)]
    rw[e1,e2]
    exact hv
  have kind:∀k,ts.head? =some k→k=ts0.getD pre.length 0:=by
   intro k hk
   rw[hts,List.head?_drop]at hk
   simp[List.getD_eq_getElem?_getD,hk]
  simp only[vd]at h
  generalize hs:cst s0 ops pre pre.length=s at*
  have skip:U1 ops.toArray s o=some false→vd X md ops.toArray Φ rest ts.tail (cst s0 ops pre (p8 (r6 pre) pre.length)) (s.set o.dst (.tup []))→
    ∃rl,rl.length=ops.length∧Pre X Q ops s0 ts0 rl∧Φ (cst s0 ops rl ops.length):=by
   intro hw hv
   exact next ⟨0,.tup [],[],[],s00⟩ (p.snoc ho (.inl ⟨by rw[hs];exact hw,rfl,rfl⟩) (.inl rfl) (.inl rfl)) hv
  have go:U1 ops.toArray s o=some true→kop X md ts.head? (cst s0 ops pre (p8 (r6 pre) pre.length)) s o
      (fun v=>vd X md ops.toArray Φ rest ts.tail (cst s0 ops pre (p8 (r6 pre) pre.length)) (s.set o.dst v))
      (fun v lo tn=>H2 s lo∧H0 s tn∧vd X md ops.toArray Φ rest ts.tail (cst s0 ops pre (p8 (r6 pre) pre.length)) ((s.add lo tn).set o.dst v))
      (fun v s'=>vd X md ops.toArray Φ rest ts.tail (s'.set o.dst v) (s'.set o.dst v))→∃rl,rl.length=ops.length∧Pre X Q ops s0 ts0 rl∧Φ (cst s0 ops rl ops.length):=by
   intro hw hr
   unfold kop at hr
   split at hr
   ·rcases hr with hr|hr
    rotate_left
    ·obtain⟨v,hv,hI⟩:=q9M hP hr
     have hd:z0z X Q o (y5 X.gl s) v:=fun Γ w a s' hgl c _ hops=>hI Γ w a s' c hops
     exact next ⟨0,v,[],[],s00⟩ (p.snoc ho (.inr ⟨by rw[hs];exact hw,.inl ⟨rfl,by rw[hs];exact hd⟩⟩) (.inl rfl) (.inl rfl)) hv
    obtain⟨v,lo,tn,⟨rfl,rfl,hv⟩,hI⟩:=q2b hP hr
    have hd:z0z X Q o (y5 X.gl s) v:=fun Γ w a s' hgl c _ hops=>
     hI Γ w a s' hgl c ⟨fun k o h=>(by rw[q68]at h;cases h),fun k o h=>(by rw[q68]at h;cases h)⟩ ⟨fun k o h=>(by simp[z6]at h),fun t x h=>(by simp[look]at h)⟩ hops
    exact next ⟨0,v,[],[],s00⟩ (p.snoc ho (.inr ⟨by rw[hs];exact hw,.inl ⟨rfl,by rw[hs];exact hd⟩⟩) (.inl rfl) (.inl rfl)) hv
   ·rename_i hk
    obtain⟨v,lo,tn,⟨hf1,hf2,hv⟩,hI⟩:=q2b hP hr
    exact next ⟨1,v,lo,tn,s00⟩ (p.snoc ho (.inr ⟨by rw[hs];exact hw,.inr (.inl ⟨rfl,by rw[hs];exact hI,by rw[hs];exact q8f hf1 hf2⟩)⟩) (.inr (kind 1 hk)) (.inr (.inl rfl))) hv
   ·rename_i hk
    obtain⟨v,s1,hv,hT⟩:=q6i hP hr
    exact next ⟨2,v,[],[],s1⟩ (p.snoc ho (.inr ⟨by rw[hs];exact hw,.inr (.inr ⟨rfl,by rw[hs];exact hT⟩)⟩) (.inr (kind 2 hk)) (.inr (.inr rfl))) hv
   ·exact hr.elim
  split at h
  ·rename_i hg
   exact go (by simp[U1,hg]) h
  ·rename_i j want hg
   cases ht:q1q ops.toArray j with
   |none=>simp[gv,ht,gx]at h
   |some t=>
    simp only[gv,ht]at h
    unfold gx at h
    split at h
    ·rename_i cb hb
     by_cases hbw:cb.toBool=want
     ·exact go (by simp[U1,hg,ht,hb,hbw]) (h.1 hbw)
     ·exact skip (by simp[U1,hg,ht,hb,hbw]) (h.2 hbw)
    ·rename_i hb
     exact skip (by simp[U1,hg,ht,hb]) h
    ·exact h.elim
end
section
variable {X:Cx} {n:Nat} {s:S} {Ψ:Exit→S→Prop}
theorem z9l {ops:List Oper} {i j:Nat} (h:((decide (j<i)&&((z4f ops []).getD i 0).testBit j)||(decide (i<j)&&((z4f ops []).getD j 0).testBit i))=true):(j<i∧Anc ops j i)∨(i<j∧Anc ops i j):=by
 simp only[Bool.or_eq_true,Bool.and_eq_true,decide_eq_true_eq]at h
 rcases h with⟨h1,h2⟩|⟨h1,h2⟩
 ·exact .inl ⟨h1,z3l h2⟩
 ·exact .inr ⟨h1,z3l h2⟩
theorem z4t {Q:S→Prop} {ops:List Oper} {ts:List Nat} {s0:S} {rl:List Res} (hl:rl.length=ops.length) (p:Pre X Q ops s0 ts rl) (h:z3H ops ts=true):
  Orders ops (r6 rl):=by
 simp only[z3H,Bool.and_eq_true,List.all_eq_true,List.mem_range]at h
 obtain⟨⟨h1,h2⟩,h3⟩:=h
 refine⟨?_,?_,?_,?_⟩
 ·intro i j hd
  obtain⟨o,ho,_⟩:=id hd
  have hi:i<ops.length:=(List.getElem?_eq_some_iff.1 ho).1
  have:=h1 i hi
  rw[ho]at this
  simp only[List.all_eq_true,decide_eq_true_eq]at this
  exact this j (y0u ho hd)
 ·intro i j hi hj ht htj hji
  have hk:=p.kind i (by omega)
  have hti:ts.getD i 0=2:=by rcases hk with h|h <;> omega
  have htj':ts.getD j 0≠0:=by
   rcases p.kind j (by omega)with h|h
   ·exact absurd h htj
   ·rw[←h];exact htj
  have:=h2 i hi
  rw[hti]at this
  simp only[bne_self_eq_false,Bool.false_or,List.all_eq_true,List.mem_range]at this
  have:=this j hj
  have e1:(ts.getD j 0==0)=false:=by simpa using htj'
  have e2:(j==i)=false:=by simpa using hji
  rw[e1,e2]at this
  simp only[Bool.false_or]at this
  exact z9l this
 ·rintro i j t hji ⟨o,ho,hd⟩ ⟨o',ho',hl'⟩
  have hj:j<ops.length:=(List.getElem?_eq_some_iff.1 ho).1
  have hi:i<ops.length:=(List.getElem?_eq_some_iff.1 ho').1
  have:=h3 j hj
  rw[ho]at this
  simp only[Option.bind_some,hd,List.all_eq_true,List.mem_range]at this
  have:=this i hi
  have e2:(j==i)=false:=by simpa using hji
  rw[e2,ho']at this
  have e3:(lk ops.toArray o').contains t=true:=by simpa using y5p hl'
  simp only[Bool.false_or,Bool.and_eq_true,e3,Bool.not_true]at this
  exact z9l this.2
 ·rintro i j t ⟨o,ho,hd⟩ ⟨o',ho',hd'⟩
  refine Classical.byContradiction fun hne=>?_
  have hi:i<ops.length:=(List.getElem?_eq_some_iff.1 ho).1
  have hj:j<ops.length:=(List.getElem?_eq_some_iff.1 ho').1
  have:=h3 j hj
  rw[ho']at this
  simp only[Option.bind_some,hd',List.all_eq_true,List.mem_range]at this
  have:=this i hi
  have e2:(j==i)=false:=by simpa using fun e=>hne e.symm
  rw[e2,ho]at this
  simp[hd]at this
theorem y3m (hP:x4 X.P=true) (hm:X.P.follows .mixedOrders=true) (md:List (Nat × Nat)) {id:Nat} {l:List Oper} (ts:List Nat) (hok:l.all (q45 n)=true) (hord:z3H l ts=true)
  (h:vd X md l.toArray (fun s'=>Ψ .normal s') l ts s s):DC X n (.region id l.toArray true) s Ψ:=by
 have p0:Pre X (fun _=>True) l s ts []:=⟨fun i o h=>by simp at h,fun i h=>by simp at h,fun i=>.inl (by simp[r6,y2z])⟩
 obtain⟨rl,hl,p,hΦ⟩:=y0U hP l ts [] [] rfl rfl (by simp) p0 h
 have K:Canon X l s (r6 rl) (cst s l rl):=⟨rfl,fun i o ho=>by simp only[cst,ho],fun i o ho=>(p.ok i o (by rw[hl];exact(List.getElem?_eq_some_iff.1 ho).1) ho).mono fun _ _=>trivial,p.tri⟩
 exact y1V hP hm K (z4t hl p hord) (fun o ho=>List.all_eq_true.1 hok o ho) hΦ
end
end Go.E
namespace Go.E
open Go
def tK:Nat→Nat
 |3=>2
 |4=>0
 |n=>n
def sF (F:List Key) (s:S):S:=⟨[],F.filterMap fun k=>(s.obj k).map fun o=>(k,o),fun _=>none,[]⟩
theorem y4i {F:List Key} {s:S} {k:Key} {o:O}:z6 (F.filterMap fun k=>(s.obj k).map fun o=>(k,o)) k=some o→k∈F∧s.obj k=some o:=by
 induction F with
 |nil=>intro h;simp[z6]at h
 |cons f F ih=>
  intro h
  simp only[List.filterMap_cons]at h
  cases hf:s.obj f with
  |none=>
   rw[hf]at h
   exact⟨List.mem_cons_of_mem _ (ih h).1,(ih h).2⟩
  |some o'=>
   rw[hf]at h
   simp only[Option.map_some,z6]at h
   by_cases e:f=k
   ·subst e
    simp at h
    subst h
    exact⟨List.mem_cons_self ..,hf⟩
   ·have:(if f=k then some o' else z6 (F.filterMap fun k=>(s.obj k).map fun o=>(k,o)) k)=some o:=by simpa using h
    rw[if_neg e]at this
    exact⟨List.mem_cons_of_mem _ (ih this).1,(ih this).2⟩
def QF (F:List Key) (s s':S):Prop:=∀k∈F,∀o,s.obj k=some o→s'.obj k=some o
theorem z16 {F:List Key} {s:S} {k:Key} {o:O} (h:(sF F s).obj k=some o):k∈F∧s.obj k=some o:=by
 unfold S.obj sF c3 at h
 dsimp only at h
 cases hl:z6 (F.filterMap fun k=>(s.obj k).map fun o=>(k,o)) k with
 |some o'=>
  rw[hl]at h
  cases h
  exact y4i hl
 |none=>
  rw[hl]at h
  cases k <;> cases h
noncomputable def q6S (X:Cx) (F:List Key) (md:List (Nat × Nat)) (k:Option Nat) (base s:S) (o:Oper) (K0:V→Prop) (K1:V→List (Key × O)→List (Nat × Option Nat)→Prop) (K2:V→S→Prop):Prop:=
 match k with
 |some 4=>iop X md (sF F s) (y6 o) o (y5 X.gl s) (sF F s) (fun v lo tn=>lo=[]∧tn=[]∧K0 v)
 |some 3=>top X md (y6 o) o (y5 X.gl s) s fun v s'=>(∀k∈F,s'.obj k=s.obj k)∧K2 v s'
 |some 2=>False
 |k=>kop X md k base s o K0 K1 K2
noncomputable def vdF (X:Cx) (F:List Key) (md:List (Nat × Nat)) (ops:Array Oper) (Φ:S→Prop):List Oper→List Nat→S→S→Prop
 | [],_,_,s=>Φ s
 |o::rest,ts,base,s=>
  match o.guard with
  |none=>q6S X F md ts.head? base s o (fun v=>vdF X F md ops Φ rest ts.tail base (s.set o.dst v))
    (fun v lo tn=>H2 s lo∧H0 s tn∧vdF X F md ops Φ rest ts.tail base ((s.add lo tn).set o.dst v))
    (fun v s'=>vdF X F md ops Φ rest ts.tail (s'.set o.dst v) (s'.set o.dst v))
  |some (j,want)=>gx (gv ops s j) want (q6S X F md ts.head? base s o (fun v=>vdF X F md ops Φ rest ts.tail base (s.set o.dst v))
         (fun v lo tn=>H2 s lo∧H0 s tn∧vdF X F md ops Φ rest ts.tail base ((s.add lo tn).set o.dst v))
         (fun v s'=>vdF X F md ops Φ rest ts.tail (s'.set o.dst v) (s'.set o.dst v)))
     (vdF X F md ops Φ rest ts.tail base (s.set o.dst (.tup [])))
section
variable {X:Cx} {F:List Key} {ops:List Oper} {s0:S} {Φ:S→Prop} {ts0:List Nat} {md:List (Nat × Nat)}
structure q3Q (X:Cx) (F:List Key) (ops:List Oper) (s0:S) (ts0:List Nat) (pre:List Res):Prop where
 ok:∀i o,i<pre.length→ops[i]? =some o→OkR X (QF F (cst s0 ops pre i)) ops.toArray (cst s0 ops pre (p8 (r6 pre) i)) (cst s0 ops pre i) o (r6 pre i)
 kind:∀i,i<pre.length→(r6 pre i).t=0∨(r6 pre i).t=tK (ts0.getD i 0)
 tri:∀i,(r6 pre i).t=0∨(r6 pre i).t=1∨(r6 pre i).t=2
 keep:∀i,i<pre.length→(r6 pre i).t=2→∀k∈F,(r6 pre i).s1.obj k=(cst s0 ops pre i).obj k
theorem q3Q.snoc {pre:List Res} (p:q3Q X F ops s0 ts0 pre) {o:Oper} (ho:ops[pre.length]? =some o) {r:Res}
  (hok:OkR X (QF F (cst s0 ops pre pre.length)) ops.toArray (cst s0 ops pre (p8 (r6 pre) pre.length)) (cst s0 ops pre pre.length) o r) (hk:r.t=0∨r.t=tK (ts0.getD pre.length 0)) (htri:r.t=0∨r.t=1∨r.t=2)
  (hkeep:r.t=2→∀k∈F,r.s1.obj k=(cst s0 ops pre pre.length).obj k):q3Q X F ops s0 ts0 (pre++[r]):=by
 have rl:∀i,i<pre.length→r6 (pre++[r]) i=r6 pre i:=fun i h=>q4m h
 have cl:∀i,i≤pre.length→cst s0 ops (pre++[r]) i=cst s0 ops pre i:=fun i h=>q1s i h
 have tl:∀i,i≤pre.length→p8 (r6 (pre++[r])) i=p8 (r6 pre) i:=fun i h=>q2a i h
 have rlast:r6 (pre++[r]) pre.length=r:=q22 pre r
 have cases_:∀i,i<(pre++[r]).length→i<pre.length∨i=pre.length:=by intro i h;simp at h;omega
 refine⟨?_,?_,?_,?_⟩
 ·intro i o' hi ho'
  rcases cases_ i hi with h|rfl
  ·rw[rl i h,cl i (by omega),tl i (by omega),cl _ (by have:=F4 (r6 pre) i;omega)]
   exact p.ok i o' h ho'
  ·rw[ho]at ho';cases ho'
   rw[rlast,cl _ (Nat.le_refl _),tl _ (Nat.le_refl _),cl _ (F4 _ _)]
   exact hok
 ·intro i hi
  rcases cases_ i hi with h|rfl
  ·rw[rl i h];exact p.kind i h
  ·rw[rlast];exact hk
 ·intro i
  by_cases h:i<pre.length
  ·rw[rl i h];exact p.tri i
  ·by_cases h2:i=pre.length
   ·subst h2;rw[rlast];exact htri
   ·left
    simp only[r6,List.getD_eq_getElem?_getD]
    rw[List.getElem?_eq_none (by simp;omega)]
    rfl
 ·intro i hi ht
  rcases cases_ i hi with h|rfl
  ·rw[rl i h,cl i (by omega)]
   rw[rl i h]at ht
   exact p.keep i h ht
  ·rw[rlast,cl _ (Nat.le_refl _)]
   rw[rlast]at ht
   exact hkeep ht
theorem z8C (hP:x4 X.P=true):∀(rest:List Oper) (ts:List Nat) (pre:List Res) (done:List Oper),
  ops=done++rest→pre.length=done.length→ts=ts0.drop pre.length→q3Q X F ops s0 ts0 pre→
  vdF X F md ops.toArray Φ rest ts (cst s0 ops pre (p8 (r6 pre) pre.length)) (cst s0 ops pre pre.length)→
  ∃rl,rl.length=ops.length∧q3Q X F ops s0 ts0 rl∧Φ (cst s0 ops rl ops.length)
 | [],ts,pre,done,he,hl,_,p,h=>by
  have:pre.length=ops.length:=by rw[he,hl];simp
  exact⟨pre,this,p,by rw[←this];simpa[vdF]using h⟩
 |o::rest,ts,pre,done,he,hl,hts,p,h=>by
  have ho:ops[pre.length]? =some o:=by rw[he,hl];simp
  have next:∀(r:Res),q3Q X F ops s0 ts0 (pre++[r])→
    vdF X F md ops.toArray Φ rest ts.tail (if r.t=2 then(cst s0 ops pre pre.length).step o r else cst s0 ops pre (p8 (r6 pre) pre.length)) ((cst s0 ops pre pre.length).step o r)→
    ∃rl,rl.length=ops.length∧q3Q X F ops s0 ts0 rl∧Φ (cst s0 ops rl ops.length):=by
   intro r p' hv
   refine z8C hP rest ts.tail (pre++[r]) (done++[o]) (by simp[he]) (by simp[hl]) ?_ p' ?_
   ·rw[hts];simp
   ·have e1:cst s0 ops (pre++[r]) (pre++[r]).length=(cst s0 ops pre pre.length).step o r:=by
     rw[List.length_append]
     simp only[List.length_cons,List.length_nil,Nat.zero_add,cst,ho]
     rw[q1s _ (Nat.le_refl _),q22]
    have e2:cst s0 ops (pre++[r]) (p8 (r6 (pre++[r])) (pre++[r]).length)=if r.t=2 then(cst s0 ops pre pre.length).step o r else cst s0 ops pre (p8 (r6 pre) pre.length):=by
     have e3:(pre++[r]).length=pre.length+1:=by simp
     rw[e3]
     simp only[p8,q22]
     split
     ·rw[←e3];exact e1
     ·rw[q2a _ (Nat.le_refl _),q1s _ (F4 _ _)]
    rw[e1,e2]
    exact hv
  have kind:∀k,ts.head? =some k→k=ts0.getD pre.length 0:=by
   intro k hk
   rw[hts,List.head?_drop]at hk
   simp[List.getD_eq_getElem?_getD,hk]
  simp only[vdF]at h
  generalize hs:cst s0 ops pre pre.length=s at*
  have skip:U1 ops.toArray s o=some false→vdF X F md ops.toArray Φ rest ts.tail (cst s0 ops pre (p8 (r6 pre) pre.length)) (s.set o.dst (.tup []))→
    ∃rl,rl.length=ops.length∧q3Q X F ops s0 ts0 rl∧Φ (cst s0 ops rl ops.length):=by
   intro hw hv
   exact next ⟨0,.tup [],[],[],s00⟩ (p.snoc ho (.inl ⟨by rw[hs];exact hw,rfl,rfl⟩) (.inl rfl) (.inl rfl) (fun e=>by cases e)) hv
  have go:U1 ops.toArray s o=some true→q6S X F md ts.head? (cst s0 ops pre (p8 (r6 pre) pre.length)) s o
      (fun v=>vdF X F md ops.toArray Φ rest ts.tail (cst s0 ops pre (p8 (r6 pre) pre.length)) (s.set o.dst v))
      (fun v lo tn=>H2 s lo∧H0 s tn∧vdF X F md ops.toArray Φ rest ts.tail (cst s0 ops pre (p8 (r6 pre) pre.length)) ((s.add lo tn).set o.dst v))
      (fun v s'=>vdF X F md ops.toArray Φ rest ts.tail (s'.set o.dst v) (s'.set o.dst v))→∃rl,rl.length=ops.length∧q3Q X F ops s0 ts0 rl∧Φ (cst s0 ops rl ops.length):=by
   intro hw hr
   unfold q6S at hr
   split at hr
   ·obtain⟨v,lo,tn,⟨rfl,rfl,hv⟩,hI⟩:=q2b hP hr
    have hd:z0z X (QF F s) o (y5 X.gl s) v:=fun Γ w a s' hgl c hq hops=>
     hI Γ w a s' hgl c ⟨fun k o h _=>hq k (z16 h).1 o (z16 h).2,fun k o h=>hq k (z16 h).1 o (z16 h).2⟩ ⟨fun k o h=>(by simp[z6]at h),fun t x h=>(by simp[look]at h)⟩ hops
    exact next ⟨0,v,[],[],s00⟩ (p.snoc ho (.inr ⟨by rw[hs];exact hw,.inl ⟨rfl,by rw[hs];exact hd⟩⟩) (.inl rfl) (.inl rfl) (fun e=>by cases e)) hv
   ·rename_i hk
    obtain⟨v,s1,⟨hkp,hv⟩,hT⟩:=q6i hP hr
    exact next ⟨2,v,[],[],s1⟩ (p.snoc ho (.inr ⟨by rw[hs];exact hw,.inr (.inr ⟨rfl,by rw[hs];exact hT⟩)⟩) (.inr (by rw[←kind 3 hk];rfl)) (.inr (.inr rfl)) (fun _ k hk=>by rw[hs];exact hkp k hk)) hv
   ·exact hr.elim
   ·rename_i hn4 hn3 hn2
    unfold kop at hr
    split at hr
    ·rcases hr with hr|hr
     rotate_left
     ·obtain⟨v,hv,hI⟩:=q9M hP hr
      have hd:z0z X (QF F s) o (y5 X.gl s) v:=fun Γ w a s' hgl c _ hops=>hI Γ w a s' c hops
      exact next ⟨0,v,[],[],s00⟩ (p.snoc ho (.inr ⟨by rw[hs];exact hw,.inl ⟨rfl,by rw[hs];exact hd⟩⟩) (.inl rfl) (.inl rfl) (fun e=>by cases e)) hv
     obtain⟨v,lo,tn,⟨rfl,rfl,hv⟩,hI⟩:=q2b hP hr
     have hd:z0z X (QF F s) o (y5 X.gl s) v:=fun Γ w a s' hgl c _ hops=>
      hI Γ w a s' hgl c ⟨fun k o h=>(by rw[q68]at h;cases h),fun k o h=>(by rw[q68]at h;cases h)⟩ ⟨fun k o h=>(by simp[z6]at h),fun t x h=>(by simp[look]at h)⟩ hops
     exact next ⟨0,v,[],[],s00⟩ (p.snoc ho (.inr ⟨by rw[hs];exact hw,.inl ⟨rfl,by rw[hs];exact hd⟩⟩) (.inl rfl) (.inl rfl) (fun e=>by cases e)) hv
    ·rename_i hk
     obtain⟨v,lo,tn,⟨hf1,hf2,hv⟩,hI⟩:=q2b hP hr
     exact next ⟨1,v,lo,tn,s00⟩ (p.snoc ho (.inr ⟨by rw[hs];exact hw,.inr (.inl ⟨rfl,by rw[hs];exact hI,by rw[hs];exact q8f hf1 hf2⟩)⟩) (.inr (by rw[←kind 1 hk];rfl)) (.inr (.inl rfl)) (fun e=>by cases e)) hv
    ·rename_i hk
     exact absurd hk hn2
    ·exact hr.elim
  split at h
  ·rename_i hg
   exact go (by simp[U1,hg]) h
  ·rename_i j want hg
   cases ht:q1q ops.toArray j with
   |none=>simp[gv,ht,gx]at h
   |some t=>
    simp only[gv,ht]at h
    unfold gx at h
    split at h
    ·rename_i cb hb
     by_cases hbw:cb.toBool=want
     ·exact go (by simp[U1,hg,ht,hb,hbw]) (h.1 hbw)
     ·exact skip (by simp[U1,hg,ht,hb,hbw]) (h.2 hbw)
    ·rename_i hb
     exact skip (by simp[U1,hg,ht,hb]) h
    ·exact h.elim
theorem q3Q.same {rl:List Res} (hl:rl.length=ops.length) (p:q3Q X F ops s0 ts0 rl) {k:Key} (hk:k∈F) (hs:s0.obj k≠none):∀i,i≤ops.length→(cst s0 ops rl i).obj k=s0.obj k
 |0,_=>rfl
 |i+1,hi=>by
  have ih:=q3Q.same hl p hk hs i (by omega)
  obtain⟨o,ho⟩:=getOp (ops:=ops) (i:=i) (by omega)
  have hc:cst s0 ops rl (i+1)=(cst s0 ops rl i).step o (r6 rl i):=by simp only[cst,ho]
  have ob:∀{s s':S},om s' (.inl k)=om s (.inl k)→s'.obj k=s.obj k:=fun{s s'} h=>by
   simp only[om]at h
   cases h1:s'.obj k <;> cases h2:s.obj k <;> rw[h1,h2]at h
   ·cases h
   ·cases h
   ·cases h;rfl
  rw[hc]
  rcases p.tri i with ht|ht|ht
  ·rw[ob (congrFun (z1s ht) _)];exact ih
  ·refine Eq.trans (ob ?_) ih
   rw[q7X ht]
   cases hr:(r6 rl i).om (.inl k)with
   |none=>rfl
   |some x=>
    exfalso
    rcases p.ok i o (by omega) ho with h1|⟨_,h1|h1|h1⟩
    ·omega
    ·omega
    ·simp only[Res.om,Option.map_eq_some_iff]at hr
     obtain⟨y,hr,_⟩:=hr
     have:=h1.2.2.l k y hr
     rw[ih]at this
     exact hs this
    ·omega
  ·rw[ob (congrFun (z6y ht) _),p.keep i (by omega) ht k hk];exact ih
end
theorem y5a (ts:List Nat) (i:Nat):(ts.map tK).getD i 0=tK (ts.getD i 0):=by
 simp only[List.getD_eq_getElem?_getD,List.getElem?_map]
 cases ts[i]? <;> rfl
section
variable {X:Cx} {n:Nat} {s:S} {Ψ:Exit→S→Prop}
theorem y1U (hP:x4 X.P=true) (hm:X.P.follows .mixedOrders=true) (F:List Key) (md:List (Nat × Nat)) {id:Nat} {l:List Oper} (ts:List Nat) (hok:l.all (q45 n)=true) (hord:z3H l (ts.map tK)=true)
  (hF:∀k∈F,s.obj k≠none) (h:vdF X F md l.toArray (fun s'=>Ψ .normal s') l ts s s):DC X n (.region id l.toArray true) s Ψ:=by
 have p0:q3Q X F l s ts []:=⟨fun i o h=>by simp at h,fun i h=>by simp at h,fun i=>.inl (by simp[r6,y2z]),fun i h=>by simp at h⟩
 obtain⟨rl,hl,p,hΦ⟩:∃rl,rl.length=l.length∧q3Q X F l s ts rl∧Ψ .normal (cst s l rl l.length):=z8C hP l ts [] [] rfl rfl (by simp) p0 h
 have K:Canon X l s (r6 rl) (cst s l rl):=⟨rfl,fun i o ho=>by simp only[cst,ho],fun i o ho=>by
  have hi:i<l.length:=(List.getElem?_eq_some_iff.1 ho).1
  refine(p.ok i o (by rw[hl];exact hi) ho).mono fun s' hq k hk ob hob=>hq k ob fun q hqn=>?_
  rw[p.same hl hk (hF k hk) q hqn]
  rw[p.same hl hk (hF k hk) i (by omega)]at hob
  exact hob,p.tri⟩
 have pq:Pre X (fun _=>False) l s (ts.map tK) rl:=⟨fun i o hi ho=>(p.ok i o hi ho).mono fun _ h=>h.elim,fun i hi=>by rw[y5a];exact p.kind i hi,p.tri⟩
 exact y1V hP hm K (z4t hl pq hord) (fun o ho=>List.all_eq_true.1 hok o ho) hΦ
end
end Go.E
namespace Go.E
open Go
noncomputable def q0o (P:Program) (T:TypeId) (τ:Ty) (op:BinOp) (x y:V) (K:V→Prop):Prop:=
 match τ with
 | .int k=>x.isInt k∧(if BinOp.q27 op then y.Z4∧q7N op k x.toInt y.toInt K else y.isInt k∧q3y op k x.toInt y.toInt K)
 | .bool=>x.isBool∧y.isBool∧(match op with
   | .eql=>K (.d .bool (.bool (x.toBool==y.toBool)))
   | .neq=>K (.d .bool (.bool (!(x.toBool==y.toBool))))
   |_=>False)
 | .str=>x.isStr∧y.isStr∧q4G op x.toStr y.toStr K
 | .ptr=>(match op,x.q3Z,y.q3Z with
   | .eql,some a,some true=>K (.d .bool (.bool a))
   | .neq,some a,some true=>K (.d .bool (.bool (!a)))
   | .eql,some true,some b=>K (.d .bool (.bool b))
   | .neq,some true,some b=>K (.d .bool (.bool (!b)))
   |_,_,_=>False)
 | .arr n e=>F6 P T=true∧x.Q4 (.arr n e)∧y.Q4 (.arr n e)∧q2K op (C.eqb x.toC y.toC) K
 | .struct sz os fs=>F6 P T=true∧x.Q4 (.struct sz os fs)∧y.Q4 (.struct sz os fs)∧q2K op (C.eqb x.toC y.toC) K
 | .slice _ _=>(match op,x.z6N,y with
   | .eql,some r,.nilc=>K (q5W r)
   | .neq,some r,.nilc=>K (q5W (r.map (!·)))
   |_,_,_=>False)
 |_=>False
section
variable {P:Program} {T:TypeId} {x y:V} {K:V→Prop} {op:BinOp}
theorem y2C:z0b P op T x y K=q0o P T (ty P T) op x y K:=rfl
theorem z9I {k:IntKind}:q0o P T (.int k) op x y K=(x.isInt k∧(if BinOp.q27 op then y.Z4∧q7N op k x.toInt y.toInt K else y.isInt k∧q3y op k x.toInt y.toInt K)):=rfl
theorem z9K:q0o P T .bool .eql x y K=(x.isBool∧y.isBool∧K (.d .bool (.bool (x.toBool==y.toBool)))):=rfl
theorem z9J:q0o P T .bool .neq x y K=(x.isBool∧y.isBool∧K (.d .bool (.bool (!(x.toBool==y.toBool))))):=rfl
theorem z9H:q0o P T .str op x y K=(x.isStr∧y.isStr∧q4G op x.toStr y.toStr K):=rfl
theorem z5i {k:Key} {q:List Nat} {τ:Ty}:q0o P T .ptr .eql (.ptr k q τ) (.d .ptr .nil) K=K (.d .bool (.bool false)):=rfl
theorem z5h {k:Key} {q:List Nat} {τ:Ty}:q0o P T .ptr .neq (.ptr k q τ) (.d .ptr .nil) K=K (.d .bool (.bool true)):=rfl
theorem z5k:q0o P T .ptr .eql (.d .ptr .nil) (.d .ptr .nil) K=K (.d .bool (.bool true)):=rfl
theorem z5j:q0o P T .ptr .neq (.d .ptr .nil) (.d .ptr .nil) K=K (.d .bool (.bool false)):=rfl
theorem z6n {eb:Nat} {e:Ty} {cs:List C} {t eb':Nat} {e':Ty}:q0o P T (.slice eb e) .eql (.sl eb' e' cs t) .nilc K=K (q5W (bif cs.isEmpty then none else some false)):=rfl
theorem z6o {eb:Nat} {e:Ty} {c:C} {eb':Nat} {e':Ty}:q0o P T (.slice eb e) .eql (.d (.slice eb' e') c) .nilc K=K (q5W (bif c.elems.isEmpty then none else some false)):=rfl
theorem z6m {eb:Nat} {e:Ty} {k:Key} {q:List Nat} {lo n:Nat} {cp:Option Nat} {eb':Nat} {e':Ty}:q0o P T (.slice eb e) .eql (.sr k q lo n cp eb' e') .nilc K=K (q5W (bif n==0 then none else some false)):=rfl
theorem z5l {eb:Nat} {e:Ty} {eb':Nat} {e':Ty}:q0o P T (.slice eb e) .eql (.emp eb' e') .nilc K=K (.top .bool):=rfl
theorem z3F {eb:Nat} {e:Ty}:q0o P T (.slice eb e) .eql .nilc .nilc K=K (.d .bool (.bool true)):=rfl
theorem z9L {n:Nat} {e:Ty}:q0o P T (.arr n e) op x y K=(F6 P T=true∧x.Q4 (.arr n e)∧y.Q4 (.arr n e)∧q2K op (C.eqb x.toC y.toC) K):=rfl
end
theorem x5 (n:Int):(C.int n).toInt=n:=rfl
theorem Y8 (b:Bool):(C.bool b).toBool=b:=rfl
theorem x8 (l:List UInt8):(C.str l).toStr=l:=rfl
theorem X4 (cs:List C):(C.slice cs).elems=cs:=rfl
theorem z5N (cs:List C):(C.agg cs).elems=cs:=rfl
theorem y12 (cs:List C) (i:Nat):(C.agg cs).get i=cs.getD i .nil:=rfl
theorem get_nil (j:Nat) (l:List (Key × O)) (A:Key→Option O) (tk:List (Nat × Option Nat)):(S.mk [] l A tk).get j= .any:=rfl
theorem y2v (e:List (Nat × V)) (l:List (Key × O)) (A:Key→Option O) (tk:List (Nat × Option Nat)) (d:Nat) (x:V):(S.mk e l A tk).set (some d) x=S.mk (z1q e d x) l A tk:=rfl
theorem y2w (s:S) (x:V):s.set none x=s:=rfl
theorem y5i (e:List (Nat × V)) (l:List (Key × O)) (A:Key→Option O) (tk:List (Nat × Option Nat)) (k:Key) (o:O):(S.mk e l A tk).put k o=S.mk e (z6q l k o) A tk:=rfl
theorem y45 (e:List (Nat × V)) (l:List (Key × O)) (A:Key→Option O) (tk:List (Nat × Option Nat)) (t:Nat) (x:Option Nat):(S.mk e l A tk).tok t x=S.mk e l A (z1q tk t x):=rfl
theorem y5C (e:List (Nat × V)) (l:List (Key × O)) (A:Key→Option O) (tk:List (Nat × Option Nat)) (lo:List (Key × O)) (tn:List (Nat × Option Nat)):(S.mk e l A tk).add lo tn=S.mk e (lo++l) A (tn++tk):=rfl
theorem z9S (e:List (Nat × V)) (A:Key→Option O) (tk:List (Nat × Option Nat)) (k:Key):(S.mk e [] A tk).obj (.g k)=A k:=rfl
theorem z6G (e:List (Nat × V)) (A:Key→Option O) (tk:List (Nat × Option Nat)) (n:Nat):(S.mk e [] A tk).obj (.l n)=none:=rfl
theorem y4k (e:List (Nat × V)) (l:List (Key × O)) (A:Key→Option O) (tk:List (Nat × Option Nat)) (t:Nat):(S.mk e l A tk).live t=H7 tk t:=rfl
theorem y1f (t:Nat):H7 [] t=none:=rfl
theorem z63 (e:List (Nat × V)) (l:List (Key × O)) (A:Key→Option O) (t:Nat):(S.mk e l A []).known t=false:=rfl
theorem y40 (τ:Ty) (c:C) (i:Nat):(V.d τ c).get i= .d (τ.get i) (c.get i):=rfl
theorem y2i (τ:Ty) (vs:List V) (i:Nat):(V.agg τ vs).get i=vs.getD i .any:=rfl
theorem y2l (x:V) (i:Nat) (q:List Nat):x.at (i::q)=(x.get i).at q:=by rfl
theorem y33 (τ:Ty) (c:C):(V.d τ c).toInt=c.toInt:=rfl
theorem y2o (τ:Ty) (c:C):(V.d τ c).toBool=c.toBool:=rfl
theorem y32 (τ:Ty) (c:C):(V.d τ c).toStr=c.toStr:=rfl
theorem y5Z (τ:Ty) (c:C):(V.d τ c).toC=c:=rfl
theorem y4R (n:Nat) (e:Ty) (i:Nat):(Ty.arr n e).get i=e:=rfl
theorem y5Y (e:List (Nat × V)) (l:List (Key × O)) (A:Key→Option O) (tk:List (Nat × Option Nat)) (k:Key):(S.mk e l A tk).up k=((S.mk e l A tk).obj k).map (O.ren .g):=rfl
theorem y1n (k:IntKind):(Ty.int k).known=true:=rfl
theorem y1w (k:IntKind):(Ty.int k).isAgg=false:=rfl
theorem z9Z:(Ty.bool).known=true:=rfl
theorem z97:(Ty.bool).isAgg=false:=rfl
theorem y1k:(Ty.str).known=true:=rfl
theorem y1t:(Ty.str).isAgg=false:=rfl
theorem z8m (n:Nat) (e:Ty):(Ty.slice n e).known=true:=rfl
theorem z8o (n:Nat) (e:Ty):(Ty.slice n e).isAgg=false:=rfl
theorem y1o (n:Nat) (e:Ty):(Ty.arr n e).known=true:=rfl
theorem y1x (n:Nat) (e:Ty):(Ty.arr n e).isAgg=true:=rfl
theorem y1l:(Ty.ptr).known=true:=rfl
theorem y1u:(Ty.ptr).isAgg=false:=rfl
theorem y1m:(Ty.map).known=true:=rfl
theorem y1v:(Ty.map).isAgg=false:=rfl
theorem z9Y:(Ty.func).known=true:=rfl
theorem z96:(Ty.func).isAgg=false:=rfl
theorem z8n:(Ty.iface).known=true:=rfl
theorem z8p:(Ty.iface).isAgg=false:=rfl
theorem y1Y (n:Nat) (e:Ty) (i:Nat):(Ty.arr n e).child i=if i<n then some (i*e.size,e)else none:=rfl
theorem z90 (n:Nat) (e:Ty):(Ty.arr n e).q1w=List.replicate n e:=rfl
theorem y00 (n:Nat) (e:Ty) (i:Nat):(Ty.slice n e).get i=e:=rfl
theorem z9V (d:Nat):r9 [] d=0:=rfl
section
variable {X:Cx} {md:List (Nat × Nat)} {ops:Array Oper} {Φ:S→Prop} {o:Oper} {rest:List Oper} {s:S}
theorem Q2.mono {f:FuncId} {xs:List V} {A A':Key→Option O} {v:V} {L:List (Key × O)} (h:Q2 X f xs A v L) (hA:∀k o,A k=some o→A' k=some o):Q2 X f xs A' v L:=
 fun A'' Γ w args hAA=>h A'' Γ w args fun k o hk=>hAA k o (hA k o hk)
end
section
variable {X:Cx} {md:List (Nat × Nat)} {ops:Array Oper} {Φ:S→Prop} {o:Oper} {rest:List Oper} {ts:List Nat} {base s:S}
end
end Go.E
namespace Go.E
open Go
section
variable {X:Cx} {md:List (Nat × Nat)} {ops:Array Oper} {Φ:S→Prop} {n:List Unit} {u:Unit} {o:Oper} {rest:List Oper} {ts:List Nat} {base s s':S} {dst:Option Nat} {lo:List (Key × O)} {tn:List (Nat × Option Nat)} {d:Option Nat} {op:Op} {T:TypeId} {ps:String} {af:Array Edge} {j:Nat} {want:Bool}
end
end Go.E
namespace Go.E
open Go
mutual
def C.wf:Ty→C→Prop
 | .int k,c=>c= .int c.toInt∧k.min≤c.toInt∧c.toInt≤k.max
 | .bool,c=>c= .bool c.toBool
 | .str,c=>c= .str c.toStr∧c.toStr.length≤140737488355328
 | .slice eb e,c=>c= .slice c.elems∧c.elems.length*eb≤140737488355328∧c.elems.length≤9223372036854775807∧∀x∈c.elems,C.wf e x
 | .arr n e,c=>c= .agg c.elems∧c.elems.length=n∧∀x∈c.elems,C.wf e x
 | .struct _ _ fs,c=>c= .agg c.elems∧C.wfs fs c.elems
 | .opq _,_=>False
 | .iface,c=>c= .nil∨c= .bool true
 |_,c=>c= .nil
def C.wfs:List Ty→List C→Prop
 | [],cs=>cs=[]
 |f::fs,cs=>∃c cs',cs=c::cs'∧C.wf f c∧C.wfs fs cs'
end
theorem C.z1U:∀{fs:List Ty} {cs:List C},C.wfs fs cs→cs.length=fs.length
 | [],_,h=>by simp only[C.wfs]at h;simp[h]
 |f::fs,cs,h=>by
  simp only[C.wfs]at h
  obtain⟨c,cs',rfl,_,h⟩:=h
  simp[C.z1U h]
theorem C.z8z:∀{fs:List Ty} {cs:List C} {i:Nat} {f:Ty},C.wfs fs cs→fs[i]? =some f→C.wf f (cs.getD i .nil)
 | [],_,_,_,_,h=>by simp at h
 |g::fs,cs,i,f,h,hi=>by
  simp only[C.wfs]at h
  obtain⟨c,cs',rfl,h1,h2⟩:=h
  cases i with
  |zero=>simp at hi;subst hi;simpa using h1
  |succ i=>simpa using C.z8z h2 (show fs[i]? =some f by simpa using hi)
theorem C.W6 {sz:Nat} {os:List Nat} {fs:List Ty} {c:C} {i:Nat} {f:Ty} (h:C.wf (.struct sz os fs) c) (hi:fs[i]? =some f):C.wf f (c.get i):=by
 simp only[C.wf]at h
 rw[h.1]
 exact C.z8z h.2 hi
mutual
theorem z7.wf {H:Hp}:∀{τ:Ty} {vs:List Value} {c:C},z7 H τ vs c→C.wf τ c
 | .int k,vs,c,h=>by
  simp only[z7]at h
  obtain⟨n,rfl,_,h1,h2⟩:=h
  exact⟨rfl,h1,h2⟩
 | .bool,vs,c,h=>by
  simp only[z7]at h
  obtain⟨n,rfl,_⟩:=h
  rfl
 | .str,vs,c,h=>by
  simp only[z7]at h
  obtain⟨n,rfl,_,h1⟩:=h
  exact⟨rfl,h1⟩
 | .slice eb e,vs,c,h=>by
  simp only[z7]at h
  obtain⟨a,n,cap,cs,rfl,rfl,h1,h2,h3,h4,h5⟩:=h
  simp only[C.wf,C.elems]
  refine⟨trivial,by rw[h1];exact h4,by unfold maxLen at h3;omega,fun x hx=>?_⟩
  obtain⟨i,hi⟩:=List.getElem?_of_mem hx
  rcases h5 with h5|⟨b,off,l,_,_,_,hr⟩
  ·subst h5;have:=(List.getElem?_eq_some_iff.1 hi).1;omega
  ·exact z7.wf (hr i x hi)
 | .arr n e,vs,c,h=>by
  simp only[z7]at h
  obtain⟨cs,rfl,h1,h2,h4,h3⟩:=h
  simp only[C.wf,C.elems]
  refine⟨trivial,h1,fun x hx=>?_⟩
  obtain⟨i,hi⟩:=List.getElem?_of_mem hx
  exact z7.wf (h3 i x hi)
 | .struct sz os fs,vs,c,h=>by
  simp only[z7]at h
  obtain⟨cs,rfl,_,_,h2⟩:=h
  simp only[C.wf,C.elems]
  exact⟨trivial,s8.wf h2⟩
 | .ptr,vs,c,h| .map,vs,c,h| .func,vs,c,h=>by
  simp only[z7]at h
  simp only[C.wf];exact h.1
 | .iface,vs,c,h=>by
  simp only[z7]at h
  simp only[C.wf]
  rcases h with h|h
  ·exact .inl h.1
  ·exact .inr h.1
 | .opq _,_,_,h=>by simp only[z7]at h
theorem s8.wf {H:Hp}:∀{fs:List Ty} {os:List Nat} {vs:List Value} {cs:List C},s8 H fs os vs cs→C.wfs fs cs
 | [],_,_,_,h=>by simp only[s8]at h;simp only[C.wfs];exact h
 |f::fs,o::os,vs,cs,h=>by
  simp only[s8]at h
  obtain⟨c,cs',rfl,_,h2,h3⟩:=h
  simp only[C.wfs]
  exact⟨c,cs',rfl,z7.wf h2,s8.wf h3⟩
 |_::_,[],_,_,h=>by simp[s8]at h
end
mutual
def V.wf:V→Prop
 | .d τ c=>C.wf τ c
 | .sl eb e cs _=>C.wf (.slice eb e) (.slice cs)
 | .ts eb e cs=>C.wf (.slice eb e) (.slice cs)
 | .sr _ _ _ n _ eb _=>n*eb≤140737488355328∧n≤9223372036854775807
 | .cptr τ c=>C.wf τ c
 | .agg _ vs=>V.wfs vs
 |_=>True
def V.wfs:List V→Prop
 | []=>True
 |x::xs=>x.wf∧V.wfs xs
end
mutual
theorem q8.wf {Γ:G} {hm:Option Key}:∀{x:V} {p:List Nat} {vs:List Value},q8 Γ hm p x vs→x.wf
 | .d τ c,_,_,h=>by simp only[q8]at h;exact h.wf
 | .sl eb e cs t,_,_,h=>by simp only[q8]at h;obtain⟨a,n,cap,_,h,_⟩:=h;exact h.wf
 | .ts eb e cs,_,_,h=>by simp only[q8]at h;obtain⟨a,n,cap,k,_,_,h,_⟩:=h;exact h.wf
 | .sr _ _ _ n _ eb _,_,_,h=>by
  simp only[q8]at h
  rcases h with⟨_,rfl,_⟩|⟨b,τ0,o,m,cap,_,_,_,_,h1,h2,h3,_⟩
  ·exact⟨by rw[Nat.zero_mul];exact Nat.zero_le _,Nat.zero_le _⟩
  exact⟨h3,by unfold maxLen at h2;omega⟩
 | .cptr τ c,_,_,h=>by simp only[q8]at h;obtain⟨b,off,l,_,_,_,h⟩:=h;exact h.wf
 | .agg _ vs,_,_,h=>by simp only[q8]at h;exact y4.wf h.2.2.2.2
 | .emp _ _,_,_,_| .nilc,_,_,_| .ptr _ _ _,_,_,_| .mp _,_,_,_| .fn _ _,_,_,_| .tup _,_,_,_| .top _,_,_,_| .any,_,_,_=>by simp only[V.wf]
theorem y4.wf {Γ:G} {hm:Option Key}:∀{xs:List V} {p:List Nat} {i:Nat} {τ:Ty} {vs:List Value},y4 Γ hm p i τ xs vs→V.wfs xs
 | [],_,_,_,_,_=>by simp only[V.wfs]
 |x::xs,_,_,_,_,h=>by
  simp only[y4]at h
  obtain⟨⟨o,f,_,_,_,h1⟩,h2⟩:=h
  exact⟨q8.wf h1,y4.wf h2⟩
end
def V.wfT:V→Prop
 | .tup xs=>V.wfs xs
 |x=>x.wf
theorem y9.wf {Γ:G}:∀{xs:List V} {vs:List Value},y9 Γ xs vs→V.wfs xs
 | [],_,_=>by simp only[V.wfs]
 |x::xs,_,h=>by
  simp only[y9]at h
  obtain⟨v,vs',_,h1,_,h2⟩:=h
  exact⟨q8.wf h1,y9.wf h2⟩
theorem q9.wf {Γ:G} {x:V} {v:Value} (h:q9 Γ x v):x.wfT:=by
 cases x
 case any=>simp only[V.wfT,V.wf]
 case tup xs=>obtain⟨vs,_,h⟩:=h;exact h.wf
 all_goals exact q8.wf h.1
def O.wf:O→Prop
 | .box x=>x.wf
 | .map _ _ es=>∀c∈es,c.2.wf
 | .it _ _| .dead _=>True
structure WF (s:S):Prop where
 slot:∀t,(s.get t).wfT
 obj:∀k x,s.obj k=some (.box x)→x.wf
section
variable {X:Cx} {n:Nat} {s:S} {Ψ:Exit→S→Prop} {c:Code}
theorem At.wf {Γ0:G} {a:Act} {w:World} (h:At X n Γ0 s a w):WF s:=by
 obtain⟨Γ,_,_,c,hs,_⟩:=h
 refine⟨fun t=>(hs t).wf,fun k x hk=>?_⟩
 rcases c.obj k _ hk with⟨_,e,rfl⟩|⟨b,cells,T,_,_,_,_,_,h,_⟩
 ·simp[V.wf,C.wf,C.elems]
 exact h.wf
theorem WF.at {t:Nat} {x:V} (h:WF s) (ht:s.get t=x):x.wfT:=ht ▸ h.slot t
end
theorem y3Y {k:IntKind} {n:Int} (h1:k.min≤n) (h2:n≤k.max):k.wrap n=n:=by
 cases k <;> simp[IntKind.wrap,IntKind.min,IntKind.max,IntKind.bits,IntKind.signed]at h1 h2 ⊢ <;> omega
end Go.E
namespace Go.E
open Go
attribute [go_sem] eq_self Option.bind_some Option.bind_none Option.map_some Option.map_none Bool.not_true Bool.not_false decide_true decide_false forall_const true_implies false_implies
attribute [go_sem] implies_true not_true not_false_iff sop iop kop fop sl3 z7P q4T z3d lk List.head?_cons List.tail_cons List.head?_nil
attribute [go_sem] strOf Ty.z68 Op.operands Call.operands H2 H0 top z9V pv q1C z0a z6l q5V
attribute [go_sem] q4N q1B q5C k9 V.q1M cut y2C z9I z9K z9J z9H z5i
attribute [go_sem] z5h z5k z5j z6n z6o z6m z5l z3F q5W z9L Bool.false_eq_true if_true if_false q3y q4G q7N q2K BinOp.q27
attribute [go_sem] y6 y5 z7L q3X Y9 V.slot q2i V.q0Q V.X1 V.tkR S.start
attribute [go_sem] get_nil y2v y2w y5i y45 y5C z9S z6G y4k y1f
attribute [go_sem] z63 y5Y O.ren V.ren V.q0C z1q q9J q6t z6q q9K z2g
attribute [go_sem] E.look z6 Nat.zero_ne_one Nat.one_ne_zero c4 W3 c9 j7 q0r Q1 q3I gOk
attribute [go_sem] tOk S.ret q2z q3q q20 dn rk dnL dnT U6 q40 Z1
attribute [go_sem] V.sites V.q9f V.o9 V.q1x V.okH V.z6E V.k6 V.F9 q1q Option.getD_some Option.getD_none or_false
attribute [go_sem] false_or and_true true_and and_self or_true true_or or_self List.nil_append List.cons_append List.append_nil V.isInt V.Z4
attribute [go_sem] V.isBool V.isStr V.Q4 y33 y2o y32 y5Z x5 Y8 x8 X4 z5N
attribute [go_sem] y12 y2l y40 y2i y4R V.setAt V.set C.set Y3 b6 q3J
attribute [go_sem] q4c V.ty V.plain V.u0 V.c6 V.q3Z view views s7 Q8 List.map_cons List.map_nil
attribute [go_sem] List.getD_cons_zero List.getD_cons_succ List.set_cons_zero List.set_cons_succ List.all_cons List.all_nil Array.getD_eq_getD_getElem? ne_eq not_false_eq_true not_true_eq_false Ty.size y1n
attribute [go_sem] y1w z9Z z97 y1k y1t z8m z8o y1o y1x y1l y1u y1m
attribute [go_sem] y1v z9Y z96 z8n z8p y1Y z90 y00 Option.isSome_some Option.isSome_none List.getElem?_toArray List.getElem?_cons_zero
attribute [go_sem] List.getElem?_cons_succ List.size_toArray List.length_cons List.length_nil Nat.lt_add_one Nat.zero_lt_succ Bool.and_true Bool.true_and Bool.or_true Bool.true_or Bool.or_false Bool.false_or
attribute [go_sem] cond_true cond_false Key.l.injEq Key.g.injEq Bool.and_eq_true List.contains_nil List.contains_cons Bool.and_self decide_eq_true_eq Nat.not_lt_zero List.replicate List.replicate_zero
@[go_sem] theorem y6y (k:IntKind):u9 (.int k)= .int 0:=rfl
@[go_sem] theorem y5V:u9 .bool= .bool false:=rfl
@[go_sem] theorem y6v:u9 .str= .str []:=rfl
@[go_sem] theorem y5F (eb:Nat) (e:Ty):u9 (.slice eb e)= .slice []:=rfl
@[go_sem] theorem y6w:u9 .ptr= .nil:=rfl
@[go_sem] theorem y6x:u9 .map= .nil:=rfl
@[go_sem] theorem y5U:u9 .func= .nil:=rfl
@[go_sem] theorem y5G:u9 .iface= .nil:=rfl
attribute [go_sem] o5 V.d.injEq V.emp.injEq
attribute [go_sem] false_and and_false q68 gv
attribute [go_sem] q2A q0z q6e q5B q69 q1i q7R q7Q F1 H4 q0L q3h V.u2 V.q01 O.u2 V.ok V.oks V.q0p q0f O.okB O.ok j9 c8 List.isEmpty_nil List.isEmpty_cons Option.isSome_some Option.isSome_none
section
variable {X:Cx} {n:Nat} {c:Code} {Ψ:Exit→S→Prop} {md:List (Nat × Nat)} {ops:Array Oper} {Φ:S→Prop} {m:List Unit} {l:List Oper} {ts:List Nat} {dst:Nat} {o:Oper} {K:V→S→Prop} {s s' b b':S}
attribute [go_sem] lop false_or false_and
end
end Go.E
namespace Go.E
open Go
section
variable {X:Cx} {n:Nat} {s:S} {Ψ:Exit→S→Prop}
theorem z1C {Γ0:G} {ι:Type} (I:ι→S) (μ:ι→Nat) {a:Act} {w:World} (h:∃i,At X n Γ0 (I i) a w):∃m,∃i,At X n Γ0 (I i) a w∧μ i=m∧∀j,At X n Γ0 (I j) a w→m≤μ j:=by
 obtain⟨i,hi⟩:=h
 have:∀m i,μ i=m→At X n Γ0 (I i) a w→∃m,∃i,At X n Γ0 (I i) a w∧μ i=m∧∀j,At X n Γ0 (I j) a w→m≤μ j:=by
  intro m
  induction m using Nat.strongRecOn with
  |_ m ih=>
   intro i hm hi
   by_cases h:∃j,At X n Γ0 (I j) a w∧μ j<m
   ·obtain⟨j,hj,hlt⟩:=h
    exact ih _ hlt j rfl hj
   ·exact⟨m,i,hi,hm,fun j hj=>Nat.le_of_not_lt fun hlt=>h ⟨j,hj,hlt⟩⟩
 exact this _ i rfl hi
theorem y3l {c rest:Code} (l:Nat) (hf:findLabel c l=some rest) {ι:Type} (I:ι→S) (μ:ι→Nat)
  (first:DC X n c s fun e s'=>match e with| .goto l'=>l'=l∧∃i,q0g X n s' (I i)|e=>Ψ e s')
  (pass:∀i,DC X n rest (I i) fun e s'=>match e with| .goto l'=>l'=l∧∃j,q0g X n s' (I j)∧μ j<μ i|e=>Ψ e s'):DC X n (.scope c) s Ψ:=by
 intro Γ0 a w hat
 open Classical in
 refine wp_scope_jumps l (fun a w=>∃i,At X n Γ0 (I i) a w) (fun a w=>if h:∃i,At X n Γ0 (I i) a w then Classical.choose (z1C I μ h)else 0) hf ?_ ?_
 ·refine wp_mono (first Γ0 a w hat) ?_
  rintro e a' w' ⟨s',h1,h2⟩
  cases e with
  |goto l'=>
   obtain⟨e1,i,hi⟩:=h1
   exact⟨e1,i,hi Γ0 a' w' h2⟩
  |normal|exit _|ret|panic _|outgrown=>exact⟨s',h1,h2⟩
 ·intro a w hI
  obtain⟨i,hi,hm,hmin⟩:=Classical.choose_spec (z1C I μ hI)
  refine wp_mono (pass i Γ0 a w hi) ?_
  rintro e a' w' ⟨s',h1,h2⟩
  cases e with
  |goto l'=>
   obtain⟨e1,j,hj,hlt⟩:=h1
   have hat':=hj Γ0 a' w' h2
   have hI':∃i,At X n Γ0 (I i) a' w':=⟨j,hat'⟩
   refine⟨e1,hI',?_⟩
   obtain⟨i',hi',hm',hmin'⟩:=Classical.choose_spec (z1C I μ hI')
   have:=hmin' j hat'
   rw[dif_pos hI',dif_pos hI]
   omega
  |normal|exit _|ret|panic _|outgrown=>exact⟨s',h1,h2⟩
theorem q5j {c:Code} (h:DC X n c s fun e s'=>match e with| .goto _=>False|e=>Ψ e s'):DC X n (.scope c) s Ψ:=by
 intro Γ0 a w hat
 refine wp_scope_straight (wp_mono (h Γ0 a w hat) ?_)
 rintro e a' w' ⟨s',h1,h2⟩
 cases e with
 |goto l'=>exact h1.elim
 |normal|exit _|ret|panic _|outgrown=>exact⟨s',h1,h2⟩
theorem y2f {t u eb:Nat} {e:Ty} (hu:s.known u=false) (ht:s.get t= .nilc∨s.get t= .emp eb e):q0g X n s (S.set {s with tk:=(u,some 0)::s.tk} (some t) (.sl eb e [] u)):=by
 rintro Γ0 a w ⟨Γ,g1,g3,c,hs,hn,hf,hA⟩
 obtain⟨c1,p1,g2⟩:=c.Z0 hu (x:=none) (L:=0) (fun _ _ _ h=>by cases h)
 refine⟨Γ.Z0 u none 0,g1.trans g2,g2.gl.trans g3,q6b c1 _ _,fun i=>?_,hn,hf,hA⟩
 rw[q2v]
 split
 ·rename_i e1
  cases e1
  have h0:=hs t
  obtain⟨a0,ha⟩:∃a0,a.tmps.getD t undef= .slice a0 0 0:=by
   rcases ht with h|h
   ·rw[h]at h0;exact⟨none,Q6 h0⟩
   ·rw[h]at h0
    obtain⟨h1,_⟩:=(w4 rfl rfl).1 h0
    simp only[q8]at h1
    obtain⟨a0,h1⟩:=h1
    exact⟨a0,by simpa using h1⟩
  rw[ha]
  refine(w4 rfl rfl).2 ⟨?_,rfl⟩
  simp only[q8]
  exact⟨a0,0,0,rfl,v8 rfl (Nat.le_refl _) (Nat.zero_le _) (by rw[Nat.zero_mul];exact Nat.zero_le _) (.inl rfl),none,0,by simp[G.Z0,r8],Nat.le_refl _,fun _=>rfl⟩
 ·exact(hs i).o8 p1
end
attribute [go_sem] q5d tkW W0
end Go.E
namespace Go.E
open Go
theorem C.y28 (a b:C):C.eqb a b=C.eqb b a:=by
 rw[Bool.eq_iff_iff,C.J4,C.J4];exact eq_comm
theorem z4A {α:Type}:∀(es:List (C × α)) (c:C) (v:α) (c':C),q0y (q0U es c v) c'=if C.eqb c' c=true then some v else q0y es c'
 | [],c,v,c'=>by simp only[q0U,q0y]
 |(k,u)::es,c,v,c'=>by
  simp only[q0U]
  by_cases h:C.eqb c k=true
  ·rw[if_pos h]
   have:=C.J4.1 h
   subst this
   simp only[q0y]
   split <;> rfl
  ·rw[if_neg h]
   simp only[q0y]
   by_cases h':C.eqb c' k=true
   ·rw[if_pos h',if_pos h']
    have:=C.J4.1 h'
    subst this
    have:C.eqb c' c=false:=by
     cases hh:C.eqb c' c with
     |false=>rfl
     |true=>rw[C.y28]at hh;exact absurd hh h
    rw[this];simp
   ·rw[if_neg h',if_neg h',z4A es c v c']
noncomputable def y42 (nx:C→C) (c v:C):C→C:=fun c'=>if C.eqb c' c=true then v else nx c'
structure z7Z (P:Program) (et:TypeId) (τ:Ty) (es:List (C × V)) (nx:C→C):Prop where
 look:∀c,q2t P et es c= .d τ (nx c)
 all:∀f g,V.q0p f g es=true
 dat:q0f τ es=true
theorem z6B {f g:Nat→Bool}:∀{es:List (C × V)} {c:C} {v:V},V.q0p f g es=true→v.ok f g=true→V.q0p f g (q0U es c v)=true
 | [],c,v,_,hv=>by simp only[q0U,V.q0p,hv,Bool.and_true]
 |(k,u)::es,c,v,h,hv=>by
  simp only[V.q0p,Bool.and_eq_true]at h
  simp only[q0U]
  split
  ·simp only[V.q0p,hv,h.2,Bool.and_true]
  ·simp only[V.q0p,h.1,z6B h.2 hv,Bool.and_true]
theorem z42 {τ:Ty}:∀{es:List (C × V)} {c v:C},q0f τ es=true→q0f τ (q0U es c (.d τ v))=true
 | [],c,v,_=>by simp only[q0U,q0f,(Ty.beq_iff τ τ).2 rfl,Bool.and_true]
 |(k,u)::es,c,v,h=>by
  simp only[q0f,Bool.and_eq_true]at h
  simp only[q0U]
  split
  ·simp only[q0f,(Ty.beq_iff τ τ).2 rfl,h.2,Bool.and_true]
  ·simp only[q0f,h.1,z42 h.2,Bool.and_true]
theorem z7Z.put {P:Program} {et:TypeId} {τ:Ty} {es:List (C × V)} {nx:C→C} (h:z7Z P et τ es nx) (c v:C):z7Z P et τ (q0U es c (.d τ v)) (y42 nx c v):=by
 refine⟨fun c'=>?_,fun f g=>z6B (h.all f g) rfl,z42 h.dat⟩
 have:=h.look c'
 unfold q2t at this ⊢
 rw[z4A]
 unfold y42
 by_cases e:C.eqb c' c=true
 ·rw[if_pos e,if_pos e];rfl
 ·rw[if_neg e,if_neg e];exact this
theorem z7Z.nil {P:Program} {et:TypeId} {τ:Ty} (h:o5 (ty P et)= .d τ (u9 τ)):z7Z P et τ [] (fun _=>u9 τ):=⟨fun c=>by
 unfold q2t;simp only[q0y,Option.getD_none];exact h,fun _ _=>rfl,rfl⟩
section
variable {X:Cx} {n:Nat} {s:S} {Ψ:Exit→S→Prop}
end
attribute [go_sem] Ty.flat V.k6 V.F9
end Go.E
namespace Go.E
open Go
mutual
def V.q0D:V→V
 | .emp eb e=>.ts eb e []
 | .agg τ vs=>.agg τ (V.q4A vs)
 |x=>x
def V.q4A:List V→List V
 | []=>[]
 |x::xs=>x.q0D::V.q4A xs
end
theorem V.z0q (x:V):x.q0D.ty=x.ty:=by cases x <;> simp[V.q0D,V.ty]
theorem V.y0m (x:V):x.q0D.plain=x.plain:=by cases x <;> simp[V.q0D,V.plain]
theorem V.q9R:∀xs:List V,(V.q4A xs).length=xs.length
 | []=>rfl
 |x::xs=>by simp[V.q4A,V.q9R xs]
mutual
theorem V.z4S:∀x:V,x.q0D.u0=x.u0
 | .agg τ vs=>by simp only[V.q0D,V.u0];exact V.z2W vs
 | .emp _ _| .sl _ _ _ _| .ptr _ _ _| .sr _ _ _ _ _ _ _| .mp _| .d _ _| .ts _ _ _| .nilc| .cptr _ _| .top _| .any| .fn _ _| .tup _=>by simp[V.q0D,V.u0]
theorem V.z2W:∀xs:List V,V.c6 (V.q4A xs)=V.c6 xs
 | []=>rfl
 |x::xs=>by simp only[V.q4A,V.c6,V.z4S x,V.z2W xs]
end
section
variable {Γ:G} {k:Key}
mutual
theorem q8.q0D:∀(x:V) {p:List Nat} {vs:List Value},q8 Γ (some k) p x vs→q8 Γ (some k) p x.q0D vs
 | .emp eb e,p,vs,h=>by
  simp only[q8,V.q0D]at h ⊢
  obtain⟨a,rfl⟩:=h
  exact⟨a,0,0,k,rfl,rfl,v8 rfl (Nat.le_refl _) (Nat.zero_le _) (by rw[Nat.zero_mul];exact Nat.zero_le _) (.inl rfl),.inl rfl⟩
 | .agg τ xs,p,vs,h=>by
  simp only[q8,V.q0D]at h ⊢
  exact⟨h.1,h.2.1,by rw[V.q9R];exact h.2.2.1,h.2.2.2.1,y4.q0D xs h.2.2.2.2⟩
 | .sl _ _ _ _,_,_,h| .ptr _ _ _,_,_,h| .sr _ _ _ _ _ _ _,_,_,h| .mp _,_,_,h| .d _ _,_,_,h| .ts _ _ _,_,_,h| .nilc,_,_,h| .cptr _ _,_,_,h| .top _,_,_,h| .any,_,_,h| .fn _ _,_,_,h| .tup _,_,_,h=>h
theorem y4.q0D:∀(xs:List V) {p:List Nat} {i:Nat} {τ:Ty} {vs:List Value},y4 Γ (some k) p i τ xs vs→y4 Γ (some k) p i τ (V.q4A xs) vs
 | [],_,_,_,_,_=>by simp only[V.q4A,y4]
 |x::xs,_,_,_,_,h=>by
  simp only[y4,V.q4A,V.z0q]at h ⊢
  obtain⟨⟨o,f,h1,h2,h3,h4⟩,h5⟩:=h
  exact⟨⟨o,f,h1,h2,h3,q8.q0D x h4⟩,y4.q0D xs h5⟩
end
end
theorem y0S {X:Cx} {n:Nat} {s:S} {k:Key} {x:V} (h:s.obj k=some (.box x)):q0g X n s (s.put k (.box x.q0D)):=by
 rintro Γ0 a w ⟨Γ,g1,g3,c,hs,hn,hf,hA⟩
 refine⟨Γ,g1,g3,⟨c.hH,c.hZ,c.hκ,fun j o hj=>?_,fun j hj=>?_,c.q5a (fun j hj=>?_),c.tok,c.tdom,c.hgl,c.hoo,c.hσ⟩,hs,hn,hf,hA⟩
 ·rw[b8]at hj
  split at hj
  ·rename_i e
   subst e;cases hj
   rcases c.obj _ _ h with⟨hn,e,rfl⟩|⟨b,cells,T,h1,h2,h3,h4,h5,h6,h7,h8⟩
   ·exact .inl ⟨hn,e,rfl⟩
   exact .inr ⟨b,cells,T,by rw[V.z0q];exact h1,h2,h3,h4,by rw[V.z0q];exact h5,by rw[V.z0q];exact q8.q0D x h6,by rw[V.y0m];exact h7,by rw[V.z4S];exact h8⟩
  ·exact c.obj j o hj
 ·rw[b8]
  split
  ·simp
  ·exact c.dom j hj
 ·unfold S.o6 at hj ⊢
  rw[b8]
  split
  ·rename_i e;subst e;rw[h]at hj;cases hj
  ·exact hj
attribute [go_sem] V.q0D V.q4A
end Go.E
namespace Go.E
open Go
theorem y31 {X:Cx} {n:Nat} {s s':S} {Γ0 Γ:G} {a:Act} {w:World} (g1:GLe Γ0 Γ) (g3:Γ.gl=X.gl) (c:z8 Γ w s) (hs:q1u Γ s a.tmps) (hn:a.tmps.size=n) (hf:a.defers=[]) (hAok:AOk s.A) (hA:s'.A=s.A) (hloc:q2A s s'.loc) (hlok:q0z (j9 s'.loc) (W0 s'.tk) s'.loc=true) (hg:q6e s'.loc s.A s.loc)
  (htk:tkW s s'.tk) (henv:q5d (j9 s'.loc) (W0 s'.tk) s s'.env):GLe Γ0 (Γ.part (j9 s'.loc) (W0 s'.tk))∧(Γ.part (j9 s'.loc) (W0 s'.tk)).gl=X.gl∧z8 (Γ.part (j9 s'.loc) (W0 s'.tk)) w s'∧q1u (Γ.part (j9 s'.loc) (W0 s'.tk)) s' a.tmps∧a.tmps.size=n∧a.defers=[]∧AOk s'.A:=by
 have sub:Sub Γ (Γ.part (j9 s'.loc) (W0 s'.tk)) (j9 s'.loc) (W0 s'.tk):=
  ⟨rfl,rfl,rfl,rfl,rfl,fun _=>rfl,fun n h=>by simp[G.part,h],fun t h=>by simp[G.part,h],fun _ _ _ _ _=>rfl⟩
 refine⟨⟨g1.H,g1.Z,g1.ZH,g1.g,g1.gl,g1.oo,g1.σ,g1.gn⟩,g3,c.sub sub rfl (fun n h=>by simp[G.part,h]) hA hAok hloc hlok hg (fun b o sz h=>⟨o,h,fun _ h=>h⟩) (fun t L h=>?_) (fun t h=>?_),fun i=>?_,hn,hf,by rw[hA];exact hAok⟩
 ·unfold S.live H7 at h
  cases hl:look s'.tk t with
  |none=>simp[hl]at h
  |some x=>
   cases x with
   |none=>simp[hl]at h
   |some M=>
    simp[hl]at h;subst h
    have hlive:s.live t=some M:=z1e htk hl
    obtain⟨x,a1,a2⟩:=c.tok t M hlive
    exact⟨x,by simp[G.part,W0,hl,a1],fun b pos sz hx=>a2 b pos sz hx⟩
 ·cases hh:W0 s'.tk t with
  |true=>exact hh
  |false=>simp[G.part,hh]at h
 ·cases hl:look s'.env i with
  |none=>simp[S.get,hl,q9]
  |some x=>
   obtain⟨e1,e2,e3⟩:=q9P henv hl
   have hget:s'.get i=x:=by simp[S.get,hl]
   rw[hget]
   by_cases hx:x= .any
   ·subst hx;trivial
   ·have hr:=hs i
    have e3:=e3.resolve_left hx
    refine q9.sub sub e2 ?_
    cases hsi:s.get i with
    |any=>
     rw[hsi]at e1
     cases x <;> simp[V.u2,s7]at e1 hx
    |tup us=>
     rw[hsi]at e1 hr
     cases x <;> simp[V.u2,s7]at e1 hx
     subst e1;exact hr
    |_=>
     rw[hsi]at e1 hr e3
     have hpl:q8 Γ none [] _ (a.tmps.getD i undef).cells.toList∧_:=hr
     obtain⟨r1,r2⟩:=q8.u2 x _ e1 hpl.1
     have hxp:=V.q13 r1 hx
     exact(y8 hxp).2 ⟨r1,by rw[e3];exact hpl.2⟩
theorem z71 {X:Cx} {n:Nat} {s s':S} {t j:Nat} {τ:Ty} {x:V} {cc:C} (hslot:s.get t= .ptr (.l j) [] τ) (hobj:s.obj (.l j)=some (.box x)) (hcl:s7 x=some cc) (hτ:x.ty=τ) (hj:j9 s'.loc j=false)
  (hA:s'.A=s.A) (hloc:q2A s s'.loc) (hlok:q0z (j9 s'.loc) (W0 s'.tk) s'.loc=true) (hg:q6e s'.loc s.A s.loc)
  (htk:tkW s s'.tk) (henv:q5d (j9 s'.loc) (W0 s'.tk) s s'.env):q0g X n s (s'.set (some t) (.cptr τ cc)):=by
 rintro Γ0 a w ⟨Γ,g1,g3,c,hs,hn,hf,hAok⟩
 obtain⟨p1,p2,p3,p4,p5,p6,p7⟩:=y31 (X:=X) (n:=n) (s':=s') g1 g3 c hs hn hf hAok hA hloc hlok hg htk henv
 have hst:=hs t
 rw[hslot]at hst
 obtain⟨b,τ0,off,e1,i2,hv⟩:=X9 hst
 obtain⟨b2,cells,T,i1,e2,e3,e4,e5,e6,e7,e8⟩:=c.own e1 hobj
 rw[e1]at i1;cases i1
 simp only[Ty.walk,Option.some.injEq,Prod.mk.injEq]at i2
 obtain⟨rfl,_⟩:=i2
 have hdl:∀k o,s'.obj k=some o→s.o6 k=true→o.Y6=true:=by
  intro k o ho hd
  unfold S.obj c3 at ho
  cases hl:z6 s'.loc k with
  |some o1=>
   rw[hl]at ho;cases ho
   obtain⟨o0,h1,h2⟩:=q6D hloc hl
   rw[j6 h1]at hd
   exact O.z4K h2 hd
  |none=>
   cases k with
   |l n=>rw[hl]at ho;cases ho
   |g k=>
    have:=z0e hA hg hl
    unfold S.o6 at hd
    rw[←this]at hd
    have h2:S.obj s' (.g k)=some o:=by unfold S.obj c3;exact ho
    rw[h2]at hd;exact hd
 have hno:∀k τ o,(Γ.part (j9 s'.loc) (W0 s'.tk)).ι k=some (b,τ)→s'.obj k=some o→o.Y6=true:=by
  intro k τ' o hk hko
  have hk':Γ.ι k=some (b,τ')∧k≠.l j:=by
   cases k with
   |g k=>exact⟨hk,by simp⟩
   |l m=>
    simp only[G.part]at hk
    split at hk
    ·rename_i hm
     refine⟨hk,fun e=>?_⟩
     cases e;rw[hj]at hm;cases hm
    ·cases hk
  rcases c.inj k (.l j) b _ _ hk'.1 e1 with e|⟨e|e,_⟩
  ·exact absurd e hk'.2
  ·exact hdl k o hko e
  ·rw[j6 hobj]at e;cases e
 obtain⟨q1,q2,q3⟩:=p3.freeze e4 e2 hno
 have hrc:z7 Γ.H x.ty (chunk cells.toList 0 x.ty.size) cc:=q0P _ e6 hcl
 refine⟨_,⟨Hp.le_trans p1.H q3,p1.Z,fun b' hb'=>?_,p1.g,p1.gl,p1.oo,p1.σ,p1.gn⟩,p2,q6b q1 _ _,fun i=>?_,p5,p6,p7⟩
 ·refine(j3 _ _ fun e=>?_).trans (p1.ZH b' hb')
  subst e
  exact hb' (by rw[←g1.Z];exact e3)
 ·rw[q2v]
  split
  ·rename_i e
   cases e
   rw[hv]
   refine q0m (l:=cells.toList) (w9 _ _ _) (by rw[←hτ];simpa using e5) ?_
   rw[←hτ]
   exact hrc.mono q3
  ·exact(p4 i).o8 q2
theorem C.y2O:∀(cs:List C) (n:Nat),cs.length=n→cs=(List.range n).map fun i=>cs.getD i .nil:=by
 intro cs n h
 subst h
 refine List.ext_getElem (by simp) fun i h1 h2=>?_
 simp[List.getElem?_eq_getElem h1]
theorem C.z5V {sz:Nat} {os:List Nat} {fs:List Ty} {c:C} (h:C.wf (.struct sz os fs) c): .agg ((List.range fs.length).map c.get)=c:=by
 simp only[C.wf]at h
 obtain⟨h1,h2⟩:=h
 have hl:=C.z1U h2
 rw[h1]
 congr 1
 rw[←hl]
 exact(C.y2O c.elems _ rfl).symm
end Go.E
namespace Go.E
open Go Go.ChangeShapes Go.WideShapes
def q34 (w:World):Hp:=fun b=>match w.heap[b]? with
 |some (.cells c _ _)=>some c.toList
 |_=>none
theorem q9H {w:World} {a:Addr} {v:Value} (h:w.cell? a=some v):∃l,q34 w a.block=some l∧l[a.off]? =some v∧a.spot=none:=by
 unfold World.cell? at h
 unfold q34
 split at h
 ·rename_i c _ _ hc
  split at h
  ·cases h
  ·rename_i hs
   refine⟨c.toList,by simp[hc],by simpa using h,?_⟩
   cases hh:a.spot <;> simp_all
 ·cases h
mutual
def Ty.dat:Ty→Bool
 | .int _| .bool| .str=>true
 | .slice _ e=>e.dat&&decide (0<e.size)
 | .arr _ e=>e.dat&&decide (0<e.size)
 | .struct sz os fs=>Ty.z7J fs&&decide (os.length=fs.length)&&(List.range sz).all fun i=>(List.range fs.length).any fun j=>match os[j]?,fs[j]? with|some o,some f=>decide (o≤i)&&decide (i<o+f.size)|_,_=>false
 |_=>false
def Ty.z7J:List Ty→Bool
 | []=>true
 |f::fs=>f.dat&&Ty.z7J fs
end
theorem z7I:∀{fs:List Ty} {i:Nat} {f:Ty},Ty.z7J fs=true→fs[i]? =some f→f.dat=true
 | [],_,_,_,h=>by simp at h
 |g::fs,0,f,hd,h=>by simp[Ty.z7J]at hd h;rw[←h];exact hd.1
 |g::fs,i+1,f,hd,h=>by simp[Ty.z7J]at hd;exact z7I hd.2 (by simpa using h)
theorem q31 {α β:Type} {f:α→Option β}:∀{l:List α} {r:List β},l.mapM f=some r→∀i:Nat,l[i]?.bind f=r[i]?
 | [],r,h,i=>by simp at h;subst h;simp
 |x::l,r,h,i=>by
  rw[List.mapM_cons]at h
  cases hx:f x with
  |none=>simp[hx]at h
  |some y=>
   cases hl:l.mapM f with
   |none=>simp[hx,hl]at h
   |some ys=>
    simp[hx,hl]at h
    subst h
    cases i with
    |zero=>simp[hx]
    |succ i=>simpa using q31 hl i
theorem q5X {α β:Type} {f:α→Option β}:∀{l:List α} {r:List β},l.mapM f=some r→r.length=l.length
 | [],r,h=>by simp at h;subst h;rfl
 |x::l,r,h=>by
  rw[List.mapM_cons]at h
  cases hx:f x with
  |none=>simp[hx]at h
  |some y=>
   cases hl:l.mapM f with
   |none=>simp[hx,hl]at h
   |some ys=>
    simp[hx,hl]at h
    subst h
    simp[q5X hl]
theorem z1a {w:World} {base:Nat} {a:Addr} {n:Nat} {cs:List Value} (h:w.cells? base a n=some cs) (hn:0<n):
  ∃l,q34 w a.block=some l∧a.spot=none∧a.off+n≤l.length∧cs=chunk l a.off n:=by
 unfold World.cells? at h
 split at h
 ·have hl:=q5X h
  simp at hl
  have hg:=q31 h
  have h0:=hg 0
  cases hc:cs[0]? with
  |none=>simp at hc;subst hc;simp at hl;omega
  |some v0=>
   rw[hc]at h0
   simp[List.getElem?_range hn]at h0
   have e0:a.add 0=a:=by simp[Addr.add]
   rw[e0]at h0
   obtain⟨l,h1,h2,h3⟩:=q9H h0
   refine⟨l,h1,h3,?_,?_⟩
   ·have hlast:=hg (n-1)
    cases hc':cs[n-1]? with
    |none=>simp at hc';omega
    |some v1=>
     rw[hc']at hlast
     simp[List.getElem?_range (show n-1<n by omega)]at hlast
     obtain⟨l',g1,g2,_⟩:=q9H hlast
     have eb:(a.add (n-1)).block=a.block:=by unfold Addr.add;split <;> rfl
     have eo:(a.add (n-1)).off=a.off+(n-1):=by unfold Addr.add;split <;> simp_all
     rw[eb,h1]at g1;cases g1
     rw[eo]at g2
     have:=(List.getElem?_eq_some_iff.1 g2).1
     omega
   ·apply List.ext_getElem?
    intro i
    by_cases hi:i<n
    ·have:=hg i
     simp[List.getElem?_range hi]at this
     cases hc':cs[i]? with
     |none=>simp at hc';omega
     |some v1=>
      rw[hc']at this
      obtain⟨l',g1,g2,_⟩:=q9H this
      have eb:(a.add i).block=a.block:=by unfold Addr.add;split <;> rfl
      have eo:(a.add i).off=a.off+i:=by unfold Addr.add;split <;> simp_all
      rw[eb,h1]at g1;cases g1
      rw[eo]at g2
      simp[chunk,List.getElem?_take,hi,g2]
    ·rw[List.getElem?_eq_none (by omega)]
     simp[chunk,List.getElem?_take,hi]
 ·cases h
theorem q1y {a b:List Nat} (h:(a++b).all (·≤reachBytes)=true):a.all (·≤reachBytes)=true∧b.all (·≤reachBytes)=true:=by
 simpa[List.all_append]using h
theorem q3R {H:Type} {P:Program} {e:TypeId}:∀{l:List (DataW H)} {i:Nat} {d:DataW H},l[i]? =some d→(DataW.weightsAll P e l).all (·≤reachBytes)=true→(d.weights P e).all (·≤reachBytes)=true
 | [],i,d,h,_=>by simp at h
 |x::l,0,d,h,hw=>by
  simp at h;subst h
  simp only[DataW.weightsAll]at hw
  exact(q1y hw).1
 |x::l,i+1,d,h,hw=>by
  simp only[DataW.weightsAll]at hw
  exact q3R (by simpa using h) (q1y hw).2
theorem q3e {H:Type} {P:Program}:∀{ts:List TypeId} {l:List (DataW H)} {i:Nat} {t:TypeId} {d:DataW H},ts[i]? =some t→l[i]? =some d→(DataW.weightsEach P ts l).all (·≤reachBytes)=true→(d.weights P t).all (·≤reachBytes)=true
 | [],_,i,t,d,h,_,_=>by simp at h
 |_::_,[],i,t,d,_,h,_=>by simp at h
 |t::ts,x::l,0,t',d,ht,h,hw=>by
  simp at ht h;subst ht;subst h
  simp only[DataW.weightsEach]at hw
  exact(q1y hw).1
 |t::ts,x::l,i+1,t',d,ht,h,hw=>by
  simp only[DataW.weightsEach]at hw
  exact q3e (by simpa using ht) (by simpa using h) (q1y hw).2
theorem q8O {vs:List Value} (h:∀i:Nat,i<vs.length→∃o m,o≤i∧i<o+m∧U5 (chunk vs o m)):U5 vs:=by
 intro v hv
 obtain⟨i,hi,rfl⟩:=List.getElem_of_mem hv
 obtain⟨o,m,h1,h2,h3⟩:=h i hi
 refine h3 _ ?_
 refine List.mem_of_getElem? (i:=i-o) ?_
 simp only[chunk,List.getElem?_take,List.getElem?_drop]
 rw[if_pos (by omega),show o+(i-o)=i by omega,List.getElem?_eq_getElem hi]
mutual
def cOf {H:Type}:DataW H→C
 | .lit (.bool b)=>.bool b
 | .lit (.int _ n)=>.int n
 | .lit (.string l)=>.str l
 | .nil=>.slice []
 | .slice es _=>.slice (q60 es)
 | .agg ps=>.agg (q60 ps)
 |_=>.nil
def q60 {H:Type}:List (DataW H)→List C
 | []=>[]
 |d::ds=>cOf d::q60 ds
end
theorem q8w {H:Type}:∀{ds:List (DataW H)} {i:Nat},(q60 ds)[i]? =(ds[i]?).map cOf
 | [],i=>by simp[q60]
 |d::ds,0=>by simp[q60]
 |d::ds,i+1=>by simp[q60,q8w]
theorem q8v {H:Type}:∀{ds:List (DataW H)},(q60 ds).length=ds.length
 | []=>rfl
 |d::ds=>by simp[q60,q8v]
section
variable {H:Type} {enc:TypeId × Value→H} {P:Program} {w:World}
theorem q2D (hP:x4 P=true) {base:Nat} {held:Bool} {sp:Nat→Bool} (hsp:∀b,sp b=true):∀(fuel f:Nat) {t:TypeId} {cs:List Value} {d:DataW H} {ps:List MemPlace},t<P.types.size→(tyF P f t).dat=true→
  DataW.trod enc P w base sp held fuel t cs=some (d,ps)→(d.weights P t).all (·≤reachBytes)=true→z7 (q34 w) (tyF P f t) cs (cOf d)
 |0,f,t,cs,d,ps,_,_,h,_=>by simp[DataW.trod]at h
 |fuel+1,0,t,cs,d,ps,_,hf,h,_=>by simp[tyF,Ty.dat]at hf
 |fuel+1,f+1,t,cs,d,ps,ht,hf,h,hw=>by
  have hok:=q15 hP ht
  unfold okT at hok
  unfold tyF at hf ⊢
  rw[if_pos ht]at hf ⊢
  cases hu:P.underlying t with
  |none=>simp[hu,Ty.dat]at hf
  |some desc=>
   simp only[hu]at hf hok ⊢
   cases desc with
   |bool=>
    unfold DataW.trod at h
    simp only[hu]at h
    split at h <;> simp_all
    rw[←h.1]
    simp[z7,cOf]
   |int k=>
    unfold DataW.trod at h
    simp only[hu]at h
    split at h <;> simp_all
    obtain⟨⟨rfl,hh⟩,hd,_⟩:=h
    simp[Lit.wf]at hh
    rw[←hd]
    simp[z7,cOf];omega
   |string=>
    unfold DataW.trod at h
    simp only[hu]at h
    split at h <;> simp_all
    obtain⟨hh,rfl,_⟩:=h
    simp[DataW.weights,reachBytes]at hw
    simp only[z7,cOf]
    exact⟨_,rfl,by simp,by simp;omega⟩
   |slice e=>
    simp only[Ty.dat,Bool.and_eq_true,decide_eq_true_eq]at hf
    simp only[Bool.and_eq_true,beq_iff_eq,decide_eq_true_eq]at hok
    have hsz:(tyF P f e).size=P.cellsOf e:=k7 hP f e
    unfold DataW.trod at h
    simp only[hu]at h
    split at h <;> try (simp_all;done)
    ·simp only[Option.some.injEq,Prod.mk.injEq]at h
     rw[←h.1]
     simp only[z7,cOf]
     exact⟨none,0,0,[],rfl,rfl,rfl,Nat.le_refl _,by simp[maxLen],by simp,.inl rfl⟩
    ·rename_i e' a len cap he
     simp at he;subst he
     split at h
     ·rename_i hc
      simp only[Option.bind_eq_some_iff,Option.map_eq_some_iff]at h
      obtain⟨elems,he1,rest,he2,he3⟩:=h
      simp only[Prod.mk.injEq]at he3
      obtain⟨rfl,_⟩:=he3
      simp only[DataW.weights,hu,List.all_cons,Bool.and_eq_true,decide_eq_true_eq]at hw
      obtain⟨hw1,hw2⟩:=hw
      obtain⟨hw2,hw3⟩:=q1y hw2
      have hl:=q5X he1
      simp at hl
      have hbound:len*P.bytesOf e≤140737488355328:=by
       have:len*P.bytesOf e≤(elems.length+rest.length)*P.bytesOf e:=Nat.mul_le_mul_right _ (by omega)
       simp[reachBytes]at hw1
       omega
      by_cases hz:len=0
      ·subst hz
       have:elems=[]:=by cases elems <;> simp_all
       subst this
       simp only[z7,cOf,List.map_nil,q60]
       exact⟨some a,0,cap,[],rfl,rfl,rfl,Nat.zero_le _,hc.2.2,by simp,.inl rfl⟩
      ·have key:∀i,i<len→∃l,q34 w a.block=some l∧a.spot=none∧(a.off+i*P.cellsOf e)+P.cellsOf e≤l.length∧∀x,elems[i]? =some x→z7 (q34 w) (tyF P f e) (chunk l (a.off+i*P.cellsOf e) (P.cellsOf e)) (cOf x.1):=by
        intro i hi
        have hg:=q31 he1 i
        rw[List.getElem?_range hi]at hg
        have hi':i<elems.length:=by omega
        rw[List.getElem?_eq_getElem hi']at hg
        simp only[Option.bind_some,Option.bind_eq_some_iff]at hg
        obtain⟨cs,hc1,hc2⟩:=hg
        obtain⟨l,q1,q2,q3,q4⟩:=z1a hc1 (by rw[←hsz];exact hf.2)
        have eb:(a.add (i*P.cellsOf e)).block=a.block:=by unfold Addr.add;split <;> rfl
        have eo:(a.add (i*P.cellsOf e)).off=a.off+i*P.cellsOf e:=by unfold Addr.add;split <;> simp_all
        have h0:a.spot=none:=by
         have hg0:=q31 he1 0
         rw[List.getElem?_range (by omega),List.getElem?_eq_getElem (by omega)]at hg0
         simp only[Option.bind_some,Option.bind_eq_some_iff]at hg0
         obtain⟨cs0,hc01,_⟩:=hg0
         obtain⟨_,_,q,_⟩:=z1a hc01 (by rw[←hsz];exact hf.2)
         simpa[Addr.add]using q
        rw[eb]at q1;rw[eo]at q3 q4
        subst q4
        have hcr:=q2D hP hsp fuel f hok.2 hf.1 hc2 (q3R (i:=i) (by simp[List.getElem?_map,List.getElem?_eq_getElem hi']) hw2)
        exact⟨l,q1,h0,q3,fun x hx=>by rw[List.getElem?_eq_getElem hi']at hx;cases hx;exact hcr⟩
       obtain⟨l,hl1,hl2,_,_⟩:=key 0 (by omega)
       simp only[z7,cOf]
       refine⟨some a,len,cap,_,rfl,rfl,by simp[q8v,hl],hc.2.1,hc.2.2,hbound,.inr ⟨a.block,a.off,l,?_,hl1,?_,fun i c hi=>?_⟩⟩
       ·cases a;simp_all
       ·rw[hsz]
        obtain⟨l',q1,_,q3,_⟩:=key (len-1) (by omega)
        rw[hl1]at q1;cases q1
        have:len*P.cellsOf e=(len-1)*P.cellsOf e+P.cellsOf e:=by
         rw[←Nat.succ_mul];congr 1;omega
        omega
       ·simp only[q8w,List.getElem?_map,Option.map_map,Option.map_eq_some_iff]at hi
        obtain⟨x,hx,rfl⟩:=hi
        have hi':i<len:=by
         have:=(List.getElem?_eq_some_iff.1 hx).1
         omega
        rw[hsz]
        obtain⟨l',q1,_,_,q4⟩:=key i hi'
        rw[hl1]at q1;cases q1
        exact q4 x hx
     ·cases h
   |array n e=>
    simp only[Ty.dat,Bool.and_eq_true,decide_eq_true_eq]at hf
    simp only[Bool.and_eq_true,beq_iff_eq,decide_eq_true_eq]at hok
    have hsz:(tyF P f e).size=P.cellsOf e:=k7 hP f e
    unfold DataW.trod at h
    simp only[hu]at h
    split at h
    ·rename_i hlen
     simp only[Option.map_eq_some_iff]at h
     obtain⟨elems,he1,he3⟩:=h
     simp only[Prod.mk.injEq]at he3
     obtain⟨rfl,_⟩:=he3
     simp only[DataW.weights,hu]at hw
     have hl:=q5X he1
     simp at hl
     have key:∀i x,elems[i]? =some x→z7 (q34 w) (tyF P f e) (chunk cs (i*P.cellsOf e) (P.cellsOf e)) (cOf x.1):=by
      intro i x hx
      have hg:=q31 he1 i
      have hi:i<n:=by have:=(List.getElem?_eq_some_iff.1 hx).1;omega
      rw[List.getElem?_range hi,hx]at hg
      simp only[Option.bind_some]at hg
      exact q2D hP hsp fuel f hok.2 hf.1 hg (q3R (i:=i) (by simp[List.getElem?_map,hx]) hw)
     simp only[z7,cOf]
     refine⟨_,rfl,by simp[q8v,hl],by rw[hsz,hlen,hok.1],q8O fun i hi=>?_,fun i c hi=>?_⟩
     ·have hi2:i / P.cellsOf e<n:=by
       rw[Nat.div_lt_iff_lt_mul (by omega)]
       omega
      have hc:=key (i / P.cellsOf e) _ (List.getElem?_eq_getElem (by omega))
      refine⟨_,_,?_,?_,hc.one⟩
      ·exact Nat.div_mul_le_self _ _
      ·have:=Nat.lt_div_mul_add (a:=i) (b:=P.cellsOf e) (by omega)
       omega
     ·simp only[q8w,List.getElem?_map,Option.map_map,Option.map_eq_some_iff]at hi
      obtain⟨x,hx,rfl⟩:=hi
      rw[hsz]
      exact key i x hx
    ·cases h
   |struct fs=>
    simp only[Ty.dat,Bool.and_eq_true,decide_eq_true_eq,List.all_eq_true,List.any_eq_true,List.mem_range]at hf
    simp only[List.all_eq_true,Bool.and_eq_true,decide_eq_true_eq]at hok
    obtain⟨⟨hf1,hf2⟩,hf3⟩:=hf
    unfold DataW.trod at h
    simp only[hu]at h
    split at h
    ·rename_i hlen
     simp only[Option.map_eq_some_iff]at h
     obtain⟨elems,he1,he3⟩:=h
     simp only[Prod.mk.injEq]at he3
     obtain⟨rfl,_⟩:=he3
     simp only[DataW.weights,hu]at hw
     have hl:=q5X he1
     have key:∀(i:Nat) g x,fs.toList[i]? =some g→elems[i]? =some x→z7 (q34 w) (tyF P f g.type) (chunk cs g.offset (P.cellsOf g.type)) (cOf x.1):=by
      intro i g x hi he
      have hg:=q31 he1 i
      rw[hi,he]at hg
      simp only[Option.bind_some]at hg
      exact q2D hP hsp fuel f (hok g (List.mem_of_getElem? hi)).1 (z7I (i:=i) hf1 (by simp only[List.getElem?_map,hi,Option.map_some])) hg
        (q3e (i:=i) (by simp only[List.getElem?_map,hi,Option.map_some]) (by simp only[List.getElem?_map,he,Option.map_some]) hw)
     simp only[z7,cOf]
     refine⟨_,rfl,hlen,q8O fun i hi=>?_,s8.q4O (by simp[q8v,hl]) fun i F c hF hc=>?_⟩
     ·obtain⟨j,hj,hj2⟩:=hf3 i (by omega)
      split at hj2
      ·rename_i o F ho hF
       simp at hj2
       simp only[List.getElem?_map,Option.map_eq_some_iff]at ho hF
       obtain⟨g,hg,rfl⟩:=ho
       obtain⟨g',hg',rfl⟩:=hF
       rw[hg]at hg';cases hg'
       have hjl:=(List.getElem?_eq_some_iff.1 hg).1
       have hc:=key j g _ hg (List.getElem?_eq_getElem (by omega))
       rw[k7 hP]at hj2
       exact⟨_,_,hj2.1,hj2.2,hc.one⟩
      ·cases hj2
     ·simp only[List.getElem?_map,q8w,Option.map_map,Option.map_eq_some_iff]at hF hc
      obtain⟨g,hg,rfl⟩:=hF
      obtain⟨x,hx,rfl⟩:=hc
      refine⟨g.offset,by simp only[List.getElem?_map,hg,Option.map_some],?_,?_⟩
      ·rw[k7 hP,hlen]
       exact(hok g (List.mem_of_getElem? hg)).2
      ·rw[k7 hP]
       exact key i g x hg hx
    ·cases h
   |_=>simp[Ty.dat]at hf
end
end Go.E
namespace Go.E
open Go Go.ChangeShapes Go.WideShapes Go.RowKit
def z1g (P:Program):Bool:=(List.range P.types.size).all fun t=>match P.underlying t with
 |some (.slice e)=>decide (0<P.cellsOf e)
 |_=>true
def z4h (w:World) (gl:Nat→Option (Ty × C)):Prop:=∀g τ c,gl g=some (τ,c)→∃l,q34 w g=some l∧τ.size≤l.length∧z7 (q34 w) τ (chunk l 0 τ.size) c
def z7a (P:Program):List (String × DataW Unit)→Nat→Option (Ty × C)
 | [],_=>none
 |(n,d)::r,g=>if P.globalNamed n=some g then(match(P.globals[g]?).map (·.type)with|some t=>some (ty P t,cOf d)|none=>none)else z7a P r g
def z2D (P:Program) (l:List (String × DataW Unit)):Bool:=l.all fun x=>match P.globalNamed x.1 with
 |some g=>match(P.globals[g]?).map (·.type)with
  |some t=>decide (t<P.types.size)&&(ty P t).dat&&(x.2.weights P t).all (·≤reachBytes)
  |none=>false
 |none=>false
theorem z4M {P:Program} (hP:x4 P=true) {w:World}:∀{l:List (String × DataW Unit)} {ps:List MemPlace},z2D P l=true→DataW.LaidVars P w l ps→z4h w (z7a P l)
 | [],_,_,_=>fun g τ c h=>by simp[z7a]at h
 |(n,d)::r,ps,hk,h=>by
  obtain⟨g0,t,cs,fuel,p,q,hg,ht,hv,hd,hr,_⟩:=h
  simp only[z2D,List.all_cons,Bool.and_eq_true,hg,ht,decide_eq_true_eq]at hk
  obtain⟨⟨⟨k1,k2⟩,k3⟩,k4⟩:=hk
  intro g τ c h
  simp only[z7a]at h
  split at h
  ·rename_i e
   rw[hg]at e;cases e
   rw[ht]at h
   simp at h
   obtain⟨rfl,rfl⟩:=h
   have hrep:=q2D hP (fun _=>rfl) fuel 12 k1 k2 hd k3
   simp only[World.var?,hg,Option.bind_some]at hv
   split at hv
   ·rename_i c T fr hc
    cases hv
    have hl:=hrep.length
    refine⟨cs.toList,by simp[q34,hc],by show(tyF P 12 t).size≤_;omega,?_⟩
    have:chunk cs.toList 0 (ty P t).size=cs.toList:=by
     show chunk cs.toList 0 (tyF P 12 t).size=_
     rw[←hl];exact q2f _
    rw[this]
    exact hrep
   ·cases hv
  ·exact z4M hP k4 hr g τ c h
theorem y2X {P:Program} (hP:x4 P=true) {w:World} {l:List (String × DataW Unit)} (hk:z2D P l=true) (hn:(l.all fun x=>x.2.handleName?.isNone)=true) (h:laidMetH P l w):z4h w (z7a P l):=by
 rw[MakeChecks.laidMetH_plain _ _ _ hn]at h
 obtain⟨ps,h1,_⟩:=h
 exact z4M hP hk h1
def G.start (w:World) (gl:Nat→Option (Ty × C)):G:=
 {H:=q34 w,Z:=fun b=>w.heap[b]?,ι:=fun _=>none,τ:=fun _=>none,κ:=fun _=>none,gl:=gl,oo:=oof w,σ:=fun _=>none}
theorem z2t (n:Nat):∀(ts:List Ty) (cs:List C),q2i n (List.zipWith V.d ts cs)=[]
 | [],_=>by simp[q2i]
 |_::_,[]=>by simp[q2i]
 |t::ts,c::cs=>by simp[q2i,V.q0Q,z2t (n+1) ts cs]
theorem z8I (n:Nat):∀(ts:List Ty) (cs:List C),Y9 n (List.zipWith V.d ts cs)=List.zipWith V.d ts cs
 | [],_=>by simp[Y9]
 |_::_,[]=>by simp[Y9]
 |t::ts,c::cs=>by simp[Y9,V.slot,z8I (n+1) ts cs]
theorem y0y {w:World} {gl:Nat→Option (Ty × C)} (h:z4h w gl) (ts:List Ty) (cs:List C):z8 (G.start w gl) w (S.start (List.zipWith V.d ts cs) fun _=>none):=by
 refine⟨fun b l hb=>?_,fun b o hb=>hb,fun b o sz hb=>by simp[G.start]at hb,fun k o hk=>?_,fun k hk=>absurd rfl hk,fun k k' b τ τ' hk=>by simp[G.start]at hk,fun t L ht=>?_,fun t ht=>absurd rfl ht,h,rfl,fun b sz hb=>by simp[G.start]at hb⟩
 ·simp only[G.start,q34]at hb
  split at hb
  ·rename_i c T fr hc
   cases hb
   exact⟨c,T,fr,[],hc,by simp⟩
  ·cases hb
 ·cases k <;> simp[S.start,S.obj,c3,z6]at hk
 ·simp[S.start,S.live,z2t,H7,look]at ht
theorem q6N {H:Type} {enc:TypeId × Value→H} {P:Program} {w:World} {base:Nat} {sp:Nat→Bool} {held:Bool}:∀{ts:List TypeId} {vs:List Value} {ds:List (DataW H)} {ps:List MemPlace},
  DataW.TrodAll enc P w base sp held ts vs ds ps→vs.length=ts.length∧ds.length=ts.length
 | [],vs,ds,ps,h=>by obtain⟨rfl,rfl,rfl⟩:=trodAll_nil h;simp
 |t::ts,vs,ds,ps,h=>by
  obtain⟨v,vs,d,ds,p,q,rfl,rfl,rfl,h1,h2⟩:=trodAll_cons h
  have:=q6N h2
  simp[this]
theorem z0J {H:Type} {enc:TypeId × Value→H} {P:Program} {w:World} {base:Nat} {sp:Nat→Bool} {held:Bool}:∀{ts:List TypeId} {vs:List Value} {ds:List (DataW H)} {ps:List MemPlace} {i:Nat} {t:TypeId} {v:Value} {d:DataW H},
  DataW.TrodAll enc P w base sp held ts vs ds ps→ts[i]? =some t→vs[i]? =some v→ds[i]? =some d→∃p,DataW.Trod enc P w base sp held t v d p
 | [],vs,ds,ps,i,t,v,d,h,ht,_,_=>by simp at ht
 |t::ts,vs,ds,ps,i,t',v',d',h,ht,hv,hd=>by
  obtain⟨v,vs,d,ds,p,q,rfl,rfl,rfl,h1,h2⟩:=trodAll_cons h
  cases i with
  |zero=>simp at ht hv hd;subst ht;subst hv;subst hd;exact⟨p,h1⟩
  |succ i=>exact z0J h2 (by simpa using ht) (by simpa using hv) (by simpa using hd)
theorem q9a {H:Type} {enc:TypeId × Value→H} {P:Program} (hl:laidOutB P=true) (hm:mapsRowed P=true) (hz:z1g P=true) {w w':World} (hh:∀b,b<w.heap.size→w'.heap[b]? =w.heap[b]?) {sp:Nat→Bool}:
  ∀{ts:List TypeId} {vs:List Value} {ds:List (DataW H)} {ps:List MemPlace},(∀t∈ts,t<P.types.size)→DataW.TrodAll enc P w 0 (fun _=>true) true ts vs ds ps→(∀p∈ps,sp p.block=true)→DataW.TrodAll enc P w' 0 sp true ts vs ds ps
 | [],vs,ds,ps,_,h,_=>by obtain⟨rfl,rfl,rfl⟩:=trodAll_nil h;exact trodAll_mk0
 |t::ts,vs,ds,ps,hts,h,hs=>by
  have hlt:=DataW.TrodAll.lt h
  obtain⟨v,vs,d,ds,p,q,rfl,rfl,rfl,⟨n,h1⟩,h2⟩:=trodAll_cons h
  refine⟨p,q,⟨n,DataW.trod_stays (kids_rows hl hm) (fun{t e} ht hu=>?_) (fun h=>by cases h) (hts t (by simp)) h1 (fun x hx=>?_) (fun x hx=>hs x (by simp[hx]))⟩,
   q9a hl hm hz hh (fun t ht=>hts t (by simp[ht])) h2 (fun x hx=>hs x (by simp[hx])),rfl⟩
  ·have:=List.all_eq_true.1 hz t (List.mem_range.2 ht)
   simp only[hu]at this
   simpa using this
  ·have:=hlt x (by simp;exact .inl hx)
   cases x with
   |cell b off=>simp only[World.sameAt,World.cell?];rw[hh b this]
   |map b=>simp only[World.sameAt];rw[hh b this]
theorem z6D {P:Program} {W:World} {base:Nat} {t:TypeId} {v:Value} (hd:(ty P t).dat=true) (h:Value.okWide P W .any base t v):x9 v=(ty P t).isAgg:=by
 unfold ty tyF at hd ⊢
 split at hd
 ·rename_i ht
  rw[if_pos ht]
  unfold Value.okWide at h
  cases hu:P.underlying t with
  |none=>simp[hu,Ty.dat]at hd
  |some d=>
   rw[hu]at h
   cases d <;> simp only[hu,Ty.dat,Ty.isAgg,Bool.false_eq_true]at hd h ⊢
   case struct=>obtain⟨cs,rfl,_⟩:=h;rfl
   case array=>obtain⟨cs,rfl,_⟩:=h;rfl
   all_goals
    unfold Cell.okWide at h
    rw[hu]at h
    cases v <;> simp[Cell.ok,hu]at h <;> rfl
 ·simp[Ty.dat]at hd
section
variable {H:Type} {enc:TypeId × Value→H} {P:Program}
theorem z6Z (hP:x4 P=true) (hl:laidOutB P=true) (hm:mapsRowed P=true) (hz:z1g P=true) {f:FuncId} {fn:Func} {s:ChangeSpec} {W:World} {base:Nat} {args:Array Value} {ds gs:List (DataW H)} {before:List MemPlace} {apart fresh handsOn again:Bool}
  (hp:fn.params.toList.all (fun t=>decide (t<P.types.size)&&(ty P t).dat)=true) {tb:TypeId} (hr:fn.resultTypes=#[tb]) (hb:P.underlying tb=some .bool) (hvars:s.vars=[])
  (hval:∀(j:Nat) t v,fn.params[j]? =some t→args[j]? =some v→Value.okWide P W .any base t v)
  (hW:DataW.Whole enc P fn.params.toList s.vars apart W args.toList ds gs before)
  (hwt:(DataW.weightsEach P fn.params.toList ds).all (·≤reachBytes)=true) {gl:Nat→Option (Ty × C)} (hgl:z4h W gl)
  (hfr:(s.fn H (ds++gs)).results=[.lit (.bool true)]) (hfa:(s.fn H (ds++gs)).args=ds) (hfv:(s.fn H (ds++gs)).vars=[])
  (law:Q2 ⟨P,gl⟩ f (List.zipWith V.d (fn.params.toList.map (ty P)) (ds.map cOf)) (fun _=>none) (.d .bool (.bool true)) []):
  Calls P f args W fun e W'=>∃v,e= .returned v∧s.post enc P fn apart fresh handsOn again W args v W':=by
 have hW':=hW
 obtain⟨p,q,hA,hV,rfl,hfz,hnd⟩:=hW
 rw[hvars]at hV
 obtain⟨rfl,rfl⟩:=trodVars_none hV
 have hlens:=q6N hA
 have hpar:∀t∈fn.params.toList,t<P.types.size∧(ty P t).dat=true:=by
  intro t ht
  have:=List.all_eq_true.1 hp t ht
  simpa using this
 refine(law (fun _=>none) (G.start W gl) W args (fun _ _ h=>h) rfl ⟨y0y hgl _ _,fun _ _ h=>nomatch h⟩ ?_ ?_).mono ?_
 ·simp only[List.length_zipWith,List.length_map,hlens.2]
  have:=hlens.1
  simp at this ⊢
  omega
 ·intro i x u hx hu
  rw[z8I,List.getElem?_zipWith]at hx
  split at hx
  ·rename_i τ c hτ hc
   cases hx
   simp only[List.getElem?_map,Option.map_eq_some_iff]at hτ hc
   obtain⟨t,ht,rfl⟩:=hτ
   obtain⟨d,hd,rfl⟩:=hc
   have hu':args.toList[i]? =some u:=by simpa using hu
   obtain⟨ps,fuel,htr⟩:=z0J hA ht hu' hd
   have hm:=hpar t (List.mem_of_getElem? ht)
   have hv:=hval i t u (by simpa using ht) hu
   refine(y8 rfl).2 ⟨?_,?_⟩
   ·simp only[q8]
    exact q2D hP (fun _=>rfl) fuel 12 hm.1 hm.2 htr (q3e ht hd hwt)
   ·simp only[V.ty]
    exact z6D hm.2 hv
  ·cases hx
 ·rintro e W' ⟨u,Γ',rfl,gle,c',hu⟩
  have hu':u= .bool true:=(Z2 hu).1
  subst hu'
  refine⟨_,rfl,?_⟩
  have hold:∀b,b<W.heap.size→W'.heap[b]? =W.heap[b]?:=by
   intro b hb
   have:Γ'.Z b=some W.heap[b]:=by rw[gle.Z];simp[G.start,hb]
   rw[c'.hZ b _ this];simp[hb]
  have hoo:oof W'=oof W:=by rw[c'.hoo,gle.oo];rfl
  have hpl:∀t∈fn.params.toList,t<P.types.size:=fun t ht=>(hpar t ht).1
  have hblt:∀x∈p,x.block<W.heap.size:=DataW.TrodAll.lt hA
  have hres:∀(b:Nat) (sp:Nat→Bool) (hd:Bool),DataW.TrodAll enc P W' b sp hd fn.resultTypes.toList ((Value.bool true).resultList fn.resultTypes.size) [.lit (.bool true)] []:=by
   intro b sp hd
   rw[hr]
   exact trodAll_mk1 (shut_bool hb _)
  have hstay:∀sp:Nat→Bool,(∀x∈p,sp x.block=true)→DataW.TrodAll enc P W' 0 sp true fn.params.toList args.toList ds p:=fun sp hs=>q9a hl hm hz hold hpl hA hs
  refine⟨ds,[],p++[],[],p,[],hW',?_,?_,?_,?_,fun _=>⟨?_,[.lit (.bool true)]++ds,[],([]++p)++[],⟨[]++p,[],trodAll_append (hstay _ (fun _ _=>rfl)) (hres _ _ _),by rw[hvars];rfl,rfl,?_,?_⟩,?_⟩⟩
  ·rw[hfr];exact hres _ _ _
  ·rw[hfa];exact hstay _ (fun x hx=>by simpa using hblt x hx)
  ·rw[hfv,hvars];rfl
  ·refine⟨congrArg Prod.fst hoo,congrArg Prod.snd hoo,fun i hi=>?_⟩
   rw[hold i hi]
   cases hc:W.heap[i]? with
   |none=>rfl
   |some o=>cases o <;> simp
  ·intro j t r hj hrr
   rw[hr]at hj hrr
   cases j with
   |zero=>
    simp at hj;subst hj
    have:r= .bool true:=by simpa[Value.resultList]using hrr.symm
    subst this
    exact okWide_bool_mk hb _
   |succ j=>simp at hj
  ·intro b off hx
   have hx':MemPlace.cell b off∈p:=by simpa using hx
   have:=hfz b off (by simpa using hx')
   unfold World.frozen? at this ⊢
   rw[hold b (hblt _ hx')]
   exact this
  ·intro ha
   simpa using hnd ha
  ·intro x hx _
   simpa using hx
end
end Go.E
namespace Go.E
open Go
def z5I {α:Type}:List (Nat × α)→Nat→List (Nat × α)
 | [],_=>[]
 |(j,x)::l,i=>if j=i then z5I l i else(j,x)::z5I l i
def z5J {α:Type}:List (Key × α)→Key→List (Key × α)
 | [],_=>[]
 |(j,x)::l,i=>if j=i then z5J l i else(j,x)::z5J l i
def S.less (s:S) (t j:Nat):S:=⟨z5I s.env t,z5J s.loc (.l j),s.A,s.tk⟩
attribute [go_sem] z5I z5J S.less
end Go.E
namespace Go.E
open Go
section
variable {X:Cx} {md:List (Nat × Nat)} {ops:Array Oper} {Φ:S→Prop} {rest:List Oper} {ts:List Nat} {o:Oper} {base s:S}
end
end Go.E
namespace Go.E
open Go
def y2L:Nat→List Nat→Bool
 |_,[]=>false
 |i,j::l=>if i=j then true else y2L i l
def z92 {α:Type}:List (Nat × α)→List Nat→List (Nat × α)
 | [],_=>[]
 |(j,x)::l,ks=>if y2L j ks then(j,x)::z92 l ks else z92 l ks
attribute [go_sem] y2L z92
mutual
def C.beq:C→C→Bool
 | .int a,.int b=>decide (a=b)
 | .bool a,.bool b=>a==b
 | .str a,.str b=>decide (a=b)
 | .agg a,.agg b=>C.q3L a b
 | .slice a,.slice b=>C.q3L a b
 | .nil,.nil=>true
 |_,_=>false
def C.q3L:List C→List C→Bool
 | [],[]=>true
 |x::xs,y::ys=>C.beq x y&&C.q3L xs ys
 |_,_=>false
end
mutual
theorem C.beq_iff:∀(a b:C),C.beq a b=true↔a=b
 | .int a,b=>by cases b <;> simp[C.beq]
 | .bool a,b=>by cases b <;> simp[C.beq]
 | .str a,b=>by cases b <;> simp[C.beq]
 | .agg a,b=>by cases b <;> simp[C.beq,C.q4d a]
 | .slice a,b=>by cases b <;> simp[C.beq,C.q4d a]
 | .nil,b=>by cases b <;> simp[C.beq]
theorem C.q4d:∀(a b:List C),C.q3L a b=true↔a=b
 | [],b=>by cases b <;> simp[C.q3L]
 |x::xs,[]=>by simp[C.q3L]
 |x::xs,y::ys=>by simp[C.q3L,C.beq_iff x,C.q4d xs]
end
instance:DecidableEq C:=fun a b=>decidable_of_iff _ (C.beq_iff a b)
theorem C.z0p (a b:C):C.eqb a b=C.beq a b:=by
 rw[Bool.eq_iff_iff,C.J4,C.beq_iff]
def V.isAny:V→Bool
 | .any=>true
 |_=>false
theorem V.q1D {x:V} (h:x.isAny=false):x≠.any:=by
 intro e;subst e;cases h
instance (k:IntKind) (x:V):Decidable (x.isInt k):=by unfold V.isInt;split <;> infer_instance
instance (x:V):Decidable x.isBool:=by unfold V.isBool;split <;> infer_instance
instance (x:V):Decidable x.isStr:=by unfold V.isStr;split <;> infer_instance
instance (x:V):Decidable x.Z4:=by unfold V.Z4;split <;> infer_instance
instance (τ:Ty) (x:V):Decidable (x.Q4 τ):=by unfold V.Q4;split <;> infer_instance
def S.wA (s:S) (A:Key→Option O):S:={s with A:=A}
def leA (A A':Key→Option O):Prop:=∀k o,A k=some o→A' k=some o
theorem Q7 {s:S} {A':Key→Option O} (hA:leA s.A A') {k:Key} {o:O} (h:s.obj k=some o):(s.wA A').obj k=some o:=by
 simp only[S.obj,c3,S.wA]at h ⊢
 cases hl:z6 s.loc k with
 |some x=>rw[hl]at h;exact h
 |none=>
  rw[hl]at h
  cases k with
  |l n=>cases h
  |g k=>exact hA _ _ h
theorem q16 (s:S) (A':Key→Option O) (n:Nat):(s.wA A').obj (.l n)=s.obj (.l n):=rfl
theorem Z5 (gl:Nat→Option (Ty × C)) (s:S) (A':Key→Option O):y5 gl (s.wA A')=y5 gl s:=by
 funext y;cases y <;> rfl
theorem z9s {s:S} {A':Key→Option O} (hA:leA s.A A'):leA s.up (s.wA A').up:=by
 intro k o h
 simp only[S.up,Option.map_eq_some_iff]at h ⊢
 obtain⟨x,h1,h2⟩:=h
 exact⟨x,Q7 hA h1,h2⟩
theorem y4j (s:S) (A':Key→Option O) (t:Nat):(s.wA A').live t=s.live t:=rfl
theorem z2X {s:S} {A':Key→Option O} (hA:leA s.A A') {x:V} {r:Nat × Ty × List C} (h:Z1 s x=some r):Z1 (s.wA A') x=some r:=by
 cases x <;> simp only[Z1]at h ⊢ <;> try exact h
 split at h
 ·rename_i y hy
  rw[Q7 hA hy]
  exact h
 ·cases h
def z3h (τ:Ty):V→List (Nat × V)→Bool
 |_,[]=>true
 |x,(i,v)::rest=>(τ.child i).isSome&&decide ((b6 (τ.get i) v).ty=τ.get i)&&(b6 (τ.get i) v).plain&& !(x.at [i]).isAny&&z3h τ (x.setAt [i] (b6 (τ.get i) v)) rest
theorem z4Y {τ:Ty}:∀{l:List (Nat × V)} {x:V},z3h τ x l=true→q4c τ x l
 | [],_,_=>trivial
 |(i,v)::rest,x,h=>by
  simp only[z3h,Bool.and_eq_true,decide_eq_true_eq,Bool.not_eq_true']at h
  exact⟨h.1.1.1.1,h.1.1.1.2,h.1.1.2,V.q1D h.1.2,z4Y h.2⟩
abbrev RI:=V × List (Key × O) × List (Nat × Option Nat)
def z5C {α:Type}:List (C × α)→C→α→List (C × α)
 | [],c,v=>[(c,v)]
 |(k,u)::es,c,v=>if C.beq c k=true then(k,v)::es else(k,u)::z5C es c v
theorem z6p {α:Type} (c:C) (v:α):∀(es:List (C × α)),z5C es c v=q0U es c v
 | []=>rfl
 |(k,u)::es=>by simp only[z5C,q0U,C.z0p,z6p c v es]
theorem y2r {P:Program} {s:S} {A':Key→Option O} (hA:leA s.A A') {src dst:TypeId} {x:V} {ys:List C} (h:strOf P s src dst x=some ys):strOf P (s.wA A') src dst x=some ys:=by
 cases hel:Z1 s x with
 |some r=>
  rw[←h]
  unfold strOf
  rw[hel,z2X hA hel]
 |none=>
  unfold strOf at h ⊢
  rw[hel]at h
  split at h
  ·split at h
   ·rename_i h0
    rw[if_pos h0]
    split at h
    ·exact h
    ·cases h
   ·cases h
  ·cases h
theorem z50 {P:Program} {s:S} {src dst:TypeId} {x:V} {ys:List C} {K:V→Prop} (h:strOf P s src dst x=some ys):¬q5V P src dst x K:=by
 unfold strOf at h
 split at h
 ·rename_i ht hd
  unfold q5V
  rw[ht,hd]
  exact id
 ·cases h
theorem q78 (A':Key→Option O):∀(σ:List (Nat × List Nat)) (s:S),U6 σ (s.wA A')=(U6 σ s).wA A'
 | [],_=>rfl
 |(t,_)::σ,s=>by simp only[U6];exact q78 A' σ (s.tok t none)
theorem z8P (A':Key→Option O) (d:Nat):∀(L:List (Key × O)) (s:S),q2z d L (s.wA A')=(q2z d L s).wA A'
 | [],_=>rfl
 |(k,o)::L,s=>by simp only[q2z,z8P A' d L s];rfl
theorem z8O (A':Key→Option O) (d:Nat):∀(L:List (Nat × Option Nat)) (s:S),q3q d L (s.wA A')=(q3q d L s).wA A'
 | [],_=>rfl
 |(k,o)::L,s=>by simp only[q3q,z8O A' d L s];rfl
theorem z9f (A':Key→Option O):∀(L:List Nat) (s:S),q20 L (s.wA A')=(q20 L s).wA A'
 | [],_=>rfl
 |t::L,s=>by simp only[q20,z9f A' L s];rfl
theorem y3v (A':Key→Option O) (tip:Bool) (s:S) (x:V):c9 tip (s.wA A') x=c9 tip s x:=rfl
theorem q9x (A':Key→Option O) (tip:Bool) (s:S):∀(ys:List V),j7 tip (s.wA A') ys=j7 tip s ys
 | []=>rfl
 |y::ys=>by simp only[j7,q9x A' tip s ys,y3v]
theorem z4Z (A':Key→Option O) (P:Program) (tip:Bool) (s:S):∀(Ts:List TypeId) (ys:List V),c4 P tip (s.wA A') Ts ys=c4 P tip s Ts ys
 | [],_=>rfl
 |_::_,[]=>rfl
 |T::Ts,y::ys=>by
  simp only[c4,z4Z A' P tip s Ts ys]
  rfl
theorem z6d (A':Key→Option O) (s:S) (tip:Bool) (ys:List V) (d:Nat) (v:V) (L:List (Key × O)):(s.wA A').ret tip ys d v L=(s.ret tip ys d v L).wA A':=by
 simp only[S.ret,q9x,z8P,z9f,z8O]
def q35 (s:S) (d:Nat):List (Key × O)→Bool
 | []=>true
 |(.g k,_)::L=>(s.obj k).isSome&&q35 s d L
 |(.l j,_)::L=>(s.obj (.l (rk d j))).isNone&&q35 s d L
theorem z0l {s:S} {A':Key→Option O} (hA:leA s.A A') {d:Nat}:∀{L:List (Key × O)},q35 s d L=true→gOk (s.wA A') d L
 | [],_=>trivial
 |(.g k,_)::L,h=>by
  simp only[q35,Bool.and_eq_true]at h
  obtain⟨o,ho⟩:=Option.isSome_iff_exists.1 h.1
  exact⟨by rw[Q7 hA ho];rfl,z0l hA h.2⟩
 |(.l j,_)::L,h=>by
  simp only[q35,Bool.and_eq_true]at h
  exact⟨by rw[q16];simpa using h.1,z0l hA h.2⟩
def q5J (s:S) (d:Nat):List (Nat × Option Nat)→Bool
 | []=>true
 |(m,_)::l=> !s.known (rk d m)&&q5J s d l
theorem z3p {s:S} {A':Key→Option O} {d:Nat}:∀{L:List (Nat × Option Nat)},q5J s d L=true→tOk (s.wA A') d L
 | [],_=>trivial
 |(m,_)::L,h=>by
  simp only[q5J,Bool.and_eq_true,Bool.not_eq_true']at h
  exact⟨h.1,z3p h.2⟩
def X3 (s:S):List (Key × O)→Bool
 | []=>true
 |(.l n,_)::l=>(s.obj (.l n)).isNone&&X3 s l
 |(.g _,_)::_=>false
theorem q3A {s:S} {A':Key→Option O}:∀{L:List (Key × O)},X3 s L=true→H2 (s.wA A') L
 | [],_=>trivial
 |(.l n,_)::L,h=>by
  simp only[X3,Bool.and_eq_true]at h
  exact⟨by rw[q16];simpa using h.1,q3A h.2⟩
 |(.g _,_)::_,h=>by simp[X3]at h
def q28 (s:S):List (Nat × Option Nat)→Bool
 | []=>true
 |(t,_)::l=> !s.known t&&q28 s l
theorem q3z {s:S} {A':Key→Option O}:∀{L:List (Nat × Option Nat)},q28 s L=true→H0 (s.wA A') L
 | [],_=>trivial
 |(t,_)::L,h=>by
  simp only[q28,Bool.and_eq_true,Bool.not_eq_true']at h
  exact⟨h.1,q3z h.2⟩
abbrev q6L:=FuncId→List V→(Key→Option O)→Option (V × List (Key × O))
abbrev q94:=FuncId→List V→Option V
def q7K (X:Cx) (call:q6L):Prop:=∀f xs A v L,call f xs A=some (v,L)→Q2 X f xs A v L
def z0A (X:Cx) (ext:q94):Prop:=∀f xs v,ext f xs=some v→z5T X f xs v
end Go.E
namespace Go.E
open Go
def y62 (ext:q94) (o:Oper) (ρ:Operand→V):Option V:=
 match o.op with
 | .call c=>(match c.callee with
  | .value fo=>(match ρ fo with
   | .fn f []=>ext f (c.args.toList.map ρ)
   |_=>none)
  |_=>none)
 |_=>none
def y61 (X:Cx) (call:q6L) (o:Oper) (ρ:Operand→V) (s:S):Option (V × List (Key × O)):=
 match o.op with
 | .call c=>(match c.callee with
  | .value fo=>(match ρ fo with
   | .fn f caps=>if q0W X.P f=true∧c.argTypes.toList.length=c.args.toList.length then
      call f (c4 X.P false s (q3I c.argTypes.toList caps) (Q1 (c.args.toList.map ρ) caps)) s.up else none
   |_=>none)
  |_=>none)
 |_=>none
def U8 (o:Oper) (ρ:Operand→V):List V:=
 match o.op with
 | .call c=>(match c.callee with
  | .value fo=>(match ρ fo with
   | .fn _ caps=>Q1 (c.args.toList.map ρ) caps
   |_=>[])
  |_=>[])
 |_=>[]
def q5z:List Oper→List Nat
 | []=>[]
 |o::l=>(match o.op with
  | .call c=>(match c.callee,c.args.toList with
   | .builtin .append,(.tmp t)::_=>[t]
   |_,_=>[])
  |_=>[])++q5z l
def z6P:Nat→List Nat→Bool
 |_,[]=>false
 |i,j::l=>Nat.beq i j||z6P i l
def k5 (cand:List Nat) (tbl:List (Nat × Nat)) (o:Oper) (ρ:Operand→V) (s:S):Nat:=
 match look tbl (y6 o)with
 |some m=>m
 |none=>(match o.op with
  | .load _ x=>if z6P (y6 o) cand=true then(match ρ x with
    | .ptr k q _=>(match s.obj k with
     |some (.box y)=>(match y.at q with
      | .ts _ _ _=>1
      |_=>0)
     |_=>0)
    |_=>0)else 0
  |_=>0)
def z3P (o:Oper):Bool:=
 match o.op with
 | .call c=>(match c.callee with| .value _=>true|_=>false)
 |_=>false
section
variable {X:Cx} {call:q6L} {ext:q94} (hc:q7K X call) (he:z0A X ext)
include hc he
end
theorem y0b (ops:Array Oper) (s:S) (A':Key→Option O) (j:Nat):gv ops (s.wA A') j=gv ops s j:=by
 unfold gv;split <;> rfl
theorem q1X (s:S) (A':Key→Option O) (d:Option Nat) (v:V):(s.wA A').set d v=(s.set d v).wA A':=by cases d <;> rfl
theorem Z7 (s:S) (d:Option Nat) (v:V):(s.set d v).A=s.A:=by cases d <;> rfl
section
variable {X:Cx} {call:q6L} {ext:q94} (hc:q7K X call) (he:z0A X ext)
include hc he
end
end Go.E
namespace Go.E
open Go
def q6z {α β:Type} (l:List α) (l':List β):Bool:=l.isEmpty&&l'.isEmpty
inductive RD where
 |k0 (v:V)|k1 (v:V) (lo:List (Key × O)) (tn:List (Nat × Option Nat))|k2 (v:V) (s:S)
def RD.kind:RD→Nat
 | .k0 _=>0
 | .k1 _ _ _=>1
 | .k2 _ _=>2
def RD.post (s:S) (A':Key→Option O) (K0:V→Prop) (K1:V→List (Key × O)→List (Nat × Option Nat)→Prop) (K2:V→S→Prop):RD→Prop
 | .k0 v=>K0 v
 | .k1 v lo tn=>H2 (s.wA A') lo→H0 (s.wA A') tn→X3 s lo=true→K1 v lo tn
 | .k2 v s1=>K2 v (s1.wA A')
theorem q0I (s:S) (d:Option Nat) (v:V) (k:Key):(s.set d v).obj k=s.obj k:=by cases d <;> rfl
theorem q46 {s:S} {lo:List (Key × O)} {tn:List (Nat × Option Nat)} (h:X3 s lo=true) {k:Key} {o:O} (hk:s.obj k=some o):(s.add lo tn).obj k=some o:=by
 have key:∀{lo:List (Key × O)},X3 s lo=true→z6 lo k=none:=by
  intro lo
  induction lo with
  |nil=>intro _;rfl
  |cons x lo ih=>
   obtain⟨j,y⟩:=x
   cases j with
   |g j=>intro h;simp[X3]at h
   |l n=>
    intro h
    simp only[X3,Bool.and_eq_true]at h
    simp only[z6]
    rw[if_neg,ih h.2]
    intro e
    rw[e,hk]at h
    simp at h
 have e:=key h
 simp only[S.obj,c3,S.add]at hk ⊢
 rw[J8,e]
 exact hk
section
variable {X:Cx} {call:q6L} {ext:q94} (hc:q7K X call) (he:z0A X ext)
include hc he
end
end Go.E
namespace Go.E
open Go
mutual
theorem V.q2c:∀(x:V),V.u2 x x
 | .d _ _=>by simp[V.u2,s7,V.ty]
 | .emp _ _=>.inl rfl
 | .agg _ vs=>⟨rfl,V.z2G vs⟩
 | .any=>trivial
 | .sl _ _ _ _| .ts _ _ _| .nilc| .ptr _ _ _| .cptr _ _| .sr _ _ _ _ _ _ _| .mp _| .fn _ _| .tup _| .top _=>by simp[V.u2]
theorem V.z2G:∀(xs:List V),V.q01 xs xs
 | []=>trivial
 |x::xs=>⟨V.q2c x,rfl,V.z2G xs⟩
end
def O.z94:O→Bool
 | .box y=>y.plain&&y.u0
 | .map _ _ _=>true
 | .it _ _| .dead _=>true
theorem O.q2c {o:O} (h:o.z94=true):O.u2 o o:=by
 cases o with
 |box y=>
  simp only[O.z94,Bool.and_eq_true]at h
  exact⟨V.q2c y,rfl,h.1,h.2⟩
 |map=>exact⟨rfl,rfl,rfl⟩
 |it=>exact⟨rfl,rfl⟩
 |dead=>exact(rfl:_=_)
mutual
def V.keys:V→List Nat
 | .ptr (.l k) _ _| .mp (.l k)| .sr (.l k) _ _ _ _ _ _=>[k]
 | .agg _ vs| .fn _ vs| .tup vs=>V.q4v vs
 |_=>[]
def V.q4v:List V→List Nat
 | []=>[]
 |x::xs=>x.keys++V.q4v xs
end
mutual
def V.y44:V→List Nat
 | .sl _ _ _ t=>[t]
 | .agg _ vs| .fn _ vs| .tup vs=>V.y3E vs
 |_=>[]
def V.y3E:List V→List Nat
 | []=>[]
 |x::xs=>x.y44++V.y3E xs
end
def O.keys:O→List Nat
 | .box x=>x.keys
 | .map _ _ es=>V.q4v (es.map (·.2))
 | .it _ _| .dead _=>[]
def reach (loc:List (Key × O)):Nat→List Nat→List Nat→List Nat
 |0,_,acc=>acc
 |_,[],acc=>acc
 |f+1,k::ks,acc=>if z6P k acc=true then reach loc f ks acc else match z6 loc (.l k)with
  |some o=>reach loc f (o.keys++ks) (k::acc)
  |none=>reach loc f ks acc
def q4x:List (Key × O)→List Nat
 | []=>[]
 |(.g _,o)::l=>o.keys++q4x l
 |(.l _,_)::l=>q4x l
def q1m (loc:List (Key × O)) (ks:List Nat):List (Key × O)
 →List (Key × O)
 | []=>[]
 |(.g k,_)::l=>(match z6 loc (.g k)with|some o=>[(.g k,o)] |none=>[])++q1m loc ks l
 |(.l k,_)::l=>(if z6P k ks=true then(match z6 loc (.l k)with|some o=>[(.l k,o)] |none=>[])else[])++q1m loc ks l
def q3c:List (Key × O)→Bool
 | []=>true
 |(_,o)::l=>o.z94&&q3c l
def q3N (L:List (Key × O)):List (Key × O)→Bool
 | []=>true
 |(.g k,_)::l=>(z6 L (.g k)).isSome&&q3N L l
 |(.l _,_)::l=>q3N L l
theorem q4f {L:List (Key × O)} {A:Key→Option O}:∀{l:List (Key × O)},q3N L l=true→q6e L A l
 | [],_=>trivial
 |(.g k,_)::l,h=>by
  simp only[q3N,Bool.and_eq_true]at h
  exact⟨.inl h.1,q4f h.2⟩
 |(.l _,_)::l,h=>q4f (l:=l) h
theorem q4o {s:S} {k:Key} {o:O} (h:z6 s.loc k=some o):s.obj k=some o:=by
 simp only[S.obj,c3,h]
theorem q23 {s:S} (ks:List Nat):∀{l:List (Key × O)},q3c (q1m s.loc ks l)=true→q2A s (q1m s.loc ks l)
 | [],_=>trivial
 |(.g k,_)::l,h=>by
  simp only[q1m]at h ⊢
  cases hl:z6 s.loc (.g k)with
  |none=>rw[hl]at h;exact q23 ks h
  |some o=>
   rw[hl]at h
   simp only[List.cons_append,List.nil_append,q3c,Bool.and_eq_true]at h ⊢
   refine⟨?_,q23 ks h.2⟩
   rw[q4o hl]
   exact O.q2c h.1
 |(.l k,_)::l,h=>by
  simp only[q1m]at h ⊢
  by_cases hk:z6P k ks=true
  ·rw[if_pos hk]at h ⊢
   cases hl:z6 s.loc (.l k)with
   |none=>rw[hl]at h;exact q23 ks h
   |some o=>
    rw[hl]at h
    simp only[List.cons_append,List.nil_append,q3c,Bool.and_eq_true]at h ⊢
    refine⟨?_,q23 ks h.2⟩
    rw[q4o hl]
    exact O.q2c h.1
  ·rw[if_neg hk]at h ⊢
   exact q23 ks h
def q0B (s:S):List Nat→List (Nat × V)
 | []=>[]
 |i::l=>(i,s.get i)::q0B s l
def q2J (f g:Nat→Bool):List (Nat × V)→Bool
 | []=>true
 |(_,x)::l=>x.ok f g&&q2J f g l
theorem z3Z {s:S} {f g:Nat→Bool}:∀{l:List Nat},q2J f g (q0B s l)=true→q5d f g s (q0B s l)
 | [],_=>trivial
 |i::l,h=>by
  simp only[q0B,q2J,Bool.and_eq_true]at h
  exact⟨V.q2c _,h.1,.inr rfl,z3Z h.2⟩
def q0Q (s:S):List Nat→List (Nat × Option Nat)
 | []=>[]
 |t::l=>(match look s.tk t with|some x=>[(t,x)] |none=>[])++q0Q s l
theorem z1Y {s:S}:∀{l:List Nat},tkW s (q0Q s l)
 | []=>trivial
 |t::l=>by
  simp only[q0Q]
  cases hl:look s.tk t with
  |none=>exact z1Y
  |some x=>
   refine⟨?_,z1Y⟩
   cases x with
   |none=>simp[S.known,hl]
   |some L=>simp[S.live,H7,hl]
def z9c:List (Nat × V)→List Nat
 | []=>[]
 |(_,x)::l=>x.keys++z9c l
def z30:List (Nat × V)→List Nat
 | []=>[]
 |(_,x)::l=>x.y44++z30 l
def gcS (keep:List Nat) (s:S):S:=
 ⟨q0B s keep,q1m s.loc (reach s.loc 100000 (z9c (q0B s keep)++q4x s.loc) []) s.loc,s.A,q0Q s (z30 (q0B s keep))⟩
def gcB (keep:List Nat) (s:S):Bool:=
 q3c (gcS keep s).loc&&q0z (j9 (gcS keep s).loc) (W0 (gcS keep s).tk) (gcS keep s).loc&&q3N (gcS keep s).loc s.loc&&q2J (j9 (gcS keep s).loc) (W0 (gcS keep s).tk) (q0B s keep)
theorem y4t {X:Cx} {n:Nat} {keep:List Nat} {s:S} (A':Key→Option O) (h:gcB keep s=true):q0g X n (s.wA A') ((gcS keep s).wA A'):=by
 simp only[gcB,Bool.and_eq_true]at h
 obtain⟨⟨⟨h1,h2⟩,h3⟩,h4⟩:=h
 refine z8A rfl ?_ h2 (q4f h3) ?_ ?_
 ·exact q23 (s:=s.wA A') _ h1
 ·have:∀l,q0Q (s.wA A') l=q0Q s l:=by
   intro l
   induction l with
   |nil=>rfl
   |cons i l ih=>simp only[q0Q,ih];rfl
  show tkW (s.wA A') (q0Q s (z30 (q0B s keep)))
  rw[←this]
  exact z1Y
 ·have:q0B (s.wA A') keep=q0B s keep:=by
   generalize keep=l
   induction l with
   |nil=>rfl
   |cons i l ih=>simp only[q0B,ih];rfl
  show q5d _ _ (s.wA A') (q0B s keep)
  rw[←this]at h4 ⊢
  exact z3Z h4
def q7q (ml:List (Nat × Nat)):List (Nat × Nat)→Bool
 | []=>true
 |(d,m)::l=>Nat.beq (r9 ml d) m&&q7q ml l
theorem q6B {ml:List (Nat × Nat)}:∀{l:List (Nat × Nat)},q7q ml l=true→∀p∈l,r9 ml p.1=p.2
 |(d,m)::l,h,p,hp=>by
  simp only[q7q,Bool.and_eq_true]at h
  rcases List.mem_cons.1 hp with rfl|hp
  ·exact Nat.eq_of_beq_eq_true h.1
  ·exact q6B h.2 p hp
def slotsOf:List (Nat × V)→List Nat
 | []=>[]
 |(i,_)::l=>i::slotsOf l
section
variable {X:Cx} {call:q6L} {ext:q94} (hP:x4 X.P=true) (hmo:X.P.follows .mixedOrders=true) (hc:q7K X call) (he:z0A X ext)
include hP hmo hc he
end
end Go.E
