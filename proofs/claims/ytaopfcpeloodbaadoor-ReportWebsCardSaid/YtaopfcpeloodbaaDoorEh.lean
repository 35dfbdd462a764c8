/-
 A framework for runs of Go code over abstract data: what it needs, and that it is sound, part 8.
 Conditions: none.
-/
import Derived.Test.YtaopfcpeloodbaaDoorEg
import Derived.Lib.UnsafeStr
import Derived.Lib.Builder
import Derived.Lib.AppendStr
import Derived.WalkKit
set_option linter.all false
namespace Go.E
open Go
abbrev KD (R:Type):=List C→List Es→Option R
theorem y0J {α:Type} (_:String) (a:α):∃b,b=a:=⟨a,rfl⟩
noncomputable def lid {α:Type} (n:String) (a:α):α:=Classical.choose (y0J n a)
theorem W1 {α:Type} (n:String) (a:α):lid n a=a:=Classical.choose_spec (y0J n a)
noncomputable def jn {R:Type}:KD R→(KD R→Option R)→Option R:=lid "" fun k b=>b k
theorem r6 {R:Type} (k:KD R) (b:KD R→Option R):jn k b=b k:=by unfold jn;rw[W1]
def y25 {R:Type}:Nat→(KD R→List C→List Es→Option R)→List C→List Es→Option R
 |0,_,_,_=>none
 |n+1,F,ds,ms=>F (y25 n F) ds ms
noncomputable def Z2 {R:Type}:Nat→(KD R→List C→List Es→Option R)→List C→List Es→Option R:=lid "" y25
theorem z19 {R:Type} (F:KD R→List C→List Es→Option R) (ds:List C) (ms:List Es):Z2 0 F ds ms=none:=by unfold Z2;rw[W1];rfl
theorem q1l {R:Type} (n:Nat) (F:KD R→List C→List Es→Option R) (ds:List C) (ms:List Es):Z2 (n+1) F ds ms=F (Z2 n F) ds ms:=by unfold Z2;rw[W1];rfl
abbrev Hints:=List (List Nat × Hint)
def q5V:Hints→List Nat→Option Hint
 | [],_=>none
 |(q,h)::l,p=>if q=p then some h else q5V l p
noncomputable def exJ {R:Type} (h:Option Hint) (s:S) (K:S→Option R) (body:(S→Option R)→Option R):Option R:=
 match h with
 |none=>body K
 |some h=>z2m (y14 h s) fun sh=>jn (fun ds ms=>K (q1T sh s.A ds ms)) fun k=>body fun s1=>q6N sh s1 k
theorem z2v {R:Type} {r:R} {h:Option Hint} {s:S} {K:S→Option R} {body:(S→Option R)→Option R} {P:S→Prop} {G:Prop} (hP:∀s1 s2,P s1→WkA s1 s2→P s2) (hA:∀s1,P s1→s1.A=s.A) (hj:exJ h s K body=some r)
  (hb:∀k:S→Option R,body k=some r→(∃s1,k s1=some r∧P s1)∨G):(∃s2,K s2=some r∧P s2)∨G:=by
 unfold exJ at hj
 split at hj
 ·exact hb _ hj
 ·rename_i h'
  rw[z1m,r6]at hj
  rcases hb _ hj with⟨s1,h1,h2⟩|hg
  ·obtain⟨ds,ms,h3,h4⟩:=q7w h1
   rw[hA s1 h2]at h4
   exact .inl ⟨_,h3,hP _ _ h2 h4⟩
  ·exact .inr hg
def q2d:Code→Option (List Code × Nat × Code)
 | .seq a b=>(match a with
  | .label l=>some ([],l,b)
  |a=>(match q2d b with
   |some x=>some (a::x.1,x.2)
   |none=>none))
 |_=>none
def q9W (l:Nat):List Code→Bool
 | []=>true
 |a::as=>(match findLabel a l with
  |some _=>false
  |none=>q9W l as)
theorem z0O:∀(c:Code) {as:List Code} {r:Code} {l:Nat},q2d c=some (as,l,r)→q9W l as=true→findLabel c l=some (.seq .skip r)
 | .seq a b,as,r,l,h,hn=>by
  unfold q2d at h
  split at h
  ·cases h;simp[findLabel]
  ·split at h
   ·rename_i x hx
    obtain⟨as',l',r'⟩:=x
    cases h
    simp only[q9W]at hn
    simp only[findLabel]
    cases ha:findLabel a l with
    |some y=>rw[ha]at hn;cases hn
    |none=>rw[ha]at hn;exact z0O b hx hn
   ·cases h
 | .skip,_,_,_,h,_| .region _ _ _,_,_,_,h,_| .cond _ _ _,_,_,_,h,_| .block _ _,_,_,_,h,_| .loop _,_,_,_,h,_| .exit _,_,_,_,h,_| .scope _,_,_,_,h,_| .label _,_,_,_,h,_| .goto _,_,_,_,h,_| .ret,_,_,_,h,_| .rangeFunc _ _ _ _,_,_,_,h,_| .refuse _,_,_,_,h,_=>by simp[q2d]at h
def q95 {R:Type} (run:List Nat→Code→S→KE R→Option R):List Code→List Nat→S→(S→Option R)→KE R→Option R
 | [],_,s,k,_=>k s
 |a::l,p,s,k,K=>run (0::p) a s fun e s1=>match e with
  | .normal=>frc s1 fun s1=>q95 run l (1::p) s1 k K
  |e=>K e s1
noncomputable def exC {R:Type} (X:Cx) (call:J2 R) (ext:q0r) (tbl:Nat→List (Nat × Nat)) (hs:Hints) (N:Nat) (n:Nat):Nat→List Nat→Code→S→KE R→Option R
 |0,_,_,_,_=>none
 |f+1,p,c,s,K=>match c with
  | .skip=>K .normal s
  | .region id ops draw=>exJ (q5V hs p) (z3v (tbl id) s) (fun s=>K .normal s) fun k=>z9O X call ext (tbl id) n ops.toList draw (z3v (tbl id) s) k
  | .seq a b=>exC X call ext tbl hs N n f (0::p) a s fun e s1=>match e with
    | .normal=>frc s1 fun s1=>exC X call ext tbl hs N n f (1::p) b s1 K
    |e=>K e s1
  | .cond (.tmp t) a b=>exJ (q5V hs p) s (fun s=>K .normal s) fun k=>(match s.get t with
    | .d .bool c=>bif c.toBool then exC X call ext tbl hs N n f (2::p) a (s.lit t c true) fun e s1=>(match e with
      | .normal=>k s1
      |e=>K e s1)else exC X call ext tbl hs N n f (3::p) b (s.lit t c false) fun e s1=>(match e with
      | .normal=>k s1
      |e=>K e s1)
    |_=>none)
  | .block id a=>exJ (q5V hs p) s (fun s=>K .normal s) fun k=>exC X call ext tbl hs N n f (4::p) a s fun e s1=>match e with
     | .exit i=>if i=id then k s1 else K (.exit i) s1
     | .normal=>k s1
     |e=>K e s1
  | .loop a=>(match q5V hs p with
    |none=>q9z (exC X call ext tbl hs N n f (5::p) a) (slotsOf s.env) f s K
    |some h=>z2m (y14 h s) fun sh=>q6N sh s fun ds ms=>Z2 N (fun rec ds ms=>exC X call ext tbl hs N n f (5::p) a (q1T sh s.A ds ms) fun e s1=>match e with
      | .normal=>q6N sh s1 rec
      |e=>K e s1) ds ms)
  | .exit id=>K (.exit id) s
  | .scope a=>(match q5V hs p with
    |none=>exC X call ext tbl hs N n f (6::p) a s fun e s1=>match e with
     | .goto _=>none
     |e=>K e s1
    |some h=>(match q2d a with
     |some (as,l,rest)=>if q9W l as=true then q95 (exC X call ext tbl hs N n f) as (6::p) s
       (fun s1=>z2m (y14 h s1) fun sh=>q6N sh s1 fun ds ms=>Z2 N (fun rec ds ms=>exC X call ext tbl hs N n f (7::p) rest (q1T sh s1.A ds ms) fun e s2=>match e with
        | .goto l'=>if l'=l then q6N sh s2 rec else none
        |e=>K e s2) ds ms)
       (fun e s1=>match e with
        | .goto _=>none
        |e=>K e s1)else none
     |none=>none))
  | .label _=>K .normal s
  | .goto l=>K (.goto l) s
  | .ret=>K .ret s
  |_=>none
def Way (X:Cx) (n:Nat) (c:Code) (s:S) (e:Exit) (s':S):Prop:=
 s'.A=s.A∧∀A',leA s.A A'→∀Ψ:Exit→S→Prop,Ψ e (s'.wA A')→DC X n c (s.wA A') Ψ
theorem Way.q8H {X:Cx} {n:Nat} {c:Code} {s s1 s2:S} {e:Exit} (h:Way X n c s e s1) (hw:WkA s1 s2):Way X n c s e s2:=by
 refine⟨hw.1.trans h.1,fun A' hA Ψ hΨ=>?_⟩
 refine(h.2 A' hA (fun e1 s3=>e1=e∧s3=s1.wA A') ⟨rfl,rfl⟩).post ?_
 rintro e1 s3 ⟨rfl,rfl⟩
 exact⟨_,hw.2 X n A' (by rw[h.1];exact hA),hΨ⟩
section
variable {X:Cx} {R:Type} {call:J2 R} {ext:q0r} (hP:x4 X.P=true) (hmo:X.P.follows .mixedOrders=true) (hc:q1M X call) (he:q2h X ext)
theorem z6p {c:Code} {n:Nat} {sh:SSh} {A0:Key→Option O} {body:S→KE R→Option R} {K:KE R} {r:R} (hb:∀s (K:KE R),body s K=some r→z1w X n c s r K):
  ∀(N:Nat) (ds:List C) (ms:List Es),Z2 N (fun rec ds ms=>body (q1T sh A0 ds ms) fun e s1=>match e with
      | .normal=>q6N sh s1 rec
      |e=>K e s1) ds ms=some r→∃e s',K e s'=some r∧s'.A=A0∧∀A',leA A0 A'→∀Ψ:Exit→S→Prop,Ψ e (s'.wA A')→∀(Γ0:G) (a:Act) (w:World),At X n Γ0 ((q1T sh A0 ds ms).wA A') a w→Code.rounds X.P c (fun e a w=>∃s',Ψ e s'∧At X n Γ0 s' a w) N a w
 |0,ds,ms,h=>by simp[z19]at h
 |N+1,ds,ms,h=>by
  simp only[q1l]at h
  obtain⟨e0,s1,h1,hA1,hD⟩:=hb _ _ h
  have hother:∀(hne:e0≠.normal),K e0 s1=some r→∃e s',K e s'=some r∧s'.A=A0∧∀A',leA A0 A'→∀Ψ:Exit→S→Prop,Ψ e (s'.wA A')→∀(Γ0:G) (a:Act) (w:World),At X n Γ0 ((q1T sh A0 ds ms).wA A') a w→Code.rounds X.P c (fun e a w=>∃s',Ψ e s'∧At X n Γ0 s' a w) (N+1) a w:=by
   intro hne h1
   refine⟨e0,s1,h1,hA1,fun A' hA Ψ hΨ Γ0 a w hat=>?_⟩
   rw[rounds_succ]
   refine wp_mono (hD A' hA (fun e1 s2=>e1=e0∧s2=s1.wA A') ⟨rfl,rfl⟩ Γ0 a w hat) ?_
   rintro e1 a1 w1 ⟨s2,⟨rfl,rfl⟩,hat1⟩
   cases e1 with
   |normal=>exact absurd rfl hne
   |exit _|goto _|ret|panic _|outgrown=>exact⟨_,hΨ,hat1⟩
  cases e0 with
  |normal=>
   obtain⟨ds',ms',h3,hw⟩:=q7w h1
   rw[show s1.A=A0 from hA1]at hw
   obtain⟨e,s',h4,h5,h6⟩:=z6p hb N ds' ms' h3
   refine⟨e,s',h4,h5,fun A' hA Ψ hΨ Γ0 a w hat=>?_⟩
   rw[rounds_succ]
   refine wp_mono (hD A' hA (fun e1 s2=>e1= .normal∧s2=s1.wA A') ⟨rfl,rfl⟩ Γ0 a w hat) ?_
   rintro e1 a1 w1 ⟨s2,⟨rfl,rfl⟩,hat1⟩
   exact h6 A' hA Ψ hΨ Γ0 a1 w1 (hw.2 X n A' (by rw[show s1.A=A0 from hA1];exact hA) Γ0 a1 w1 hat1)
  |exit _|goto _|ret|panic _|outgrown=>exact hother (by simp) h1
theorem z2u {n:Nat} {r:R} {run:List Nat→Code→S→KE R→Option R} (hrun:∀p c s (K:KE R),run p c s K=some r→z1w X n c s r K):∀(as:List Code) (p:List Nat) (s:S) (k:S→Option R) (K:KE R),q95 run as p s k K=some r→
  (∃s1,k s1=some r∧s1.A=s.A∧∀c l rest,q2d c=some (as,l,rest)→∀A',leA s.A A'→∀Ψ:Exit→S→Prop,DC X n rest (s1.wA A') Ψ→DC X n c (s.wA A') Ψ)∨
  (∃e s1,e≠.normal∧K e s1=some r∧s1.A=s.A∧∀c l rest,q2d c=some (as,l,rest)→∀A',leA s.A A'→∀Ψ:Exit→S→Prop,Ψ e (s1.wA A')→DC X n c (s.wA A') Ψ)
 | [],p,s,k,K,h=>by
  refine .inl ⟨s,h,rfl,fun c l rest hc A' hA Ψ hd=>?_⟩
  cases c <;> simp only[q2d,reduceCtorEq]at hc
  rename_i a b
  split at hc
  ·cases hc
   exact q51 (z7d hd)
  ·split at hc
   ·cases hc
   ·cases hc
 |a::as,p,s,k,K,h=>by
  simp only[q95]at h
  obtain⟨e,s1,h1,a1,d1⟩:=hrun _ _ _ _ h
  have inv:∀c l rest,q2d c=some (a::as,l,rest)→∃b,c= .seq a b∧q2d b=some (as,l,rest):=by
   intro c l rest hc
   cases c <;> simp only[q2d,reduceCtorEq]at hc
   split at hc
   ·cases hc
   ·split at hc
    ·rename_i x hx
     obtain⟨x1,x2⟩:=x
     cases hc
     exact⟨_,rfl,hx⟩
    ·cases hc
  cases e with
  |normal=>
   rcases z2u hrun as (1::p) s1 k K (by dsimp only at h1;rw[z6I]at h1;exact h1)with⟨s2,h2,a2,d2⟩|⟨e,s2,hne,h2,a2,d2⟩
   ·refine .inl ⟨s2,h2,a2.trans a1,fun c l rest hc A' hA Ψ hd=>?_⟩
    obtain⟨b,rfl,hb⟩:=inv c l rest hc
    exact q51 (d1 A' hA _ (d2 b l rest hb A' (by rw[a1];exact hA) Ψ hd))
   ·refine .inr ⟨e,s2,hne,h2,a2.trans a1,fun c l rest hc A' hA Ψ hd=>?_⟩
    obtain⟨b,rfl,hb⟩:=inv c l rest hc
    exact q51 (d1 A' hA _ (d2 b l rest hb A' (by rw[a1];exact hA) Ψ hd))
  |exit _|goto _|ret|panic _|outgrown=>
   refine .inr ⟨_,s1,by simp,h1,a1,fun c l rest hc A' hA Ψ hd=>?_⟩
   obtain⟨b,rfl,hb⟩:=inv c l rest hc
   exact q51 (d1 A' hA _ hd)
def Ends (X:Cx) (n:Nat) (l:Nat) (rest:Code) (sh:SSh) (A0:Key→Option O) (e:Exit) (s':S):Nat→List C→List Es→Prop
 |0,_,_=>False
 |m+1,ds,ms=>∃e2 s2,Way X n rest (q1T sh A0 ds ms) e2 s2∧((e2= .goto l∧∃ds' ms',WkA s2 (q1T sh A0 ds' ms')∧Ends X n l rest sh A0 e s' m ds' ms')∨((∀l',e2≠.goto l')∧e2=e∧s2=s'))
theorem z3U {n l:Nat} {rest:Code} {sh:SSh} {A0:Key→Option O} {body:S→KE R→Option R} {K:KE R} {r:R} (hb:∀s (K:KE R),body s K=some r→z1w X n rest s r K):
  ∀(N:Nat) (ds:List C) (ms:List Es),Z2 N (fun rec ds ms=>body (q1T sh A0 ds ms) fun e s2=>match e with
      | .goto l'=>if l'=l then q6N sh s2 rec else none
      |e=>K e s2) ds ms=some r→∃e s',K e s'=some r∧s'.A=A0∧(∀l',e≠.goto l')∧Ends X n l rest sh A0 e s' N ds ms
 |0,ds,ms,h=>by simp[z19]at h
 |N+1,ds,ms,h=>by
  rw[q1l]at h
  obtain⟨e0,s1,h1,a1,d1⟩:=hb _ _ h
  have a1:s1.A=A0:=a1
  cases e0 with
  |goto l'=>
   dsimp only at h1
   by_cases hl:l'=l
   ·rw[if_pos hl]at h1
    subst hl
    obtain⟨ds',ms',h2,hw⟩:=q7w h1
    rw[a1]at hw
    obtain⟨e,s',h3,h4,h5,h6⟩:=z3U hb N ds' ms' h2
    exact⟨e,s',h3,h4,h5,_,s1,⟨a1,d1⟩,.inl ⟨rfl,ds',ms',hw,h6⟩⟩
   ·rw[if_neg hl]at h1;cases h1
  |normal|exit _|ret|panic _|outgrown=>
   exact⟨_,s1,h1,a1,by simp,_,s1,⟨a1,d1⟩,.inr ⟨by simp,rfl,rfl⟩⟩
theorem y1S {n l:Nat} {c rest:Code} {sh:SSh} {A0:Key→Option O} {e:Exit} {s':S} (hf:findLabel c l=some (.seq .skip rest)) {N:Nat} {ds:List C} {ms:List Es} (hE:Ends X n l rest sh A0 e s' N ds ms) {A':Key→Option O} (hA:leA A0 A') {s0:S}
  (first:∀Ψ:Exit→S→Prop,DC X n rest ((q1T sh A0 ds ms).wA A') Ψ→DC X n c s0 Ψ) {Ψ:Exit→S→Prop} (hΨ:Ψ e (s'.wA A')):DC X n (.scope c) s0 Ψ:=by
 have pass:∀i:{x:Nat × List C × List Es // Ends X n l rest sh A0 e s' x.1 x.2.1 x.2.2},DC X n rest ((q1T sh A0 i.1.2.1 i.1.2.2).wA A') fun e2 s2=>match e2 with
   | .goto l'=>l'=l∧∃j:{x:Nat × List C × List Es // Ends X n l rest sh A0 e s' x.1 x.2.1 x.2.2},q0g X n s2 ((q1T sh A0 j.1.2.1 j.1.2.2).wA A')∧j.1.1<i.1.1
   |e2=>Ψ e2 s2:=by
  rintro⟨⟨m,ds,ms⟩,h⟩
  cases m with
  |zero=>exact h.elim
  |succ m=>
   obtain⟨e2,s2,hw,h1⟩:=h
   refine hw.2 A' hA _ ?_
   rcases h1 with⟨rfl,ds',ms',hwk,hE'⟩|⟨hne,rfl,rfl⟩
   ·exact⟨rfl,⟨⟨m,ds',ms'⟩,hE'⟩,hwk.2 X n A' (by rw[hw.1];exact hA),Nat.lt_succ_self m⟩
   ·cases e2 with
    |goto l'=>exact absurd rfl (hne l')
    |normal|exit _|ret|panic _|outgrown=>exact hΨ
 refine y2G l hf (fun i=>(q1T sh A0 i.1.2.1 i.1.2.2).wA A') (fun i=>i.1.1) ?_ (fun i=>q51 (z8I (pass i)))
 refine first _ ((pass ⟨⟨N,ds,ms⟩,hE⟩).post ?_)
 intro e2 s2 h
 refine⟨s2,q0g.refl _,?_⟩
 cases e2 with
 |goto l'=>exact⟨h.1,h.2.choose,h.2.choose_spec.1⟩
 |normal|exit _|ret|panic _|outgrown=>exact h
include hP hmo hc he
theorem y04 {tbl:Nat→List (Nat × Nat)} {hs:Hints} {N n:Nat} {r:R}:∀(f:Nat) (p:List Nat) (c:Code) (s:S) (K:KE R),exC X call ext tbl hs N n f p c s K=some r→z1w X n c s r K
 |0,p,c,s,K,h=>by simp[exC]at h
 |f+1,p,c,s,K,h=>by
  have IH:=y04 (tbl:=tbl) (hs:=hs) (N:=N) (n:=n) (r:=r) f
  cases c with
  |skip=>exact⟨_,_,h,rfl,fun A' hA Ψ hΨ=>z8I hΨ⟩
  |region id ops draw=>
   simp only[exC]at h
   have hw:=q7m (tbl id) s
   have:=z2v (P:=fun s1=>Way X n (.region id ops draw) (z3v (tbl id) s) .normal s1) (G:=False) (fun s1 s2 h1 h2=>h1.q8H h2) (fun s1 h=>h.1) h fun k hk=>by
    obtain⟨s',h1,h2,h3⟩:=y2z hP hmo hc he (id:=id) hk
    refine .inl ⟨s',h1,h2,fun A' hA Ψ hΨ=>?_⟩
    have:=h3 A' hA Ψ hΨ
    simpa using this
   rcases this with⟨s2,h1,h2⟩|h
   ·exact⟨_,s2,h1,h2.1.trans hw.1,fun A' hA Ψ hΨ=>DC.q8H (hw.2 X n A' hA) (h2.2 A' (by rw[hw.1];exact hA) Ψ hΨ)⟩
   ·exact h.elim
  |seq c1 c2=>
   simp only[exC]at h
   obtain⟨e0,s1,h1,a1,d1⟩:=IH _ c1 s _ h
   cases e0 with
   |normal=>
    obtain⟨e2,s2,h2,a2,d2⟩:=IH (1::p) c2 s1 K (by dsimp only at h1;rw[z6I]at h1;exact h1)
    exact⟨e2,s2,h2,a2.trans a1,fun A' hA Ψ hΨ=>q51 (d1 A' hA _ (d2 A' (by rw[a1];exact hA) Ψ hΨ))⟩
   |exit _|goto _|ret|panic _|outgrown=>exact⟨_,s1,h1,a1,fun A' hA Ψ hΨ=>q51 (d1 A' hA _ hΨ)⟩
  |cond t c1 c2=>
   cases t with
   |tmp t=>
    simp only[exC]at h
    have:=z2v (P:=fun s1=>Way X n (.cond (.tmp t) c1 c2) s .normal s1) (G:=z1w X n (.cond (.tmp t) c1 c2) s r K) (fun s1 s2 h1 h2=>h1.q8H h2) (fun s1 h=>h.1) h fun k hk=>by
     split at hk
     ·rename_i v hv
      cases hb:v.toBool with
      |true=>
       rw[hb]at hk
       simp only[cond_true]at hk
       rw[z6s hv hb]at hk
       obtain⟨e2,s2,h2,a2,d2⟩:=IH _ c1 s _ hk
       have w2:Way X n (.cond (.tmp t) c1 c2) s e2 s2:=⟨a2,fun A' hA Ψ hΨ=>z7e hv (fun _=>d2 A' hA Ψ hΨ) (fun h=>by rw[hb]at h;cases h)⟩
       cases e2 with
       |normal=>exact .inl ⟨s2,h2,w2⟩
       |exit _|goto _|ret|panic _|outgrown=>exact .inr ⟨_,s2,h2,w2⟩
      |false=>
       rw[hb]at hk
       simp only[cond_false]at hk
       rw[z6s hv hb]at hk
       obtain⟨e2,s2,h2,a2,d2⟩:=IH _ c2 s _ hk
       have w2:Way X n (.cond (.tmp t) c1 c2) s e2 s2:=⟨a2,fun A' hA Ψ hΨ=>z7e hv (fun h=>by rw[hb]at h;cases h) (fun _=>d2 A' hA Ψ hΨ)⟩
       cases e2 with
       |normal=>exact .inl ⟨s2,h2,w2⟩
       |exit _|goto _|ret|panic _|outgrown=>exact .inr ⟨_,s2,h2,w2⟩
     ·cases hk
    rcases this with⟨s2,h1,h2⟩|h
    ·exact⟨_,s2,h1,h2⟩
    ·exact h
   |const _|global _|func _=>simp[exC]at h
  |block id c1=>
   simp only[exC]at h
   have:=z2v (P:=fun s1=>Way X n (.block id c1) s .normal s1) (G:=z1w X n (.block id c1) s r K) (fun s1 s2 h1 h2=>h1.q8H h2) (fun s1 h=>h.1) h fun k hk=>by
    obtain⟨e0,s1,h1,a1,d1⟩:=IH _ c1 s _ hk
    cases e0 with
    |exit i=>
     dsimp only at h1
     by_cases hi:i=id
     ·rw[if_pos hi]at h1
      refine .inl ⟨s1,h1,a1,fun A' hA Ψ hΨ=>q8a (d1 A' hA _ ?_)⟩
      simp only
      rw[if_pos hi];exact hΨ
     ·rw[if_neg hi]at h1
      refine .inr ⟨_,s1,h1,a1,fun A' hA Ψ hΨ=>q8a (d1 A' hA _ ?_)⟩
      simp only
      rw[if_neg hi];exact hΨ
    |normal=>exact .inl ⟨s1,h1,a1,fun A' hA Ψ hΨ=>q8a (d1 A' hA _ hΨ)⟩
    |goto _|ret|panic _|outgrown=>exact .inr ⟨_,s1,h1,a1,fun A' hA Ψ hΨ=>q8a (d1 A' hA _ hΨ)⟩
   rcases this with⟨s2,h1,h2⟩|h
   ·exact⟨_,s2,h1,h2⟩
   ·exact h
  |loop c1=>
   simp only[exC]at h
   split at h
   ·obtain⟨e,s',h1,h2,h3⟩:=z4r (fun s K h=>IH _ c1 s K h) f s K h
    exact⟨e,s',h1,h2,fun A' hA Ψ hΨ Γ0 a w hat=>wp_loop_rounds f (h3 A' hA Ψ hΨ Γ0 a w hat)⟩
   ·rename_i hh
    rw[z1m]at h
    obtain⟨ds,ms,h1,hw⟩:=q7w h
    obtain⟨e,s',h4,h5,h6⟩:=z6p (c:=c1) (body:=exC X call ext tbl hs N n f (5::p) c1) (fun s K h=>IH _ c1 s K h) N ds ms h1
    exact⟨e,s',h4,h5,fun A' hA Ψ hΨ Γ0 a w hat=>wp_loop_rounds N (h6 A' hA Ψ hΨ Γ0 a w (hw.2 X n A' hA Γ0 a w hat))⟩
  |exit id=>exact⟨_,_,h,rfl,fun A' hA Ψ hΨ=>y4a hΨ⟩
  |scope c1=>
   simp only[exC]at h
   split at h
   ·obtain⟨e0,s1,h1,a1,d1⟩:=IH _ c1 s _ h
    cases e0 with
    |goto i=>cases h1
    |normal|exit _|ret|panic _|outgrown=>exact⟨_,s1,h1,a1,fun A' hA Ψ hΨ=>q5c (d1 A' hA _ hΨ)⟩
   ·rename_i hh _
    split at h
    ·rename_i as l rest hd
     simp only[Option.ite_none_right_eq_some]at h
     obtain⟨hnl,h⟩:=h
     rcases z2u (fun p c s K h=>IH p c s K h) as _ s _ _ h with⟨s1,h1,a1,d1⟩|⟨e,s1,hne,h1,a1,d1⟩
     ·rw[z1m]at h1
      obtain⟨ds,ms,h2,hw⟩:=q7w h1
      obtain⟨e,s',h3,h4,h5,h6⟩:=z3U (rest:=rest) (body:=exC X call ext tbl hs N n f (7::p) rest) (fun s K h=>IH _ rest s K h) N ds ms h2
      refine⟨e,s',h3,h4.trans a1,fun A' hA Ψ hΨ=>?_⟩
      exact y1S (z0O _ hd hnl) h6 (by rw[a1];exact hA) (fun Ψ' hd'=>d1 c1 l rest hd A' hA Ψ' (DC.q8H (hw.2 X n A' (by rw[a1];exact hA)) hd')) hΨ
     ·cases e with
      |goto i=>cases h1
      |normal|exit _|ret|panic _|outgrown=>exact⟨_,s1,h1,a1,fun A' hA Ψ hΨ=>q5c (d1 c1 l rest hd A' hA _ hΨ)⟩
    ·cases h
  |label _=>exact⟨_,_,h,rfl,fun A' hA Ψ hΨ=>z7d hΨ⟩
  |goto _=>exact⟨_,_,h,rfl,fun A' hA Ψ hΨ=>y39 hΨ⟩
  |ret=>exact⟨_,_,h,rfl,fun A' hA Ψ hΨ=>y4V hΨ⟩
  |rangeFunc _ _ _ _=>simp[exC]at h
  |refuse _=>simp[exC]at h
end
noncomputable def exF {R:Type} (X:Cx) (ov:OvK R) (ext:q0r) (tbl:FuncId→Nat→List (Nat × Nat)) (hs:FuncId→Hints) (N fuel:Nat):Nat→J2 R
 |0,_,_,_,_=>none
 |d+1,f,xs,A,K=>match ov f with
  |some g=>g xs A K
  |none=>(match X.P.funcs[f]? with
   |some fn=>(match fn.body with
    |some c=>if xs.length≤fn.ntmps then exJ (q5V (hs f) [9]) (S.start xs A) (fun s=>y3e X fn s K) fun k=>exC X (exF X ov ext tbl hs N fuel d) ext (tbl f) (hs f) N fn.ntmps fuel [] c (nbS (S.start xs A)) fun e s=>(match e with
       | .normal=>k s
       | .ret=>k s
       |_=>none)else none
    |none=>none)
   |none=>none)
section
variable {X:Cx} {R:Type} {ov:OvK R} {ext:q0r} (hP:x4 X.P=true) (hmo:X.P.follows .mixedOrders=true) (hov:z99 X ov) (he:q2h X ext)
include hP hmo hov he
theorem y03 {tbl:FuncId→Nat→List (Nat × Nat)} {hs:FuncId→Hints} {N fuel:Nat}:∀d,q1M X (exF X ov ext tbl hs N fuel d)
 |0=>by intro f xs A K r h;simp[exF]at h
 |d+1=>by
  intro f xs A K r h
  simp only[exF]at h
  split at h
  ·rename_i g hg
   exact hov f g hg xs A K r h
  split at h
  ·rename_i fn hf
   split at h
   ·rename_i c hb
    simp only[Option.ite_none_right_eq_some]at h
    obtain⟨hl,h⟩:=h
    have:=z2v (P:=fun s1=>∃e:Exit,(e= .normal∨e= .ret)∧Way X fn.ntmps c (S.start xs A) e s1) (G:=False) (fun s1 s2 ⟨e,h1,h2⟩ h3=>⟨e,h1,h2.q8H h3⟩) (fun s1 ⟨e,_,h⟩=>h.1) h fun k hk=>by
     obtain⟨e,s',h1,h2⟩:=y04 hP hmo (y03 d) he fuel [] c (nbS (S.start xs A)) _ hk
     have h2:Way X fn.ntmps c (S.start xs A) e s':=⟨h2.1,fun A' hA Ψ hΨ=>DC.q8H ((y0B (S.start xs A)).2 X fn.ntmps A' hA) (h2.2 A' hA Ψ hΨ)⟩
     cases e with
     |normal=>exact .inl ⟨s',h1,_,.inl rfl,h2⟩
     |ret=>exact .inl ⟨s',h1,_,.inr rfl,h2⟩
     |exit _|goto _|panic _|outgrown=>cases h1
    rcases this with⟨s',h1,e,he',h2,h3⟩|h
    ·obtain⟨v,L,h4,h5⟩:=y2y h1
     refine⟨v,L,z7c hP hf hb rfl hl fun A' hA=>?_,h4⟩
     exact h3 A' hA (fun e s'=>(e= .normal∨e= .ret)∧z48 X fn A' v L s') ⟨he',h5 A' (by rw[h2];exact hA)⟩
    ·exact h.elim
   ·cases h
  ·cases h
end
end Go.E
namespace Go.E
open Go
def q94:List (Nat × (List V→Option V))→q0r
 | [],_=>none
 |(i,g)::l,f=>bif Nat.beq f i then some g else q94 l f
def q4V (X:Cx):List (Nat × (List V→Option V))→Prop
 | []=>True
 |p::l=>(∀xs v,p.2 xs=some v→z5s X p.1 xs v)∧q4V X l
theorem z2t {X:Cx}:∀{l:List (Nat × (List V→Option V))},q4V X l→q2h X (q94 l)
 | [],_=>fun f g xs v h _=>by cases h
 |(i,g0)::l,h=>fun f g xs v hf hv=>by
  simp only[q94]at hf
  cases hb:Nat.beq f i with
  |true=>
   rw[hb,cond_true]at hf
   cases hf
   obtain rfl:=Nat.eq_of_beq_eq_true hb
   exact h.1 xs v hv
  |false=>
   rw[hb,cond_false]at hf
   exact z2t h.2 f g xs v hf hv
theorem q4V.append {X:Cx}:∀{l m:List (Nat × (List V→Option V))},q4V X l→q4V X m→q4V X (l++m)
 | [],_,_,h=>h
 |_::_,_,h,h'=>⟨h.1,h.2.append h'⟩
@[go_sem] theorem x3 {a0:C} {l:List C}:dk (a0::l) 0=a0:=rfl
@[go_sem] theorem u0 {a0 a1:C} {l:List C}:dk (a0::a1::l) 1=a1:=rfl
@[go_sem] theorem u7 {a0 a1 a2:C} {l:List C}:dk (a0::a1::a2::l) 2=a2:=rfl
@[go_sem] theorem j4 {a0 a1 a2 a3:C} {l:List C}:dk (a0::a1::a2::a3::l) 3=a3:=rfl
@[go_sem] theorem Q1 {a0 a1 a2 a3 a4:C} {l:List C}:dk (a0::a1::a2::a3::a4::l) 4=a4:=rfl
@[go_sem] theorem Z0 {a0 a1 a2 a3 a4 a5:C} {l:List C}:dk (a0::a1::a2::a3::a4::a5::l) 5=a5:=rfl
@[go_sem] theorem Z8 {a0 a1 a2 a3 a4 a5 a6:C} {l:List C}:dk (a0::a1::a2::a3::a4::a5::a6::l) 6=a6:=rfl
@[go_sem] theorem q2C {a0 a1 a2 a3 a4 a5 a6 a7:C} {l:List C}:dk (a0::a1::a2::a3::a4::a5::a6::a7::l) 7=a7:=rfl
@[go_sem] theorem q9C {a0 a1 a2 a3 a4 a5 a6 a7 a8:C} {l:List C}:dk (a0::a1::a2::a3::a4::a5::a6::a7::a8::l) 8=a8:=rfl
@[go_sem] theorem y6S {a0 a1 a2 a3 a4 a5 a6 a7 a8 a9:C} {l:List C}:dk (a0::a1::a2::a3::a4::a5::a6::a7::a8::a9::l) 9=a9:=rfl
@[go_sem] theorem y6Q {a0 a1 a2 a3 a4 a5 a6 a7 a8 a9 a10:C} {l:List C}:dk (a0::a1::a2::a3::a4::a5::a6::a7::a8::a9::a10::l) 10=a10:=rfl
@[go_sem] theorem y6P {a0 a1 a2 a3 a4 a5 a6 a7 a8 a9 a10 a11:C} {l:List C}:dk (a0::a1::a2::a3::a4::a5::a6::a7::a8::a9::a10::a11::l) 11=a11:=rfl
@[go_sem] theorem y6O {a0 a1 a2 a3 a4 a5 a6 a7 a8 a9 a10 a11 a12:C} {l:List C}:dk (a0::a1::a2::a3::a4::a5::a6::a7::a8::a9::a10::a11::a12::l) 12=a12:=rfl
@[go_sem] theorem y6N {a0 a1 a2 a3 a4 a5 a6 a7 a8 a9 a10 a11 a12 a13:C} {l:List C}:dk (a0::a1::a2::a3::a4::a5::a6::a7::a8::a9::a10::a11::a12::a13::l) 13=a13:=rfl
@[go_sem] theorem y6M {a0 a1 a2 a3 a4 a5 a6 a7 a8 a9 a10 a11 a12 a13 a14:C} {l:List C}:dk (a0::a1::a2::a3::a4::a5::a6::a7::a8::a9::a10::a11::a12::a13::a14::l) 14=a14:=rfl
@[go_sem] theorem y6L {a0 a1 a2 a3 a4 a5 a6 a7 a8 a9 a10 a11 a12 a13 a14 a15:C} {l:List C}:dk (a0::a1::a2::a3::a4::a5::a6::a7::a8::a9::a10::a11::a12::a13::a14::a15::l) 15=a15:=rfl
@[go_sem] theorem y6K {a0 a1 a2 a3 a4 a5 a6 a7 a8 a9 a10 a11 a12 a13 a14 a15 a16:C} {l:List C}:dk (a0::a1::a2::a3::a4::a5::a6::a7::a8::a9::a10::a11::a12::a13::a14::a15::a16::l) 16=a16:=rfl
@[go_sem] theorem y6J {a0 a1 a2 a3 a4 a5 a6 a7 a8 a9 a10 a11 a12 a13 a14 a15 a16 a17:C} {l:List C}:dk (a0::a1::a2::a3::a4::a5::a6::a7::a8::a9::a10::a11::a12::a13::a14::a15::a16::a17::l) 17=a17:=rfl
@[go_sem] theorem y6I {a0 a1 a2 a3 a4 a5 a6 a7 a8 a9 a10 a11 a12 a13 a14 a15 a16 a17 a18:C} {l:List C}:dk (a0::a1::a2::a3::a4::a5::a6::a7::a8::a9::a10::a11::a12::a13::a14::a15::a16::a17::a18::l) 18=a18:=rfl
@[go_sem] theorem y6H {a0 a1 a2 a3 a4 a5 a6 a7 a8 a9 a10 a11 a12 a13 a14 a15 a16 a17 a18 a19:C} {l:List C}:dk (a0::a1::a2::a3::a4::a5::a6::a7::a8::a9::a10::a11::a12::a13::a14::a15::a16::a17::a18::a19::l) 19=a19:=rfl
@[go_sem] theorem y6G {a0 a1 a2 a3 a4 a5 a6 a7 a8 a9 a10 a11 a12 a13 a14 a15 a16 a17 a18 a19 a20:C} {l:List C}:dk (a0::a1::a2::a3::a4::a5::a6::a7::a8::a9::a10::a11::a12::a13::a14::a15::a16::a17::a18::a19::a20::l) 20=a20:=rfl
@[go_sem] theorem y6F {a0 a1 a2 a3 a4 a5 a6 a7 a8 a9 a10 a11 a12 a13 a14 a15 a16 a17 a18 a19 a20 a21:C} {l:List C}:dk (a0::a1::a2::a3::a4::a5::a6::a7::a8::a9::a10::a11::a12::a13::a14::a15::a16::a17::a18::a19::a20::a21::l) 21=a21:=rfl
@[go_sem] theorem y6E {a0 a1 a2 a3 a4 a5 a6 a7 a8 a9 a10 a11 a12 a13 a14 a15 a16 a17 a18 a19 a20 a21 a22:C} {l:List C}:dk (a0::a1::a2::a3::a4::a5::a6::a7::a8::a9::a10::a11::a12::a13::a14::a15::a16::a17::a18::a19::a20::a21::a22::l) 22=a22:=rfl
@[go_sem] theorem y6D {a0 a1 a2 a3 a4 a5 a6 a7 a8 a9 a10 a11 a12 a13 a14 a15 a16 a17 a18 a19 a20 a21 a22 a23:C} {l:List C}:dk (a0::a1::a2::a3::a4::a5::a6::a7::a8::a9::a10::a11::a12::a13::a14::a15::a16::a17::a18::a19::a20::a21::a22::a23::l) 23=a23:=rfl
@[go_sem] theorem y6C {a0 a1 a2 a3 a4 a5 a6 a7 a8 a9 a10 a11 a12 a13 a14 a15 a16 a17 a18 a19 a20 a21 a22 a23 a24:C} {l:List C}:dk (a0::a1::a2::a3::a4::a5::a6::a7::a8::a9::a10::a11::a12::a13::a14::a15::a16::a17::a18::a19::a20::a21::a22::a23::a24::l) 24=a24:=rfl
@[go_sem] theorem y6B {a0 a1 a2 a3 a4 a5 a6 a7 a8 a9 a10 a11 a12 a13 a14 a15 a16 a17 a18 a19 a20 a21 a22 a23 a24 a25:C} {l:List C}:dk (a0::a1::a2::a3::a4::a5::a6::a7::a8::a9::a10::a11::a12::a13::a14::a15::a16::a17::a18::a19::a20::a21::a22::a23::a24::a25::l) 25=a25:=rfl
@[go_sem] theorem y6u {a0:C} {l:List C}:C.get (.agg (a0::l)) 0=a0:=rfl
@[go_sem] theorem y6t {a0 a1:C} {l:List C}:C.get (.agg (a0::a1::l)) 1=a1:=rfl
@[go_sem] theorem y6s {a0 a1 a2:C} {l:List C}:C.get (.agg (a0::a1::a2::l)) 2=a2:=rfl
@[go_sem] theorem y6r {a0 a1 a2 a3:C} {l:List C}:C.get (.agg (a0::a1::a2::a3::l)) 3=a3:=rfl
@[go_sem] theorem y6q {a0 a1 a2 a3 a4:C} {l:List C}:C.get (.agg (a0::a1::a2::a3::a4::l)) 4=a4:=rfl
@[go_sem] theorem y6p {a0 a1 a2 a3 a4 a5:C} {l:List C}:C.get (.agg (a0::a1::a2::a3::a4::a5::l)) 5=a5:=rfl
@[go_sem] theorem y6o {a0 a1 a2 a3 a4 a5 a6:C} {l:List C}:C.get (.agg (a0::a1::a2::a3::a4::a5::a6::l)) 6=a6:=rfl
@[go_sem] theorem y6n {a0 a1 a2 a3 a4 a5 a6 a7:C} {l:List C}:C.get (.agg (a0::a1::a2::a3::a4::a5::a6::a7::l)) 7=a7:=rfl
@[go_sem] theorem y6m {a0 a1 a2 a3 a4 a5 a6 a7 a8:C} {l:List C}:C.get (.agg (a0::a1::a2::a3::a4::a5::a6::a7::a8::l)) 8=a8:=rfl
@[go_sem] theorem y6l {a0 a1 a2 a3 a4 a5 a6 a7 a8 a9:C} {l:List C}:C.get (.agg (a0::a1::a2::a3::a4::a5::a6::a7::a8::a9::l)) 9=a9:=rfl
@[go_sem] theorem y5R {a0 a1 a2 a3 a4 a5 a6 a7 a8 a9 a10:C} {l:List C}:C.get (.agg (a0::a1::a2::a3::a4::a5::a6::a7::a8::a9::a10::l)) 10=a10:=rfl
@[go_sem] theorem y5Q {a0 a1 a2 a3 a4 a5 a6 a7 a8 a9 a10 a11:C} {l:List C}:C.get (.agg (a0::a1::a2::a3::a4::a5::a6::a7::a8::a9::a10::a11::l)) 11=a11:=rfl
@[go_sem] theorem y5P {a0 a1 a2 a3 a4 a5 a6 a7 a8 a9 a10 a11 a12:C} {l:List C}:C.get (.agg (a0::a1::a2::a3::a4::a5::a6::a7::a8::a9::a10::a11::a12::l)) 12=a12:=rfl
@[go_sem] theorem y5O {a0 a1 a2 a3 a4 a5 a6 a7 a8 a9 a10 a11 a12 a13:C} {l:List C}:C.get (.agg (a0::a1::a2::a3::a4::a5::a6::a7::a8::a9::a10::a11::a12::a13::l)) 13=a13:=rfl
@[go_sem] theorem y5N {a0 a1 a2 a3 a4 a5 a6 a7 a8 a9 a10 a11 a12 a13 a14:C} {l:List C}:C.get (.agg (a0::a1::a2::a3::a4::a5::a6::a7::a8::a9::a10::a11::a12::a13::a14::l)) 14=a14:=rfl
@[go_sem] theorem y5M {a0 a1 a2 a3 a4 a5 a6 a7 a8 a9 a10 a11 a12 a13 a14 a15:C} {l:List C}:C.get (.agg (a0::a1::a2::a3::a4::a5::a6::a7::a8::a9::a10::a11::a12::a13::a14::a15::l)) 15=a15:=rfl
@[go_sem] theorem y6i {a0 b:C} {l:List C}:C.set (.agg (a0::l)) 0 b= .agg (b::l):=rfl
@[go_sem] theorem y6h {a0 a1 b:C} {l:List C}:C.set (.agg (a0::a1::l)) 1 b= .agg (a0::b::l):=rfl
@[go_sem] theorem y6g {a0 a1 a2 b:C} {l:List C}:C.set (.agg (a0::a1::a2::l)) 2 b= .agg (a0::a1::b::l):=rfl
@[go_sem] theorem y6f {a0 a1 a2 a3 b:C} {l:List C}:C.set (.agg (a0::a1::a2::a3::l)) 3 b= .agg (a0::a1::a2::b::l):=rfl
@[go_sem] theorem y6e {a0 a1 a2 a3 a4 b:C} {l:List C}:C.set (.agg (a0::a1::a2::a3::a4::l)) 4 b= .agg (a0::a1::a2::a3::b::l):=rfl
@[go_sem] theorem y6d {a0 a1 a2 a3 a4 a5 b:C} {l:List C}:C.set (.agg (a0::a1::a2::a3::a4::a5::l)) 5 b= .agg (a0::a1::a2::a3::a4::b::l):=rfl
@[go_sem] theorem y6c {a0 a1 a2 a3 a4 a5 a6 b:C} {l:List C}:C.set (.agg (a0::a1::a2::a3::a4::a5::a6::l)) 6 b= .agg (a0::a1::a2::a3::a4::a5::b::l):=rfl
@[go_sem] theorem y6b {a0 a1 a2 a3 a4 a5 a6 a7 b:C} {l:List C}:C.set (.agg (a0::a1::a2::a3::a4::a5::a6::a7::l)) 7 b= .agg (a0::a1::a2::a3::a4::a5::a6::b::l):=rfl
attribute [go_sem] r6 Nat.beq_refl Bool.and_true Bool.true_and Bool.not_true Bool.not_false beq_self_eq_true Int.toNat_natCast decide_true decide_false Bool.cond_decide Int.toNat_zero Int.toNat_one
attribute [go_sem 500] Int.ofNat_eq_natCast
attribute [go_sem] Int.cast_ofNat_Int
@[go_sem] theorem y6j (n:Nat):Int.ofNat (@OfNat.ofNat Nat n (instOfNatNat n))=@OfNat.ofNat Int n instOfNat:=rfl
@[go_sem] theorem y5h (n:Nat):((@OfNat.ofNat Nat n (instOfNatNat n):Nat):Int)=@OfNat.ofNat Int n instOfNat:=rfl
@[go_sem] theorem y6k (a b:Bool):y18 (.bool a) b= .bool b:=rfl
theorem q4O {R:Type} {ι:Type} {F:KD R→List C→List Es→Option R} (st:ι→List C) (sm:ι→List Es) (μ:ι→Nat) (P:ι→Prop) (spec:ι→Option R)
  (h:∀i,P i→∀rec:KD R,(∀j,P j→μ j<μ i→rec (st j) (sm j)=spec j)→F rec (st i) (sm i)=spec i):∀(N:Nat) (i:ι),P i→μ i<N→Z2 N F (st i) (sm i)=spec i
 |0,_,_,h2=>absurd h2 (Nat.not_lt_zero _)
 |N+1,i,h1,h2=>by
  rw[q1l]
  exact h i h1 _ fun j hj hlt=>q4O st sm μ P spec h N j hj (by omega)
theorem U1 {R:Type} {F:KD R→List C→List Es→Option R} (st:Nat→List C) (sm:Nat→List Es) (m:Nat) (r:Option R) (step:∀i,i<m→∀rec:KD R,F rec (st i) (sm i)=rec (st (i+1)) (sm (i+1))) (stop:∀rec:KD R,F rec (st m) (sm m)=r) {N:Nat} (hN:m<N):
  Z2 N F (st 0) (sm 0)=r:=by
 refine q4O (F:=F) st sm (fun i=>m-i) (fun i=>i≤m) (fun _=>r) (fun i hi rec hrec=>?_) N 0 (Nat.zero_le _) (by omega)
 by_cases e:i=m
 ·subst e;exact stop rec
 ·rw[step i (by omega) rec]
  exact hrec (i+1) (by omega) (by omega)
theorem y1g {X:Cx} {f:FuncId} {ts:List Ty} {cs:List C} {A:Key→Option O} {v:V} {L:List (Key × O)} (h:(∀(i:Nat) (t:Ty) (c:C),ts[i]? =some t→cs[i]? =some c→C.wf t c)→Q3 X f (List.zipWith V.d ts cs) A v L):Q3 X f (List.zipWith V.d ts cs) A v L:=by
 intro A' Γ w args hA hg hc hn hr
 refine h (fun i t c ht hcs=>?_) A' Γ w args hA hg hc hn hr
 have hx:(List.zipWith V.d ts cs)[i]? =some (.d t c):=by simp[List.getElem?_zipWith,ht,hcs]
 have hs:(X6 1000 (List.zipWith V.d ts cs))[i]? =some (.d t c):=by rw[q4F,hx];rfl
 have hl:i<args.size:=by rw[←hn];exact(List.getElem?_eq_some_iff.1 hx).1
 exact(hr i _ _ hs (Array.getElem?_eq_getElem hl)).wf
theorem y2g {w:World} {gl gl':Nat→Option (Ty × C)} (h:z3O w gl) (hs:∀g x,gl' g=some x→gl g=some x):z3O w gl':=fun g τ c hg=>h g τ c (hs g (τ,c) hg)
theorem y4H {X:Cx} {f:FuncId} {g:OvG (V × List (Key × O))} (h:GOk X f g) {xs:List V} {A:Key→Option O} {v:V} {L:List (Key × O)} (hr:g xs A kR=some (v,L)):Q3 X f xs A v L:=by
 obtain⟨v',L',h1,h2⟩:=h xs A kR (v,L) hr
 simp only[kR,Option.some.injEq,Prod.mk.injEq]at h2
 obtain⟨rfl,rfl⟩:=h2
 exact h1
theorem q09 {i:Nat} (h:i<4611686018427387904):IntKind.i64.wrap ((i:Int)+1)=((i+1:Nat):Int):=by rw[IntWalk.i64_in _ (by omega)];omega
theorem wrap_u64 {n:Int} (h:0≤n) (h2:n<18446744073709551616):IntKind.u64.wrap n=n:=by
 have hm1:IntKind.u64.min=0:=by decide
 have hm2:IntKind.u64.max=18446744073709551615:=by decide
 exact y3l (by omega) (by omega)
end Go.E
namespace Go.E
open Go
def q8h (w:World) (v:Value) (l:List UInt8):Prop:=
 (v= .slice none 0 0∧l=[])∨∃g cap arr,v= .slice (some ⟨g,0,none⟩) l.length cap∧w.heap[g]? =some (.cells arr 5 (0,0))∧arr.size=cap∧arr.toList.take l.length=u4 l∧l.length≤cap∧cap≤maxLen∧0<cap
def y0b (w w':World) (v v':Value) (l l':List UInt8):Prop:=
 oof w'=oof w∧w.heap.size≤w'.heap.size∧((v'=v∧l'=l∧∀b,b<w.heap.size→w'.heap[b]? =w.heap[b]?)∨
  ∃g cap arr,v'= .slice (some ⟨g,0,none⟩) l'.length cap∧w'.heap[g]? =some (.cells arr 5 (0,0))∧arr.size=cap∧arr.toList.take l'.length=u4 l'∧l'.length≤cap∧cap≤maxLen∧0<cap∧
   (w.heap.size≤g∨v= .slice (some ⟨g,0,none⟩) l.length cap)∧∀b,b<w.heap.size→b≠g→w'.heap[b]? =w.heap[b]?)
theorem U9 (l:List UInt8):(u4 l).length=l.length:=by simp[u4]
theorem q49 (l m:List UInt8):u4 (l++m)=u4 l++u4 m:=by simp[u4]
section
variable {P:Program} {w:World}
theorem z95 {t tx ty:TypeId} {i:TypeInfo} {z:Value} (ht:P.underlying t=some (.slice 5)) (hi:P.info? 5=some i) (hz:i.zero=some z) (h1:i.size=1) (h2:i.bytes=1) (h3:z.cells.size=1)
  {l m:List UInt8} {v x:Value} (hl:(l++m).length≤140737488355328) (hs:Src P 1 tx x m.length (u4 m) w) (hv:q8h w v l):
  ∃v' w',(Builtin.append_ #[t,tx] ty #[v,x]).run P w= .ok v' w'∧y0b w w' v v' l (l++m):=by
 have hs':Src P i.size tx x m.length (u4 m) w:=by rw[h1];exact hs
 rw[List.length_append]at hl
 have hmx:l.length+m.length≤maxLen:=by unfold maxLen;omega
 have hmx':((l.length+m.length:Nat):Int)≤9223372036854775807:=by omega
 have fresh:∀(olds:List Value) (sc:Nat),olds=u4 l→sc<l.length+m.length→y0b w (w.drew.alloc (.cells ((olds++u4 m).toArray++Builtin.zeroCells z.cells (grownCap w (l.length+m.length) sc 5-(l.length+m.length))) 5)) v
   (.slice (some ⟨w.heap.size,0,none⟩) (l.length+m.length) (grownCap w (l.length+m.length) sc 5)) l (l++m):=by
  intro olds sc ho hsc
  subst ho
  have hge:=grownCap_ge w (l.length+m.length) sc 5
  have hcm:=grownCap_le_maxLen w (l.length+m.length) sc 5 hmx
  refine⟨rfl,by simp,.inr ⟨w.heap.size,_,_,by rw[List.length_append],heap_alloc_new w.drew _,?_,?_,by rw[List.length_append];exact hge,hcm,by omega,.inl (Nat.le_refl _),fun b hb _=>heap_alloc_old w.drew _ hb⟩⟩
  ·simp only[Array.size_append,List.size_toArray,List.length_append,size_zeroCells,h3,U9,Nat.mul_one]
   omega
  ·rw[Array.toList_append,List.toList_toArray,←q49]
   have:(u4 (l++m)).length=(l++m).length:=U9 _
   rw[←this,List.take_left']
   rfl
 by_cases hm:m=[]
 ·subst hm
  refine⟨v,w,?_,rfl,Nat.le_refl _,.inl ⟨rfl,by simp,fun _ _=>rfl⟩⟩
  rcases hv with⟨rfl,_⟩|⟨g,cap,arr,rfl,_,_,_,hle,_⟩
  ·exact q0s ht hi hs' (Nat.le_refl _)
  ·exact q0s ht hi hs' hle
 ·have hml:0<m.length:=List.length_pos_iff.2 hm
  rcases hv with⟨rfl,rfl⟩|⟨g,cap,arr,rfl,hg,hsz,htk,hle,hcm,hc0⟩
  ·have run:=run_append_grow_src (P:=P) w t tx ty 5 i z ht hi hz none 0 0 [] (by simpa[h1]using run_firstCells_none (P:=P) w.drew i.size 0 0 0) x m.length (u4 m) hs' (by omega) (by simpa using hmx') (by
    rw[h2];exact growslice_fits (by omega) (by simp at hl;omega))
   have f:=fresh [] 0 rfl (by simp;omega)
   simp only[List.length_nil]at f
   exact⟨_,_,run,f⟩
  ·by_cases hroom:l.length+m.length≤cap
   ·have run:=run_append_room_src (P:=P) w t tx ty 5 i ht hi g 0 l.length cap x m.length (u4 m) hs' hroom
     (fun j hj=>by
      rw[U9]at hj
      simp[World.cell?,hg]
      rw[h1];omega)
     (fun j hj=>by simp[World.frozen?,hg])
    rw[Nat.zero_add,h1,Nat.mul_one]at run
    obtain⟨arr',hw',harr'⟩:=q2M g (u4 m) l.length w arr 5 (0,0) hg (by rw[U9];omega)
    refine⟨_,_,run,by unfold oof;rw[World.os_setCells,World.output_setCells],by rw[q8l];exact Nat.le_refl _,.inr ⟨g,cap,arr',by rw[List.length_append],hw',?_,?_,by rw[List.length_append];exact hroom,hcm,hc0,.inr rfl,fun b _ hb=>q2j g (u4 m) _ w b hb⟩⟩
    ·rw[←hsz,←Array.length_toList,←Array.length_toList,harr',Q7 (by rw[U9];simp;omega)]
    ·rw[harr',w7,htk,q49]
     have e:(l++m).length=(u4 l++u4 m).length:=by simp[U9]
     rw[e,List.take_left']
     rfl
   ·have hcell:∀j u,(u4 l)[j]? =some u→w.cell? ((⟨g,0,none⟩:Addr).add j)=some u:=fun j u hu=>by
     rw[←htk,List.getElem?_take]at hu
     split at hu
     ·rw[Array.getElem?_toList]at hu
      simp[World.cell?,Addr.add_lit,hg,hu]
     ·cases hu
    have run:=run_append_grow_src (P:=P) w t tx ty 5 i z ht hi hz (some ⟨g,0,none⟩) l.length cap (u4 l) (by
      have:=run_firstCells_some (P:=P) w.drew i.size l.length ⟨g,0,none⟩ l.length cap (u4 l) (by rw[U9,h1,Nat.mul_one]) (by simpa using hcell)
      exact this) x m.length (u4 m) hs' (by omega) hmx' (by
     rw[h2];exact growslice_fits (by omega) (by omega))
    exact⟨_,_,run,fresh (u4 l) cap rfl (by omega)⟩
open RowKit in
theorem z0h {ops:Array Oper} {rest:List Oper} {o:Oper} {a:Act} {Q:Exit→Act→World→Prop} (hgd:o.guard=none) (sl x:Operand) (t u:TypeId)
  (ho:o.op= .call {callee:=.builtin .append,args:=#[sl,x],argTypes:=#[t,u]}) {i:TypeInfo} {z:Value} (ht:P.underlying t=some (.slice 5)) (hi:P.info? 5=some i) (hz:i.zero=some z) (h1:i.size=1) (h2:i.bytes=1) (h3:z.cells.size=1)
  {l m:List UInt8} {v xv:Value} (hsl:a.eval sl=v) (hx:a.eval x=xv) (hl:(l++m).length≤140737488355328) (hs:Src P 1 u xv m.length (u4 m) w) (hv:q8h w v l)
  (h:∀v' w',y0b w w' v v' l (l++m)→wpList P ops Q rest (a.put o.dst v') w'):wpList P ops Q (o::rest) a w:=by
 refine wpList_plain hgd fun K hK=>?_
 obtain⟨v',w',hr,h4⟩:=z95 (ty:=o.type) ht hi hz h1 h2 h3 hl hs hv
 unfold Oper.wp execOp
 simp only[ho,resolve,invoke,builtin,Sem.run_bind,Sem.run_pure,Result.andThen_ok,List.map_toArray,List.map_cons,List.map_nil,hsl,hx,hr]
 exact hK _ _ (h v' w' h4)
end
section
variable {Γ:G} {w w':World} {s:S}
theorem z8.y4W (c:z8 Γ w s) {k:Key} {l:List UInt8} {v:Value}
  (h:(v= .slice none 0 0∧l=[])∨∃g cap,v= .slice (some ⟨g,0,none⟩) l.length cap∧Γ.H g=some (u4 l)∧Γ.κ g=some (.home k .bld,cap)∧l.length≤cap∧cap≤maxLen∧0<cap):q8h w v l:=by
 rcases h with h|⟨g,cap,h1,h2,h3,h4,h5,h6⟩
 ·exact .inl h
 ·obtain⟨_,_,arr,T,a1,a2,a3⟩:=c.hκ g _ _ h3
  have a3:T=5:=a3
  subst a3
  obtain⟨arr',T',fr,r,b1,b2⟩:=c.hH g _ h2
  rw[a1]at b1;cases b1
  refine .inr ⟨g,cap,arr,h1,a1,a2,?_,h4,h5,h6⟩
  rw[b2,←U9 l,List.take_left']
  rfl
theorem z8.y5T (c:z8 Γ w s) {k:Key} {T:TypeId} {l l':List UInt8} {b:Nat} {adr v adr' v':Value} (ho:s.obj k=some (.it l T)) (hι:Γ.ι k=some (b,F5)) (hw:w.heap[b]? =some (.cells #[adr,v] T (0,0)))
  (hv:(v= .slice none 0 0∧l=[])∨∃g cap,v= .slice (some ⟨g,0,none⟩) l.length cap∧Γ.H g=some (u4 l)∧Γ.κ g=some (.home k .bld,cap)∧l.length≤cap∧cap≤maxLen∧0<cap)
  (hoo:oof w'=oof w) (hsz:w.heap.size≤w'.heap.size) (hb':w'.heap[b]? =some (.cells #[adr',v'] T (0,0))) (hadr:adr'= .pointer none∨adr'= .pointer (some ⟨b,0,none⟩)) (hlen:l'.length≤140737488355328) (hpre:∃m,l'=l++m)
  (hrow:(v'=v∧l'=l∧∀b2,b2<w.heap.size→b2≠b→w'.heap[b2]? =w.heap[b2]?)∨
   ∃g cap arr,v'= .slice (some ⟨g,0,none⟩) l'.length cap∧w'.heap[g]? =some (.cells arr 5 (0,0))∧arr.size=cap∧arr.toList.take l'.length=u4 l'∧l'.length≤cap∧cap≤maxLen∧0<cap∧
    (w.heap.size≤g∨v= .slice (some ⟨g,0,none⟩) l.length cap)∧∀b2,b2<w.heap.size→b2≠g→b2≠b→w'.heap[b2]? =w.heap[b2]?):
  ∃Γ',GLe Γ Γ'∧s8 Γ Γ'∧z8 Γ' w' {s with loc:=(k,.it l' T)::s.loc}:=by
 obtain⟨hH,hZ,hlt,_⟩:=c.W2 hι ho rfl
 have hdk:s.p9 k=false:=by rw[c6 ho];rfl
 have hdom:∀j,Γ.ι j≠none→S.obj {s with loc:=(k,.it l' T)::s.loc} j≠none:=fun j h=>by
  rw[u3]
  split
  ·simp
  ·exact c.dom j h
 have nek:∀j b2 τ o,k≠j→Γ.ι j=some (b2,τ)→s.obj j=some o→o.X3=false→b2≠b:=fun j b2 τ o hj h1 h2 h3 e=>by
  subst e
  exact hj (c.z9w hι h1 hdk (by rw[c6 h2];exact h3))
 rcases hrow with⟨rfl,rfl,hsame⟩|⟨g,cap,arr,rfl,hg,hasz,htk,hle,hcm,hc0,hgv,hsame⟩
 ·refine⟨Γ,.refl Γ,.refl Γ,?_⟩
  refine c.change (.refl Γ) rfl rfl rfl hoo (fun b2 l0 h=>?_) (fun b2 h=>hsame b2 (c.Zlt h) fun e=>by subst e;exact h hZ) (fun b2 o sz h=>?_) (fun j o h=>?_) (fun _ h _=>h) hdom (fun b2 sz h=>?_) (c.q45 (q2z fun h=>by rw[hdk]at h;cases h)) c.tok c.tdom hsz
  ·rw[hsame b2 (c.Hlt (by rw[h];simp)) (fun e=>by subst e;rw[hH]at h;cases h)];exact c.hH b2 l0 h
  ·obtain⟨a1,a2,a3⟩:=c.hκ b2 o sz h
   rw[hsame b2 (c.Hlt a2) (fun e=>by subst e;exact a2 hH)];exact⟨a1,a2,a3⟩
  ·rw[u3]at h
   split at h
   ·rename_i e
    subst e;cases h
    exact .inr ⟨b,adr',v',hι,hH,hZ,hb',hadr,hlen,hv⟩
   ·rename_i e
    refine .inl ⟨h,fun hd=>⟨fun _ _ _ _=>⟨rfl,rfl⟩,fun b2 τ' hb=>?_⟩⟩
    obtain⟨a1,a2,a3,_⟩:=c.W2 hb h hd
    exact⟨hsame b2 a3 (nek j b2 τ' o e hb h hd),a1⟩
  ·obtain⟨arr,T1,fr,a1,a2⟩:=c.hσ b2 sz h
   by_cases e:b2=b
   ·subst e
    rw[hw]at a1;cases a1
    exact⟨_,_,_,hb',a2⟩
   ·exact⟨arr,T1,fr,by rw[hsame b2 (c5 a1) e];exact a1,a2⟩
 · -- the row's place
  have hgz:Γ.Z g=none:=by
   rcases hgv with h|h
   ·cases hz:Γ.Z g with
    |none=>rfl
    |some x=>exact absurd (c.Zlt (by rw[hz];simp)) (by omega)
   ·rcases hv with⟨h',_⟩|⟨g2,cap2,h',a1,a2,_⟩
    ·rw[h]at h';cases h'
    ·rw[h]at h';cases h'
     exact(c.hκ g _ _ a2).1
  have hgκ:∀o sz,Γ.κ g=some (o,sz)→o= .home k .bld∧sz=cap:=by
   intro o sz hk
   rcases hgv with h|h
   ·exact absurd (c.κlt (by rw[hk];simp)) (by omega)
   ·rcases hv with⟨h',_⟩|⟨g2,cap2,h',a1,a2,_⟩
    ·rw[h]at h';cases h'
    ·rw[h]at h';cases h'
     rw[hk]at a2;cases a2;exact⟨rfl,rfl⟩
  have hgH:∀l0,Γ.H g=some l0→l0=u4 l:=by
   intro l0 hk
   rcases hgv with h|h
   ·exact absurd (c.Hlt (by rw[hk];simp)) (by omega)
   ·rcases hv with⟨h',_⟩|⟨g2,cap2,h',a1,a2,_⟩
    ·rw[h]at h';cases h'
    ·rw[h]at h';cases h'
     rw[hk]at a1;cases a1;rfl
  have hgι:∀j b2 τ o,Γ.ι j=some (b2,τ)→s.obj j=some o→o.X3=false→b2≠g:=by
   intro j b2 τ o h1 h2 h3 e
   subst e
   obtain⟨a1,a2,a3,_⟩:=c.W2 h1 h2 h3
   rcases hgv with h|h
   ·omega
   ·rcases hv with⟨h',_⟩|⟨g2,cap2,h',q1,q2,_⟩
    ·rw[h]at h';cases h'
    ·rw[h]at h';cases h'
     rw[a1]at q1;cases q1
  have hbg:b≠g:=hgι k b _ _ hι ho rfl
  obtain⟨m,rfl⟩:=hpre
  have hle':Γ.H.le (r9 Γ.H g (u4 (l++m))):=fun b2 l0 h=>by
   by_cases e:b2=g
   ·subst e
    refine⟨u4 m,?_⟩
    rw[w8,hgH l0 h,q49]
   ·exact⟨[],by rw[c4 _ _ e,h];simp⟩
  refine⟨{Γ with H:=r9 Γ.H g (u4 (l++m)),κ:=r9 Γ.κ g (.home k .bld,cap)},⟨hle',rfl,fun b2 h=>c4 _ _ fun e=>by subst e;exact h hgz,fun _ _ h=>h,rfl,rfl,fun _ _ h=>h,fun _ h=>h⟩,
   ⟨hle',fun _ _ h=>h,fun t x L h=>⟨x,L,h,Nat.le_refl _,fun _=>rfl⟩,fun _ _ h=>h⟩,?_⟩
  refine c.change (Γ':={Γ with H:=r9 Γ.H g (u4 (l++m)),κ:=r9 Γ.κ g (.home k .bld,cap)}) ⟨hle',fun _ _ h=>h,fun t x L h=>⟨x,L,h,Nat.le_refl _,fun _=>rfl⟩,fun _ _ h=>h⟩ rfl rfl rfl hoo (fun b2 l0 h=>?_)
   (fun b2 h=>hsame b2 (c.Zlt h) (fun e=>by subst e;exact h hgz) fun e=>by subst e;exact h hZ) (fun b2 o sz h=>?_) (fun j o h=>?_) (fun _ h _=>h) hdom (fun b2 sz h=>?_) (c.q45 (q2z fun h=>by rw[hdk]at h;cases h)) (fun t L h=>?_) c.tdom hsz
  ·by_cases e:b2=g
   ·subst e
    have h':r9 Γ.H b2 (u4 (l++m)) b2=some l0:=h
    rw[w8]at h';cases h'
    exact⟨arr,5,(0,0),arr.toList.drop (l++m).length,hg,by rw[←htk,List.take_append_drop]⟩
   ·have h':Γ.H b2=some l0:=(c4 _ _ e).symm.trans h
    rw[hsame b2 (c.Hlt (by rw[h'];simp)) e (fun e=>by subst e;rw[hH]at h';cases h')];exact c.hH b2 l0 h'
  ·by_cases e:b2=g
   ·subst e
    have h':r9 Γ.κ b2 (.home k .bld,cap) b2=some (o,sz):=h
    rw[w8]at h';cases h'
    exact⟨hgz,by show r9 Γ.H b2 (u4 (l++m)) b2≠none;rw[w8];simp,arr,5,hg,hasz,rfl⟩
   ·have h':Γ.κ b2=some (o,sz):=(c4 _ _ e).symm.trans h
    obtain⟨a1,a2,a3⟩:=c.hκ b2 o sz h'
    rw[hsame b2 (c.Hlt a2) e (fun e=>by subst e;exact a2 hH)]
    exact⟨a1,by show r9 Γ.H g (u4 (l++m)) b2≠none;rw[c4 _ _ e];exact a2,a3⟩
  ·rw[u3]at h
   split at h
   ·rename_i e
    subst e;cases h
    exact .inr ⟨b,adr',_,hι,by show r9 Γ.H g (u4 (l++m)) b=none;rw[c4 _ _ hbg];exact hH,hZ,hb',hadr,hlen,.inr ⟨g,cap,rfl,w8 _ _ _,w8 _ _ _,hle,hcm,hc0⟩⟩
   ·rename_i e
    refine .inl ⟨h,fun hd=>⟨fun b2 p sz hk=>?_,fun b2 τ' hb=>?_⟩⟩
    ·have hne:b2≠g:=fun e2=>by
      subst e2
      obtain⟨q,_⟩:=hgκ _ _ hk
      cases q
      exact e rfl
     exact⟨c4 _ _ hne,c4 _ _ hne⟩
    ·obtain⟨a1,a2,a3,_⟩:=c.W2 hb h hd
     have hne:=hgι j b2 τ' o hb h hd
     exact⟨hsame b2 a3 hne (nek j b2 τ' o e hb h hd),(c4 _ _ hne).trans a1⟩
  ·obtain⟨arr1,T1,fr,a1,a2⟩:=c.hσ b2 sz h
   by_cases e:b2=b
   ·subst e
    rw[hw]at a1;cases a1
    exact⟨_,_,_,hb',a2⟩
   ·by_cases e2:b2=g
    ·subst e2
     refine⟨arr,5,(0,0),hg,?_⟩
     rcases hgv with h'|h'
     ·have:=c5 a1;omega
     ·rcases hv with⟨h2,_⟩|⟨g2,cap2,h2,q1,q2,_⟩
      ·rw[h']at h2;cases h2
      ·rw[h']at h2;cases h2
       obtain⟨_,_,arr2,T2,b1,b2,_⟩:=c.hκ b2 _ _ q2
       rw[a1]at b1;cases b1
       omega
    ·exact⟨arr1,T1,fr,by rw[hsame b2 (c5 a1) e2 e];exact a1,a2⟩
  ·obtain⟨x,h1,h2⟩:=c.tok t L h
   refine⟨x,h1,fun b2 pos sz hx=>?_⟩
   obtain⟨⟨l0,a1,a2⟩,a3⟩:=h2 b2 pos sz hx
   have hne:b2≠g:=fun e=>by subst e;have:=(hgκ _ _ a3).1;cases this
   exact⟨⟨l0,(c4 _ _ hne).trans a1,a2⟩,(c4 _ _ hne).trans a3⟩
theorem z8.y1s (c:z8 Γ w s) {k:Key} {T:TypeId} {l:List UInt8} {b:Nat} {adr v:Value} (ho:s.obj k=some (.it l T)) (hι:Γ.ι k=some (b,F5)) (hw:w.heap[b]? =some (.cells #[adr,v] T (0,0))) (h1c:J0 [adr,v])
  (hoo:oof w'=oof w) (hsz:w.heap.size≤w'.heap.size) (gopt:Option Nat) (hg:∀g,gopt=some g→(∃sz,Γ.κ g=some (.home k .bld,sz))∧∃arr T2 fr,w.heap[g]? =some (.cells arr T2 (0,0))∧w'.heap[g]? =some (.cells arr T2 fr))
  (hsame:∀b2,b2<w.heap.size→some b2≠gopt→w'.heap[b2]? =w.heap[b2]?):
  ∃Γ',GLe Γ Γ'∧s8 Γ Γ'∧z8 Γ' w' {s with loc:=(k,.box (.top F5))::s.loc}:=by
 obtain⟨hH,hZ,hlt,_⟩:=c.W2 hι ho rfl
 have hdk:s.p9 k=false:=by rw[c6 ho];rfl
 have gk:∀g,gopt=some g→Γ.H g≠none∧Γ.Z g=none:=fun g h=>by
  obtain⟨⟨sz,h1⟩,_⟩:=hg g h
  exact⟨(c.hκ g _ _ h1).2.1,(c.hκ g _ _ h1).1⟩
 have hbg:some b≠gopt:=fun e=>(gk b e.symm).1 hH
 have pr:s8 Γ {Γ with κ:=fun b2=>if some b2=gopt then none else Γ.κ b2}:=⟨Hp.le_refl _,fun _ _ h=>h,fun t x L h=>⟨x,L,h,Nat.le_refl _,fun _=>rfl⟩,fun _ _ h=>h⟩
 refine⟨{Γ with κ:=fun b2=>if some b2=gopt then none else Γ.κ b2},⟨Hp.le_refl _,rfl,fun _ _=>rfl,fun _ _ h=>h,rfl,rfl,fun _ _ h=>h,fun _ h=>h⟩,pr,?_⟩
 have cells:∀(b2:Nat) (arr:Array Value) (T2:TypeId) (fr:Nat × Nat),w.heap[b2]? =some (Obj.cells arr T2 fr)→∃fr',w'.heap[b2]? =some (Obj.cells arr T2 fr'):=fun b2 arr T2 fr h=>by
  by_cases e:some b2=gopt
  ·obtain⟨_,arr',T',fr',a1,a2⟩:=hg b2 e.symm
   rw[h]at a1;cases a1
   exact⟨fr',a2⟩
  ·exact⟨fr,by rw[hsame b2 (c5 h) e];exact h⟩
 refine c.change pr rfl rfl rfl hoo (fun b2 l0 h=>?_) (fun b2 h=>hsame b2 (c.Zlt h) fun e=>h (gk b2 e.symm).2) (fun b2 o sz h=>?_) (fun j o h=>?_) (fun _ h _=>h) (fun j h=>?_) (fun b2 sz h=>?_) (c.q45 (q2z fun h=>by rw[hdk]at h;cases h)) (fun t L h=>?_) c.tdom hsz
 ·obtain⟨arr,T2,fr,r,a1,a2⟩:=c.hH b2 l0 h
  obtain⟨fr',a3⟩:=cells b2 _ _ _ a1
  exact⟨arr,T2,fr',r,a3,a2⟩
 ·by_cases e:some b2=gopt
  ·simp[e]at h
  ·have h':Γ.κ b2=some (o,sz):=by simpa[e]using h
   obtain⟨a1,a2,a3⟩:=c.hκ b2 o sz h'
   rw[hsame b2 (c.Hlt a2) e]
   exact⟨a1,a2,a3⟩
 ·rw[u3]at h
  split at h
  ·rename_i e
   subst e;cases h
   refine .inr ⟨b,#[adr,v],T,hι,hH,hZ,⟨(0,0),by rw[hsame b hlt hbg];exact hw,.inl (Nat.le_refl _)⟩,Nat.le_refl _,?_,rfl,rfl⟩
   simp only[q8]
   refine⟨rfl,h1c,fun h=>by cases h⟩
  ·rename_i e
   refine .inl ⟨h,fun hd=>⟨fun b2 p sz hk=>⟨?_,rfl⟩,fun b2 τ' hb=>?_⟩⟩
   ·by_cases e2:some b2=gopt
    ·obtain⟨⟨sz2,h1⟩,_⟩:=hg b2 e2.symm
     rw[hk]at h1;cases h1
     exact absurd rfl e
    ·simp[e2]
   ·obtain⟨a1,a2,a3,_⟩:=c.W2 hb h hd
    exact⟨hsame b2 a3 fun e2=>(gk b2 e2.symm).1 a1,a1⟩
 ·rw[u3]
  split
  ·simp
  ·exact c.dom j h
 ·obtain⟨arr,T2,fr,a1,a2⟩:=c.hσ b2 sz h
  obtain⟨fr',a3⟩:=cells b2 _ _ _ a1
  exact⟨arr,T2,fr',a3,a2⟩
 ·obtain⟨x,h1,h2⟩:=c.tok t L h
  refine⟨x,h1,fun b2 pos sz hx=>?_⟩
  obtain⟨a0,a3⟩:=h2 b2 pos sz hx
  refine⟨a0,?_⟩
  by_cases e2:some b2=gopt
  ·obtain⟨⟨sz2,h1⟩,_⟩:=hg b2 e2.symm
   rw[a3]at h1;cases h1
  ·simpa[e2]using a3
end
end Go.E
namespace Go.E
open Go
def F4:Ty:=.struct 2 [0,1] [(.int .u64),(.int .u64)]
@[go_sem] theorem y5y:F4.known=true:=rfl
@[go_sem] theorem y4k:F4.U6=true:=rfl
@[go_sem] theorem y5z:F4.isAgg=true:=rfl
@[go_sem] theorem y56:F4.size=2:=rfl
@[go_sem] theorem y5b:F4.q06=[(.int .u64),(.int .u64)]:=rfl
@[go_sem] theorem y57:F4.kids=2:=rfl
@[go_sem] theorem y6a:F4.W6=true:=by kernel_rfl
@[go_sem] theorem y59:F4.get 0=(.int .u64):=rfl
@[go_sem] theorem y5d:F4.child 0=some (0,(.int .u64)):=rfl
@[go_sem] theorem y58:F4.get 1=(.int .u64):=rfl
@[go_sem] theorem y5c:F4.child 1=some (1,(.int .u64)):=rfl
@[go_sem] theorem y5x:b5 F4= .agg [(.int 0),(.int 0)]:=rfl
@[go_sem] theorem y55:o9 F4= .d F4 (b5 F4):=rfl
def j6:Ty:=.struct 2 [0,1] [(.int .i64),(.int .i64)]
@[go_sem] theorem y49:j6.known=true:=rfl
@[go_sem] theorem y3r:j6.U6=true:=rfl
@[go_sem] theorem y5a:j6.isAgg=true:=rfl
@[go_sem] theorem y5s:j6.size=2:=rfl
@[go_sem] theorem y4s:j6.q06=[(.int .i64),(.int .i64)]:=rfl
@[go_sem] theorem y5t:j6.kids=2:=rfl
@[go_sem] theorem y5w:j6.W6=true:=by kernel_rfl
@[go_sem] theorem y5v:j6.get 0=(.int .i64):=rfl
@[go_sem] theorem y4u:j6.child 0=some (0,(.int .i64)):=rfl
@[go_sem] theorem y5u:j6.get 1=(.int .i64):=rfl
@[go_sem] theorem y4t:j6.child 1=some (1,(.int .i64)):=rfl
@[go_sem] theorem y48:b5 j6= .agg [(.int 0),(.int 0)]:=rfl
@[go_sem] theorem y5r:o9 j6= .d j6 (b5 j6):=rfl
def Y7:Ty:=.struct 8 [0,2,4] [(.arr 2 (.int .i64)),(.arr 2 (.int .u64)),(.arr 2 F4)]
@[go_sem] theorem y5f:Y7.known=true:=rfl
@[go_sem] theorem y3s:Y7.U6=true:=rfl
@[go_sem] theorem y5g:Y7.isAgg=true:=rfl
@[go_sem] theorem y5B:Y7.size=8:=rfl
@[go_sem] theorem y4w:Y7.q06=[(.arr 2 (.int .i64)),(.arr 2 (.int .u64)),(.arr 2 F4)]:=rfl
@[go_sem] theorem y5C:Y7.kids=3:=rfl
@[go_sem] theorem y5G:Y7.W6=true:=by kernel_rfl
@[go_sem] theorem y5F:Y7.get 0=(.arr 2 (.int .i64)):=rfl
@[go_sem] theorem y4z:Y7.child 0=some (0,(.arr 2 (.int .i64))):=rfl
@[go_sem] theorem y5E:Y7.get 1=(.arr 2 (.int .u64)):=rfl
@[go_sem] theorem y4y:Y7.child 1=some (2,(.arr 2 (.int .u64))):=rfl
@[go_sem] theorem y5D:Y7.get 2=(.arr 2 F4):=rfl
@[go_sem] theorem y4x:Y7.child 2=some (4,(.arr 2 F4)):=rfl
@[go_sem] theorem y5e:b5 Y7= .agg [(b5 (.arr 2 (.int .i64))),(b5 (.arr 2 (.int .u64))),(b5 (.arr 2 F4))]:=rfl
@[go_sem] theorem y5A:o9 Y7= .d Y7 (b5 Y7):=rfl
def b7:Ty:=.struct 2 [0,1] [(.slice 16 j6),(.slice 64 Y7)]
@[go_sem] theorem y5p:b7.known=true:=rfl
@[go_sem] theorem y4j:b7.U6=true:=rfl
@[go_sem] theorem y5q:b7.isAgg=true:=rfl
@[go_sem] theorem y50:b7.size=2:=rfl
@[go_sem] theorem y45:b7.q06=[(.slice 16 j6),(.slice 64 Y7)]:=rfl
@[go_sem] theorem y51:b7.kids=2:=rfl
@[go_sem] theorem y54:b7.W6=true:=by kernel_rfl
@[go_sem] theorem y53:b7.get 0=(.slice 16 j6):=rfl
@[go_sem] theorem y47:b7.child 0=some (0,(.slice 16 j6)):=rfl
@[go_sem] theorem y52:b7.get 1=(.slice 64 Y7):=rfl
@[go_sem] theorem y46:b7.child 1=some (1,(.slice 64 Y7)):=rfl
@[go_sem] theorem y5o:b5 b7= .agg [(.slice []),(.slice [])]:=rfl
@[go_sem] theorem y5Z:o9 b7= .agg b7 [o9 (.slice 16 j6),o9 (.slice 64 Y7)]:=rfl
end Go.E
