/-
 A framework for runs of Go code over abstract data: what it needs, and that it is sound, part 8.
 Conditions: none.
-/
import Derived.Test.YtpemdagggddcfaaGreatDoorEg
set_option linter.all false
noncomputable section
set_option maxRecDepth 100000
set_option maxHeartbeats 4000000
open Bool renaming and_eq_true->bz,true_and->pn
open Go.E.C renaming get->cd,set->dp
open Go.E.Hp renaming le_refl->ij
open Go.E.O renaming ren->vv
open Go.E.S renaming start->kz
open Go.E.Sh renaming fill->nm,many->nn
open Go.E.V renaming ren->qw
open List renaming getElem?_eq_some_iff->cm,map_congr_left->nt,map_cons->ep,map_map->nu,zipWith->jr
open OfNat renaming ofNat->qi
open Option renaming ite_none_right_eq_some->br
namespace Go.E
open Go
section
abbrev KD (R:Type):=List C->List Es->Option R
theorem pG {α:Type} (_:String) (a:α):∃b,b=a:=⟨a,rfl⟩
def lid {α:Type} (n:String) (a:α):α:=Classical.choose (pG n a)
theorem Ag {α:Type} (n:String) (a:α):lid n a=a:=Classical.choose_spec (pG n a)
def jn {R:Type}:KD R->(KD R->Option R)->Option R:=lid "" fun k b=>b k
theorem AZ {R:Type} (k:KD R) (b:KD R->Option R):jn k b=b k:=by unfold jn;rw[Ag]
def pY {R:Type}:Nat->(KD R->List C->List Es->Option R)->List C->List Es->Option R
 |0,_,_,_=>none|n+1,F,ds,ms=>F (pY n F) ds ms
def BU {R:Type}:Nat->(KD R->List C->List Es->Option R)->List C->List Es->Option R:=lid "" pY
theorem qC {R:Type} (F:KD R->List C->List Es->Option R) (ds:List C) (ms:List Es):BU 0 F ds ms=none:=by unfold BU;rw[Ag];rfl
theorem Eb {R:Type} (n:Nat) (F:KD R->List C->List Es->Option R) (ds:List C) (ms:List Es):BU (n+1) F ds ms=F (BU n F) ds ms:=by unfold BU;rw[Ag];rfl
abbrev Hints:=List (List Nat × Hint)
def Lr:Hints->List Nat->Option Hint
 | [],_=>none|(q,h)::l,p=>if q=p then some h else Lr l p
def exJ {R:Type} (h:Option Hint) (s:S) (K:S->Option R) (body:(S->Option R)->Option R):Option R:=
 match h with
 |none=>body K|some h=>QV (Zr h s) fun sh=>jn (fun ds ms=>K (GM sh s.A ds ms)) fun k=>body fun s1=>Iw sh s1 k
theorem Tr {R:Type} {r:R} {h:Option Hint} {s:S} {K:S->Option R} {body:(S->Option R)->Option R} {P:S->Prop} {G:Prop} (hP:∀s1 s2,P s1->WkA s1 s2->P s2) (hA:∀s1,P s1->s1.A=s.A) (hj:exJ h s K body=some r)
  (hb:∀k:S->Option R,body k=some r->(∃s1,k s1=some r/\P s1)\/G):(∃s2,K s2=some r/\P s2)\/G:=by
 unfold exJ at hj;split at hj;{exact hb _ hj};{rename_i h';rw[YQ,AZ]at hj;rcases hb _ hj with⟨s1,h1,h2⟩|hg;{obtain⟨ds,ms,h3,h4⟩:=Pd h1;rw[hA s1 h2]at h4;exact .inl ⟨_,h3,hP _ _ h2 h4⟩};{exact .inr hg}}
def IV:Code->Option (List Code × Nat × Code)
 | .seq a b=>(match a with| .label l=>some ([],l,b)|a=>(match IV b with|some x=>some (a::x.1,x.2)|none=>none))|_=>none
def Uy (l:Nat):List Code->Bool
 | []=>true|a::as=>(match findLabel a l with|some _=>false|none=>Uy l as)
theorem mV:∀(c:Code) {as:List Code} {r:Code} {l:Nat},IV c=some (as,l,r)->Uy l as=true->findLabel c l=some (.seq .skip r)
 | .seq a b,as,r,l,h,hn=>by
  unfold IV at h;split at h;{cases h;simp[findLabel]}
  ·split at h
   ·rename_i x hx;obtain⟨as',l',r'⟩:=x;cases h;simp only[Uy]at hn;simp only[findLabel];cases ha:findLabel a l with
    |some y=>rw[ha]at hn;cases hn
    |none=>rw[ha]at hn;exact mV b hx hn
   ·cases h
 | .skip,_,_,_,h,_| .region _ _ _,_,_,_,h,_| .cond _ _ _,_,_,_,h,_| .block _ _,_,_,_,h,_| .loop _,_,_,_,h,_| .exit _,_,_,_,h,_| .scope _,_,_,_,h,_| .label _,_,_,_,h,_| .goto _,_,_,_,h,_| .ret,_,_,_,h,_| .rangeFunc _ _ _ _,_,_,_,h,_| .refuse _,_,_,_,h,_=>by simp[IV]at h
def Tt {R:Type} (run:List Nat->Code->S->KE R->Option R):List Code->List Nat->S->(S->Option R)->KE R->Option R
 | [],_,s,k,_=>k s|a::l,p,s,k,K=>run (0::p) a s fun e s1=>match e with| .normal=>frc s1 fun s1=>Tt run l (1::p) s1 k K|e=>K e s1
def exC {R:Type} (X:Cx) (call:Dx R) (ext:Dm) (tbl:Nat->List (Nat × Nat)) (hs:Hints) (N:Nat) (n:Nat):Nat->List Nat->Code->S->KE R->Option R
 |0,_,_,_,_=>none|f+1,p,c,s,K=>match c with
  | .skip=>K .normal s| .region id ops draw=>exJ (Lr hs p) (Nn (tbl id) s) (fun s=>K .normal s) fun k=>Xr X call ext (tbl id) n ops.toList draw (Nn (tbl id) s) k| .seq a b=>exC X call ext tbl hs N n f (0::p) a s fun e s1=>match e with| .normal=>frc s1 fun s1=>exC X call ext tbl hs N n f (1::p) b s1 K|e=>K e s1
  | .cond (.tmp t) a b=>exJ (Lr hs p) s (fun s=>K .normal s) fun k=>(match s.get t with
    | .d .bool c=>bif c.toBool then exC X call ext tbl hs N n f (2::p) a (s.lit t c true) fun e s1=>(match e with
      | .normal=>k s1|e=>K e s1)else exC X call ext tbl hs N n f (3::p) b (s.lit t c false) fun e s1=>(match e with
      | .normal=>k s1|e=>K e s1)
    |_=>none)
  | .block id a=>exJ (Lr hs p) s (fun s=>K .normal s) fun k=>exC X call ext tbl hs N n f (4::p) a s fun e s1=>match e with| .exit i=>if i=id then k s1 else K (.exit i) s1| .normal=>k s1|e=>K e s1
  | .loop a=>(match Lr hs p with|none=>QH (exC X call ext tbl hs N n f (5::p) a) (slotsOf s.env) f s K|some h=>QV (Zr h s) fun sh=>Iw sh s fun ds ms=>BU N (fun rec ds ms=>exC X call ext tbl hs N n f (5::p) a (GM sh s.A ds ms) fun e s1=>match e with| .normal=>Iw sh s1 rec|e=>K e s1) ds ms)| .exit id=>K (.exit id) s
  | .scope a=>(match Lr hs p with
    |none=>exC X call ext tbl hs N n f (6::p) a s fun e s1=>match e with| .goto _=>none|e=>K e s1
    |some h=>(match IV a with
     |some (as,l,rest)=>if Uy l as=true then Tt (exC X call ext tbl hs N n f) as (6::p) s
       (fun s1=>QV (Zr h s1) fun sh=>Iw sh s1 fun ds ms=>BU N (fun rec ds ms=>exC X call ext tbl hs N n f (7::p) rest (GM sh s1.A ds ms) fun e s2=>match e with| .goto l'=>if l'=l then Iw sh s2 rec else none|e=>K e s2) ds ms)
       (fun e s1=>match e with| .goto _=>none|e=>K e s1)else none
     |none=>none))
  | .label _=>K .normal s| .goto l=>K (.goto l) s| .ret=>K .ret s|_=>none
def Way (X:Cx) (n:Nat) (c:Code) (s:S) (e:Exit) (s':S):Prop:=
 s'.A=s.A/\∀A',leA s.A A'->∀Ψ:Exit->S->Prop,Ψ e (s'.wA A')->DC X n c (s.wA A') Ψ
theorem Way.LM {X:Cx} {n:Nat} {c:Code} {s s1 s2:S} {e:Exit} (h:Way X n c s e s1) (hw:WkA s1 s2):Way X n c s e s2:=by refine⟨hw.1.trans h.1,fun A' hA Ψ hΨ=>?_⟩;refine(h.2 A' hA (fun e1 s3=>e1=e/\s3=s1.wA A') ⟨rfl,rfl⟩).post ?_;rintro e1 s3 ⟨rfl,rfl⟩;exact⟨_,hw.2 X n A' (by rw[h.1];exact hA),hΨ⟩
section
variable {X:Cx} {R:Type} {call:Dx R} {ext:Dm} (hP:Al X.P=true) (hmo:X.P.follows .mixedOrders=true) (hc:Il X call) (he:Hy X ext)
theorem qB {c:Code} {n:Nat} {sh:SSh} {A0:Key->Option O} {body:S->KE R->Option R} {K:KE R} {r:R} (hb:∀s (K:KE R),body s K=some r->LR X n c s r K):
  ∀(N:Nat) (ds:List C) (ms:List Es),BU N (fun rec ds ms=>body (GM sh A0 ds ms) fun e s1=>match e with| .normal=>Iw sh s1 rec|e=>K e s1) ds ms=some r->∃e s',K e s'=some r/\s'.A=A0/\∀A',leA A0 A'->∀Ψ:Exit->S->Prop,Ψ e (s'.wA A')->∀(Γ0:G) (a:Act) (w:World),At X n Γ0 ((GM sh A0 ds ms).wA A') a w->Code.rounds X.P c (fun e a w=>∃s',Ψ e s'/\At X n Γ0 s' a w) N a w
 |0,ds,ms,h=>by simp[qC]at h
 |N+1,ds,ms,h=>by
  simp only[Eb]at h;obtain⟨e0,s1,h1,hA1,hD⟩:=hb _ _ h;have zv:∀(hne:e0≠.normal),K e0 s1=some r->∃e s',K e s'=some r/\s'.A=A0/\∀A',leA A0 A'->∀Ψ:Exit->S->Prop,Ψ e (s'.wA A')->∀(Γ0:G) (a:Act) (w:World),At X n Γ0 ((GM sh A0 ds ms).wA A') a w->Code.rounds X.P c (fun e a w=>∃s',Ψ e s'/\At X n Γ0 s' a w) (N+1) a w:=by
   intro hne h1;refine⟨e0,s1,h1,hA1,fun A' hA Ψ hΨ Γ0 a w hat=>?_⟩;rw[rounds_succ];refine wp_mono (hD A' hA (fun e1 s2=>e1=e0/\s2=s1.wA A') ⟨rfl,rfl⟩ Γ0 a w hat) ?_;rintro e1 a1 w1 ⟨s2,⟨rfl,rfl⟩,zf⟩;cases e1 with
   |normal=>exact absurd rfl hne|exit _|goto _|ret|panic _|outgrown=>exact⟨_,hΨ,zf⟩
  cases e0 with
  |normal=>
   obtain⟨ds',ms',h3,hw⟩:=Pd h1;rw[show s1.A=A0 from hA1]at hw;obtain⟨e,s',h4,h5,h6⟩:=qB hb N ds' ms' h3;refine⟨e,s',h4,h5,fun A' hA Ψ hΨ Γ0 a w hat=>?_⟩;rw[rounds_succ];refine wp_mono (hD A' hA (fun e1 s2=>e1= .normal/\s2=s1.wA A') ⟨rfl,rfl⟩ Γ0 a w hat) ?_;rintro e1 a1 w1 ⟨s2,⟨rfl,rfl⟩,zf⟩;exact h6 A' hA Ψ hΨ Γ0 a1 w1 (hw.2 X n A' (by rw[show s1.A=A0 from hA1];exact hA) Γ0 a1 w1 zf)
  |exit _|goto _|ret|panic _|outgrown=>exact zv (by simp) h1
theorem lG {n:Nat} {r:R} {run:List Nat->Code->S->KE R->Option R} (xm:∀p c s (K:KE R),run p c s K=some r->LR X n c s r K):∀(as:List Code) (p:List Nat) (s:S) (k:S->Option R) (K:KE R),Tt run as p s k K=some r->
  (∃s1,k s1=some r/\s1.A=s.A/\∀c l rest,IV c=some (as,l,rest)->∀A',leA s.A A'->∀Ψ:Exit->S->Prop,DC X n rest (s1.wA A') Ψ->DC X n c (s.wA A') Ψ)\/
  (∃e s1,e≠.normal/\K e s1=some r/\s1.A=s.A/\∀c l rest,IV c=some (as,l,rest)->∀A',leA s.A A'->∀Ψ:Exit->S->Prop,Ψ e (s1.wA A')->DC X n c (s.wA A') Ψ)
 | [],p,s,k,K,h=>by refine .inl ⟨s,h,rfl,fun c l rest hc A' hA Ψ hd=>?_⟩;cases c <;> simp only[IV,reduceCtorEq]at hc;rename_i a b;split at hc;{cases hc;exact Ce (iZ hd)};{split at hc;{cases hc};{cases hc}}
 |a::as,p,s,k,K,h=>by
  simp only[Tt]at h;obtain⟨e,s1,h1,a1,d1⟩:=xm _ _ _ _ h;have inv:∀c l rest,IV c=some (a::as,l,rest)->∃b,c= .seq a b/\IV b=some (as,l,rest):=by intro c l rest hc;cases c <;> simp only[IV,reduceCtorEq]at hc;split at hc;{cases hc};{split at hc;{rename_i x hx;obtain⟨x1,x2⟩:=x;cases hc;exact⟨_,rfl,hx⟩};{cases hc}}
  cases e with
  |normal=>
   rcases lG xm as (1::p) s1 k K (by dsimp only at h1;rw[YT]at h1;exact h1)with⟨s2,h2,a2,d2⟩|⟨e,s2,hne,h2,a2,d2⟩;{refine .inl ⟨s2,h2,a2.trans a1,fun c l rest hc A' hA Ψ hd=>?_⟩;obtain⟨b,rfl,hb⟩:=inv c l rest hc;exact Ce (d1 A' hA _ (d2 b l rest hb A' (by rw[a1];exact hA) Ψ hd))};{refine .inr ⟨e,s2,hne,h2,a2.trans a1,fun c l rest hc A' hA Ψ hd=>?_⟩;obtain⟨b,rfl,hb⟩:=inv c l rest hc;exact Ce (d1 A' hA _ (d2 b l rest hb A' (by rw[a1];exact hA) Ψ hd))}
  |exit _|goto _|ret|panic _|outgrown=>
   refine .inr ⟨_,s1,by simp,h1,a1,fun c l rest hc A' hA Ψ hd=>?_⟩;obtain⟨b,rfl,hb⟩:=inv c l rest hc;exact Ce (d1 A' hA _ hd)
def Ends (X:Cx) (n:Nat) (l:Nat) (rest:Code) (sh:SSh) (A0:Key->Option O) (e:Exit) (s':S):Nat->List C->List Es->Prop
 |0,_,_=>False|m+1,ds,ms=>∃e2 s2,Way X n rest (GM sh A0 ds ms) e2 s2/\((e2= .goto l/\∃ds' ms',WkA s2 (GM sh A0 ds' ms')/\Ends X n l rest sh A0 e s' m ds' ms')\/((∀l',e2≠.goto l')/\e2=e/\s2=s'))
theorem wK {n l:Nat} {rest:Code} {sh:SSh} {A0:Key->Option O} {body:S->KE R->Option R} {K:KE R} {r:R} (hb:∀s (K:KE R),body s K=some r->LR X n rest s r K):
  ∀(N:Nat) (ds:List C) (ms:List Es),BU N (fun rec ds ms=>body (GM sh A0 ds ms) fun e s2=>match e with| .goto l'=>if l'=l then Iw sh s2 rec else none|e=>K e s2) ds ms=some r->∃e s',K e s'=some r/\s'.A=A0/\(∀l',e≠.goto l')/\Ends X n l rest sh A0 e s' N ds ms
 |0,ds,ms,h=>by simp[qC]at h
 |N+1,ds,ms,h=>by
  rw[Eb]at h;obtain⟨e0,s1,h1,a1,d1⟩:=hb _ _ h;have a1:s1.A=A0:=a1;cases e0 with
  |goto l'=>
   dsimp only at h1;by_cases hl:l'=l;{rw[if_pos hl]at h1;subst hl;obtain⟨ds',ms',h2,hw⟩:=Pd h1;rw[a1]at hw;obtain⟨e,s',h3,h4,h5,h6⟩:=wK hb N ds' ms' h2;exact⟨e,s',h3,h4,h5,_,s1,⟨a1,d1⟩,.inl ⟨rfl,ds',ms',hw,h6⟩⟩};{rw[if_neg hl]at h1;cases h1}
  |normal|exit _|ret|panic _|outgrown=>
   exact⟨_,s1,h1,a1,by simp,_,s1,⟨a1,d1⟩,.inr ⟨by simp,rfl,rfl⟩⟩
theorem q6M {n l:Nat} {c rest:Code} {sh:SSh} {A0:Key->Option O} {e:Exit} {s':S} (hf:findLabel c l=some (.seq .skip rest)) {N:Nat} {ds:List C} {ms:List Es} (hE:Ends X n l rest sh A0 e s' N ds ms) {A':Key->Option O} (hA:leA A0 A') {s0:S}
  (first:∀Ψ:Exit->S->Prop,DC X n rest ((GM sh A0 ds ms).wA A') Ψ->DC X n c s0 Ψ) {Ψ:Exit->S->Prop} (hΨ:Ψ e (s'.wA A')):DC X n (.scope c) s0 Ψ:=by
 have pass:∀i:{x:Nat × List C × List Es // Ends X n l rest sh A0 e s' x.1 x.2.1 x.2.2},DC X n rest ((GM sh A0 i.1.2.1 i.1.2.2).wA A') fun e2 s2=>match e2 with| .goto l'=>l'=l/\∃j:{x:Nat × List C × List Es // Ends X n l rest sh A0 e s' x.1 x.2.1 x.2.2},Dd X n s2 ((GM sh A0 j.1.2.1 j.1.2.2).wA A')/\j.1.1<i.1.1|e2=>Ψ e2 s2:=by
  rintro⟨⟨m,ds,ms⟩,h⟩;cases m with
  |zero=>exact h.elim|succ m=>
   obtain⟨e2,s2,hw,h1⟩:=h;refine hw.2 A' hA _ ?_;rcases h1 with⟨rfl,ds',ms',hwk,hE'⟩|⟨hne,rfl,rfl⟩;{exact⟨rfl,⟨⟨m,ds',ms'⟩,hE'⟩,hwk.2 X n A' (by rw[hw.1];exact hA),Nat.lt_succ_self m⟩};{cases e2 with|goto l'=>exact absurd rfl (hne l')|normal|exit _|ret|panic _|outgrown=>exact hΨ}
 refine F4 l hf (fun i=>(GM sh A0 i.1.2.1 i.1.2.2).wA A') (fun i=>i.1.1) ?_ (fun i=>Ce (IK (pass i)));refine first _ ((pass ⟨⟨N,ds,ms⟩,hE⟩).post ?_)
 intro e2 s2 h;refine⟨s2,Dd.refl _,?_⟩;cases e2 with
 |goto l'=>exact⟨h.1,h.2.choose,h.2.choose_spec.1⟩|normal|exit _|ret|panic _|outgrown=>exact h
include hP hmo hc he
theorem lF {tbl:Nat->List (Nat × Nat)} {hs:Hints} {N n:Nat} {r:R}:∀(f:Nat) (p:List Nat) (c:Code) (s:S) (K:KE R),exC X call ext tbl hs N n f p c s K=some r->LR X n c s r K
 |0,p,c,s,K,h=>by simp[exC]at h
 |f+1,p,c,s,K,h=>by
  have IH:=lF (tbl:=tbl) (hs:=hs) (N:=N) (n:=n) (r:=r) f;cases c with
  |skip=>exact⟨_,_,h,rfl,fun A' hA Ψ hΨ=>IK hΨ⟩|region id ops draw=>
   simp only[exC]at h;have hw:=QS (tbl id) s;have:=Tr (P:=fun s1=>Way X n (.region id ops draw) (Nn (tbl id) s) .normal s1) (G:=False) (fun s1 s2 h1 h2=>h1.LM h2) (fun s1 h=>h.1) h fun k hk=>by obtain⟨s',h1,h2,h3⟩:=q1e hP hmo hc he (id:=id) hk;refine .inl ⟨s',h1,h2,fun A' hA Ψ hΨ=>?_⟩;have:=h3 A' hA Ψ hΨ;simpa using this
   rcases this with⟨s2,h1,h2⟩|h;{exact⟨_,s2,h1,h2.1.trans hw.1,fun A' hA Ψ hΨ=>DC.LM (hw.2 X n A' hA) (h2.2 A' (by rw[hw.1];exact hA) Ψ hΨ)⟩};{exact h.elim}
  |seq c1 c2=>
   simp only[exC]at h;obtain⟨e0,s1,h1,a1,d1⟩:=IH _ c1 s _ h;cases e0 with
   |normal=>
    obtain⟨e2,s2,h2,a2,d2⟩:=IH (1::p) c2 s1 K (by dsimp only at h1;rw[YT]at h1;exact h1);exact⟨e2,s2,h2,a2.trans a1,fun A' hA Ψ hΨ=>Ce (d1 A' hA _ (d2 A' (by rw[a1];exact hA) Ψ hΨ))⟩
   |exit _|goto _|ret|panic _|outgrown=>exact⟨_,s1,h1,a1,fun A' hA Ψ hΨ=>Ce (d1 A' hA _ hΨ)⟩
  |cond t c1 c2=>
   cases t with
   |tmp t=>
    simp only[exC]at h;have:=Tr (P:=fun s1=>Way X n (.cond (.tmp t) c1 c2) s .normal s1) (G:=LR X n (.cond (.tmp t) c1 c2) s r K) (fun s1 s2 h1 h2=>h1.LM h2) (fun s1 h=>h.1) h fun k hk=>by
     split at hk
     ·rename_i v hv;cases hb:v.toBool with
      |true=>
       rw[hb]at hk;simp only[cond_true]at hk;rw[ZO hv hb]at hk;obtain⟨e2,s2,h2,a2,d2⟩:=IH _ c1 s _ hk;have w2:Way X n (.cond (.tmp t) c1 c2) s e2 s2:=⟨a2,fun A' hA Ψ hΨ=>iY hv (fun _=>d2 A' hA Ψ hΨ) (fun h=>by rw[hb]at h;cases h)⟩;cases e2 with
       |normal=>exact .inl ⟨s2,h2,w2⟩|exit _|goto _|ret|panic _|outgrown=>exact .inr ⟨_,s2,h2,w2⟩
      |false=>
       rw[hb]at hk;simp only[cond_false]at hk;rw[ZO hv hb]at hk;obtain⟨e2,s2,h2,a2,d2⟩:=IH _ c2 s _ hk;have w2:Way X n (.cond (.tmp t) c1 c2) s e2 s2:=⟨a2,fun A' hA Ψ hΨ=>iY hv (fun h=>by rw[hb]at h;cases h) (fun _=>d2 A' hA Ψ hΨ)⟩;cases e2 with
       |normal=>exact .inl ⟨s2,h2,w2⟩|exit _|goto _|ret|panic _|outgrown=>exact .inr ⟨_,s2,h2,w2⟩
     ·cases hk
    rcases this with⟨s2,h1,h2⟩|h;{exact⟨_,s2,h1,h2⟩};{exact h}
   |const _|global _|func _=>simp[exC]at h
  |block id c1=>
   simp only[exC]at h;have:=Tr (P:=fun s1=>Way X n (.block id c1) s .normal s1) (G:=LR X n (.block id c1) s r K) (fun s1 s2 h1 h2=>h1.LM h2) (fun s1 h=>h.1) h fun k hk=>by
    obtain⟨e0,s1,h1,a1,d1⟩:=IH _ c1 s _ hk;cases e0 with
    |exit i=>
     dsimp only at h1;by_cases hi:i=id;{rw[if_pos hi]at h1;refine .inl ⟨s1,h1,a1,fun A' hA Ψ hΨ=>TZ (d1 A' hA _ ?_)⟩;simp only;rw[if_pos hi];exact hΨ};{rw[if_neg hi]at h1;refine .inr ⟨_,s1,h1,a1,fun A' hA Ψ hΨ=>TZ (d1 A' hA _ ?_)⟩;simp only;rw[if_neg hi];exact hΨ}
    |normal=>exact .inl ⟨s1,h1,a1,fun A' hA Ψ hΨ=>TZ (d1 A' hA _ hΨ)⟩|goto _|ret|panic _|outgrown=>exact .inr ⟨_,s1,h1,a1,fun A' hA Ψ hΨ=>TZ (d1 A' hA _ hΨ)⟩
   rcases this with⟨s2,h1,h2⟩|h;{exact⟨_,s2,h1,h2⟩};{exact h}
  |loop c1=>
   simp only[exC]at h;split at h;{obtain⟨e,s',h1,h2,h3⟩:=kE (fun s K h=>IH _ c1 s K h) f s K h;exact⟨e,s',h1,h2,fun A' hA Ψ hΨ Γ0 a w hat=>wp_loop_rounds f (h3 A' hA Ψ hΨ Γ0 a w hat)⟩};{rename_i hh;rw[YQ]at h;obtain⟨ds,ms,h1,hw⟩:=Pd h;obtain⟨e,s',h4,h5,h6⟩:=qB (c:=c1) (body:=exC X call ext tbl hs N n f (5::p) c1) (fun s K h=>IH _ c1 s K h) N ds ms h1;exact⟨e,s',h4,h5,fun A' hA Ψ hΨ Γ0 a w hat=>wp_loop_rounds N (h6 A' hA Ψ hΨ Γ0 a w (hw.2 X n A' hA Γ0 a w hat))⟩}
  |exit id=>exact⟨_,_,h,rfl,fun A' hA Ψ hΨ=>F2 hΨ⟩|scope c1=>
   simp only[exC]at h;split at h
   ·obtain⟨e0,s1,h1,a1,d1⟩:=IH _ c1 s _ h;cases e0 with
    |goto i=>cases h1
    |normal|exit _|ret|panic _|outgrown=>exact⟨_,s1,h1,a1,fun A' hA Ψ hΨ=>jA (d1 A' hA _ hΨ)⟩
   ·rename_i hh _;split at h
    ·rename_i as l rest hd;simp only[br]at h;obtain⟨hnl,h⟩:=h;rcases lG (fun p c s K h=>IH p c s K h) as _ s _ _ h with⟨s1,h1,a1,d1⟩|⟨e,s1,hne,h1,a1,d1⟩;{rw[YQ]at h1;obtain⟨ds,ms,h2,hw⟩:=Pd h1;obtain⟨e,s',h3,h4,h5,h6⟩:=wK (rest:=rest) (body:=exC X call ext tbl hs N n f (7::p) rest) (fun s K h=>IH _ rest s K h) N ds ms h2;refine⟨e,s',h3,h4.trans a1,fun A' hA Ψ hΨ=>?_⟩;exact q6M (mV _ hd hnl) h6 (by rw[a1];exact hA) (fun Ψ' hd'=>d1 c1 l rest hd A' hA Ψ' (DC.LM (hw.2 X n A' (by rw[a1];exact hA)) hd')) hΨ}
     ·cases e with
      |goto i=>cases h1
      |normal|exit _|ret|panic _|outgrown=>exact⟨_,s1,h1,a1,fun A' hA Ψ hΨ=>jA (d1 c1 l rest hd A' hA _ hΨ)⟩
    ·cases h
  |label _=>exact⟨_,_,h,rfl,fun A' hA Ψ hΨ=>iZ hΨ⟩|goto _=>exact⟨_,_,h,rfl,fun A' hA Ψ hΨ=>F3 hΨ⟩|ret=>exact⟨_,_,h,rfl,fun A' hA Ψ hΨ=>Gb hΨ⟩|rangeFunc _ _ _ _=>simp[exC]at h|refuse _=>simp[exC]at h
end
def exF {R:Type} (X:Cx) (ov:OvK R) (ext:Dm) (tbl:FuncId->Nat->List (Nat × Nat)) (hs:FuncId->Hints) (N fuel:Nat):Nat->Dx R
 |0,_,_,_,_=>none|d+1,f,xs,A,K=>match ov f with
  |some g=>g xs A K|none=>(match X.P.funcs[f]? with|some fn=>(match fn.body with|some c=>if xs.length<=fn.ntmps then exJ (Lr (hs f) [9]) (kz xs A) (fun s=>kG X fn s K) fun k=>exC X (exF X ov ext tbl hs N fuel d) ext (tbl f) (hs f) N fn.ntmps fuel [] c (nbS (kz xs A)) fun e s=>(match e with| .normal=>k s| .ret=>k s|_=>none)else none|none=>none)|none=>none)
section
variable {X:Cx} {R:Type} {ov:OvK R} {ext:Dm} (hP:Al X.P=true) (hmo:X.P.follows .mixedOrders=true) (hov:WZ X ov) (he:Hy X ext)
include hP hmo hov he
theorem YD {tbl:FuncId->Nat->List (Nat × Nat)} {hs:FuncId->Hints} {N fuel:Nat}:∀d,Il X (exF X ov ext tbl hs N fuel d)
 |0=>by intro f xs A K r h;simp[exF]at h
 |d+1=>by
  intro f xs A K r h;simp only[exF]at h;split at h;{rename_i g hg;exact hov f g hg xs A K r h};split at h
  ·rename_i fn hf;split at h
   ·rename_i c hb;simp only[br]at h;obtain⟨hl,h⟩:=h;have:=Tr (P:=fun s1=>∃e:Exit,(e= .normal\/e= .ret)/\Way X fn.ntmps c (kz xs A) e s1) (G:=False) (fun s1 s2 ⟨e,h1,h2⟩ h3=>⟨e,h1,h2.LM h3⟩) (fun s1 ⟨e,_,h⟩=>h.1) h fun k hk=>by
     obtain⟨e,s',h1,h2⟩:=lF hP hmo (YD d) he fuel [] c (nbS (kz xs A)) _ hk;have h2:Way X fn.ntmps c (kz xs A) e s':=⟨h2.1,fun A' hA Ψ hΨ=>DC.LM ((rH (kz xs A)).2 X fn.ntmps A' hA) (h2.2 A' hA Ψ hΨ)⟩;cases e with
     |normal=>exact .inl ⟨s',h1,_,.inl rfl,h2⟩|ret=>exact .inl ⟨s',h1,_,.inr rfl,h2⟩|exit _|goto _|panic _|outgrown=>cases h1
    rcases this with⟨s',h1,e,he',h2,h3⟩|h;{obtain⟨v,L,h4,h5⟩:=q1f h1;refine⟨v,L,Lk hP hf hb rfl hl fun A' hA=>?_,h4⟩;exact h3 A' hA (fun e s'=>(e= .normal\/e= .ret)/\Ff X fn A' v L s') ⟨he',h5 A' (by rw[h2];exact hA)⟩};{exact h.elim}
   ·cases h
  ·cases h
end
end
def Hw (a b k:Key):Key:=if k=a then b else if k=b then a else k
theorem PB (a b k:Key):Hw a b (Hw a b k)=k:=by unfold Hw;by_cases h1:k=a;{subst h1;rw[if_pos rfl];by_cases h2:b=k;{rw[if_pos h2];exact h2};{rw[if_neg h2,if_pos rfl]}};{rw[if_neg h1];by_cases h2:k=b;{subst h2;rw[if_pos rfl,if_pos rfl]};{rw[if_neg h2,if_neg h1,if_neg h2]}}
def swU (a b:Key):Key->Key
 | .g k=>.g (Hw a b k)| .l n=>.l n
theorem JP (a b k:Key):swU a b (swU a b k)=k:=by cases k <;> simp[swU,PB]
def Tip.bV (ρ:Key->Key):Tip->Tip
 | .tok t=>.tok t| .home k p=>.home (ρ k) p
def G.perm (Γ:G) (ρ:Key->Key):G:={Γ with ι:=fun k=>Γ.ι (ρ k),κ:=fun b=>(Γ.κ b).map fun p=>(p.1.bV ρ,p.2)}
def FK (a b:Key) (A:Key->Option O):Key->Option O:=fun k=>(A (Hw a b k)).map (vv (swU a b))
theorem q5M (a b:Key) (A:Key->Option O):FK a b (FK a b A)=A:=by
 funext k;unfold FK;rw[PB];cases A k with
 |none=>rfl|some o=>simp[O.KA _ _ (JP a b)]
def OX (a b:Key) (L:List (Key × O)):List (Key × O):=L.map fun p=>(swU a b p.1,p.2.ren (swU a b))
theorem pU (a b:Key):∀(L:List (Key × O)) (k:Key),AK (OX a b L) k=(AK L (swU a b k)).map (vv (swU a b))
 | [],_=>rfl|(j,o)::L,k=>by
  show(if swU a b j=k then some (o.ren (swU a b))else AK (OX a b L) k)=(if j=swU a b k then some o else AK L (swU a b k)).map (vv (swU a b));by_cases h:j=swU a b k
  ·have:swU a b j=k:=by rw[h,JP]
   rw[if_pos this,if_pos h];rfl
  ·have:swU a b j≠k:=fun e=>h (by rw[<-e,JP]);rw[if_neg this,if_neg h];exact pU a b L k
theorem AJ.perm {Γ:G} {w:World} {s s':S} {ρ:Key->Key} (c:AJ Γ w s) (hρ:∀k,ρ (ρ k)=k) (ho:∀k,s'.obj k=(s.obj (ρ k)).map (vv ρ)) (hl:∀t,s'.live t=s.live t) (hk:∀t,s.known t=true->s'.known t=true):AJ (Γ.perm ρ) w s':=by
 have pr:∀hm,GH Γ (Γ.perm ρ) ρ hm:=fun hm=>⟨ij _,fun k x h=>by simp[G.perm,hρ,h],fun _ _ h=>h,fun k b p sz _ h=>⟨by simp[G.perm,h,Tip.bV],rfl⟩⟩;have hd:∀k,s.Br (ρ k)=true->s'.Br k=true:=fun k h=>by
  unfold S.Br at h ⊢;rw[ho];cases hs:s.obj (ρ k)with
  |none=>rw[hs]at h;cases h
  |some o=>rw[hs]at h;simpa[NS,O.SE]using h
 refine⟨c.hH,c.hZ,fun b o sz h=>?_,fun k o h=>?_,fun k h=>?_,fun k k' b τ τ' h1 h2=>?_,fun t L h=>?_,fun t ht=>hk t (c.xg t ht),c.hgl,c.hoo,c.hσ⟩
 ·cases hb:Γ.κ b with
  |none=>simp[G.perm,hb]at h|some p=>
   obtain⟨t,sz'⟩:=p;simp[G.perm,hb]at h;obtain⟨rfl,rfl⟩:=h;obtain⟨a1,a2,arr,T,a3,a4,a5⟩:=c.hκ b t sz' hb;exact⟨a1,a2,arr,T,a3,a4,by cases t with|tok=>trivial|home _ p=>cases p <;> exact a5⟩
 ·rw[ho]at h;cases hs:s.obj (ρ k)with
  |none=>rw[hs]at h;cases h
  |some o0=>
   rw[hs]at h;cases h;refine(c.obj (ρ k) o0 hs).imp (fun h=>⟨h.1,O.WQ h.2⟩) fun xb=>?_
   have:=Own.ren (pr _) (w':=w) (fun hd b τ hb=>by
    obtain⟨e1,e2,_⟩:=c.EY hb hs hd;exact⟨rfl,e1,e2⟩) (Nat.le_refl _) xb
   rw[hρ]at this;exact this
 ·rw[ho];have:=c.dom (ρ k) h;cases hs:s.obj (ρ k)with|none=>exact absurd hs this|some o=>simp
 ·refine(c.inj (ρ k) (ρ k') b τ τ' h1 h2).imp (fun e=>by rw[<-hρ k,e,hρ]) (And.imp (Or.imp (hd k) (hd k')) id)
 ·rw[hl]at h;obtain⟨x,h1,h2⟩:=c.tok t L h;refine⟨x,h1,fun b pos sz hx=>?_⟩;obtain⟨h3,h4⟩:=h2 b pos sz hx;exact⟨h3,by simp[G.perm,h4,Tip.bV]⟩
def Cn (a b:Key) (x:V):V:=x.ren (swU a b) id
theorem bW (a b:Key) (x:V):Cn a b (Cn a b x)=x:=V.KA _ _ (JP a b) x
theorem q6i (a b:Key) (n:Nat) (x:V):(Cn a b x).Dc n=x.Dc n:=by cases x <;> simp[Cn,qw,V.Dc]
theorem q6g (a b:Key) (n:Nat) (x:V):(Cn a b x).slot n=Cn a b (x.slot n):=by cases x <;> simp[Cn,qw,V.slot]
theorem WH (a b:Key):∀(n:Nat) (xs:List V),Fj n (xs.map (Cn a b))=Fj n xs
 |_,[]=>rfl|n,x::xs=>by simp only[ep,Fj,q6i,WH a b (n+1) xs]
theorem dB (a b:Key):∀(n:Nat) (xs:List V),DB n (xs.map (Cn a b))=(DB n xs).map (Cn a b)
 |_,[]=>rfl|n,x::xs=>by simp only[ep,DB,q6g,dB a b (n+1) xs]
theorem vC (a b:Key):∀(xs:List V),V.DP (swU a b) id xs=xs.map (Cn a b)
 | []=>rfl|x::xs=>by simp only[V.DP,ep,vC a b xs];rfl
theorem bX (a b:Key) (xs:List V):Cn a b (.tup xs)= .tup (xs.map (Cn a b)):=by simp only[Cn,qw,vC]
theorem q6h (a b:Key) (n:Nat) (x:V):(Cn a b x).DA n=Cn a b (x.DA n):=by
 cases x with
 |tup xs=>rw[bX];simp only[V.DA];rw[dB,bX]|wk=>rfl|d|sl|ts|emp|ptr|wm|sr|mp|agg|fn|top|any=>simp[Cn,qw,V.DA,V.slot]
theorem vA (a b:Key) (n:Nat) (x:V):(Cn a b x).tkR n=x.tkR n:=by
 cases x with
 |tup xs=>rw[bX];simp only[V.tkR];exact WH a b n xs|wk=>rfl|d|sl|ts|emp|ptr|wm|sr|mp|agg|fn|top|any=>simp[Cn,qw,V.tkR,V.Dc]
theorem O.q5j (a b:Key) {o:O} (h:o.ok Bk Bk=true):(o.ren (swU a b)).ok Bk Bk=true:=by
 have key:(∀x:V,x.ok Bk Bk=true->(x.ren (swU a b) id).ok Bk Bk=true):=by
  intro x
  induction x using V.rec (motive_2:=fun xs=>V.oks Bk Bk xs=true->V.oks Bk Bk (V.DP (swU a b) id xs)=true)with
  |ptr k q τ=>intro h;cases k <;> simp[V.ok,qw,swU,Bk]at h ⊢
  |sr k q lo n cp eb e=>intro h;cases k <;> simp[V.ok,qw,swU,Bk]at h ⊢
  |mp k=>intro h;cases k <;> simp[V.ok,qw,swU,Bk]at h ⊢
  |sl=>intro h;simp[V.ok,Bk]at h|agg τ vs ih=>intro h;simp only[V.ok,qw]at h ⊢;exact ih h|fn f vs ih=>intro h;simp only[V.ok,qw]at h ⊢;exact ih h|tup vs ih=>intro h;simp only[V.ok,qw]at h ⊢;exact ih h|nil=>simp only[V.DP,V.oks]|cons x xs ih1 ih2 h=>
   simp only[V.oks,bz]at h;simp only[V.DP,V.oks,bz];exact⟨ih1 h.1,ih2 h.2⟩
  |_=>intro _;simp only[qw,V.ok]
 cases o with
 |box x=>exact key x h|map kτ vτ es=>
  simp only[vv,O.ok]at h ⊢;cases vτ.ES
  case true=>exact h
  simp only[cond_false]
  induction es with
  |nil=>rfl|cons c es ih=>
   simp only[V.DM,bz]at h;simp only[ep,V.DM,bz];exact⟨key _ h.1,ih h.2⟩
 |it=>rfl|dead=>rfl
theorem Bu.swap {X:Cx} {f:FuncId} {xs:List V} {A:Key->Option O} {v:V} {L:List (Key × O)} (a b:Key) (D:Bu X f xs A v L):
  Bu X f (xs.map (Cn a b)) (FK a b A) (Cn a b v) (OX a b L):=by
 intro A' Γ w args hA hgl ⟨c,hok⟩ hlen hr;have hxs:(xs.map (Cn a b)).map (Cn a b)=xs:=by rw[nu];exact(nt (g:=id) fun x _=>bW a b x).trans (List.map_id _)
 have hA':∀k o,A k=some o->FK a b A' k=some o:=by
  intro k o h;have h1:FK a b A (Hw a b k)=some (o.ren (swU a b)):=by simp[FK,PB,h]
  have h2:=hA _ _ h1;simp[FK,h2,O.KA _ _ (JP a b)]
 have wy:∀k,S.obj (kz xs (FK a b A')) k=(S.obj (kz (xs.map (Cn a b)) A') (swU a b k)).map (vv (swU a b)):=by
  intro k;cases k with
  |l n=>rfl|g k=>simp[kz,S.obj,CR,AK,swU,FK]
 have c1:=c.perm (s':=kz xs (FK a b A')) (JP a b) wy (fun t=>by simp only[kz,S.live,WH]) (fun t h=>by simpa only[kz,S.known,WH]using h);have z5F:AOk (FK a b A'):=by
  intro k o h;unfold FK at h;cases hk:A' (Hw a b k)with
  |none=>rw[hk]at h;cases h
  |some o0=>rw[hk]at h;cases h;exact O.q5j a b (hok _ _ hk)
 have pr:GH Γ (Γ.perm (swU a b)) (swU a b) none:=⟨ij _,fun k x h=>by simp[G.perm,JP,h],fun _ _ h=>h,fun k _ _ _ h=>by cases h⟩;refine(D (FK a b A') (Γ.perm (swU a b)) w args hA' hgl ⟨c1,z5F⟩ (by simpa using hlen) fun i x u hx hu=>?_).mono ?_
 ·have h1:(DB 1000 (xs.map (Cn a b)))[i]? =some (Cn a b x):=by rw[dB,List.getElem?_map,hx];rfl
  have:=(hr i _ u h1 hu).ren (θ:=id) pr (fun _ _ h=>h);have e:qw (swU a b) id (Cn a b x)=x:=bW a b x
  rwa [e]at this
 ·rintro e w' ⟨u,Γ',rfl,gle,c',hu⟩;have zh:∀k,S.obj (S.fin (Cn a b v) (OX a b L) A') k=(S.obj (S.fin v L (FK a b A')) (swU a b k)).map (vv (swU a b)):=by
   intro k;simp only[S.fin,S.obj,CR,pU];cases hl:AK L (swU a b k)with
   |some o=>rfl|none=>
    cases k with
    |l n=>rfl|g k=>
     simp only[Option.map_none,swU,FK,PB];cases A' k with
     |none=>rfl|some o=>simp[O.KA _ _ (JP a b)]
  have c2:=c'.perm (s':=S.fin (Cn a b v) (OX a b L) A') (JP a b) zh (fun t=>by simp only[S.fin,S.live,vA]) (fun t h=>by simpa only[S.fin,S.known,vA]using h);have pr':GH Γ' (Γ'.perm (swU a b)) (swU a b) none:=⟨ij _,fun k x h=>by simp[G.perm,JP,h],fun _ _ h=>h,fun k _ _ _ h=>by cases h⟩;refine⟨u,Γ'.perm (swU a b),rfl,⟨gle.H,gle.Z,gle.ZH,fun k x h=>?_,gle.gl,gle.oo,gle.σ,fun k h=>?_⟩,c2,?_⟩;{refine gle.g (Hw a b k) x ?_;show Γ.ι (swU a b (.g (Hw a b k)))=some x;simp[swU,PB,h]};{refine gle.gn (Hw a b k) ?_;show Γ.ι (swU a b (.g (Hw a b k)))=none;simp[swU,PB,h]};{rw[q6h];exact hu.ren (θ:=id) pr' (fun _ _ h=>h)}
mutual
def Sh.fit {R:Type}:Sh->V->(List C->Option R)->Option R
 | .d τ,x,K=>(match x with| .d τ' c=>if τ'=τ then K [c]else none|_=>none)| .sl _ _ _,_,_=>none| .ts eb e,x,K=>(match x with| .ts eb' e' cs=>if eb'=eb/\e'=e then K [.slice cs]else none|_=>none)| .sr k q cp eb e,x,K=>(match x with| .sr k' q' lo n cp' eb' e'=>if k'=k/\q'=q/\eb'=eb/\e'=e then(match cp,cp' with|false,none=>K [.int lo,.int n]|true,some c=>K [.int lo,.int n,.int c]|_,_=>none)else none|_=>none)| .wm τ,x,K=>(match x with| .wm τ' c=>if τ'=τ then K [c]else none|_=>none)| .arr e,x,K=>(match x with| .d (.arr n e') c=>if e'=e then(if n=c.elems.length then K [c]else none)else none|_=>none)| .agg τ l,x,K=>(match x with| .agg τ' vs=>if τ'=τ then Sh.fits l vs K else none|_=>none)| .as v,x,K=>if V.same x v=true then K []else none| .vec k eb e,x,K=>(match x with| .sr k' q' lo n cp' eb' e'=>if k'=k/\q'=[]/\lo=0/\cp'.isNone=true/\eb'=eb/\e'=e then K [.int n]else none|_=>none)| .fnc f l,x,K=>(match x with| .fn f' vs=>if f'=f then II l vs K else none|_=>none)
def Sh.fits {R:Type}:List Sh->List V->(List C->Option R)->Option R
 | [],[],K=>K []|s::l,x::xs,K=>s.fit x fun d1=>Sh.fits l xs fun d2=>K (d1++d2)|_,_,_=>none
end
mutual
theorem Sh.lW {R:Type} {r:R}:∀(s:Sh) (x:V) {K:List C->Option R},s.fit x K=some r->∃ds,K ds=some r/\ds.length=s.many/\s.fill 0 ds=x
 | .d τ,x,K,h=>by cases x <;> simp only[Sh.fit,reduceCtorEq,br]at h;obtain⟨rfl,h⟩:=h;exact⟨_,h,by simp[nn],by simp[nm,dk]⟩
 | .sl _ _ _,x,K,h=>by simp[Sh.fit]at h
 | .ts eb e,x,K,h=>by cases x <;> simp only[Sh.fit,reduceCtorEq,br]at h;obtain⟨⟨rfl,rfl⟩,h⟩:=h;exact⟨_,h,by simp[nn],by simp[nm,dk,C.elems]⟩
 | .sr k q cp eb e,x,K,h=>by cases x <;> simp only[Sh.fit,reduceCtorEq,br]at h;obtain⟨⟨rfl,rfl,rfl,rfl⟩,h⟩:=h;split at h;{exact⟨_,h,by simp[nn],by simp[nm,dk,C.toInt]⟩};{exact⟨_,h,by simp[nn],by simp[nm,dk,C.toInt]⟩};{cases h}
 | .wm τ,x,K,h=>by cases x <;> simp only[Sh.fit,reduceCtorEq,br]at h;obtain⟨rfl,h⟩:=h;exact⟨_,h,by simp[nn],by simp[nm,dk]⟩
 | .arr e,x,K,h=>by simp only[Sh.fit]at h;split at h;{simp only[br]at h;obtain⟨rfl,h1,h⟩:=h;subst h1;exact⟨_,h,by simp[nn],by simp[nm,dk]⟩};{cases h}
 | .agg τ l,x,K,h=>by cases x <;> simp only[Sh.fit,reduceCtorEq,br]at h;obtain⟨rfl,h⟩:=h;obtain⟨ds,h1,h2,h3⟩:=Sh.YL l _ h;exact⟨ds,h1,by simpa only[nn]using h2,by simp only[nm];rw[h3]⟩
 | .as v,x,K,h=>by simp only[Sh.fit,br]at h;obtain⟨h1,h⟩:=h;have:=V.Vq _ _ h1;subst this;exact⟨_,h,by simp[nn],by simp only[nm]⟩
 | .vec k eb e,x,K,h=>by
  cases x <;> simp only[Sh.fit,reduceCtorEq,br]at h;obtain⟨⟨rfl,rfl,rfl,hc,rfl,rfl⟩,h⟩:=h;rename_i cp _ _;cases cp with
  |some c=>cases hc
  |none=>exact⟨_,h,by simp[nn],by simp[nm,dk,C.toInt]⟩
 | .fnc f l,x,K,h=>by cases x <;> simp only[Sh.fit,reduceCtorEq,br]at h;obtain⟨rfl,h⟩:=h;obtain⟨ds,h1,h2,h3⟩:=TL l _ h;exact⟨ds,h1,by simpa only[nn]using h2,by simp only[nm,h3]⟩
theorem Sh.YL {R:Type} {r:R}:∀(l:List Sh) (xs:List V) {K:List C->Option R},Sh.fits l xs K=some r->∃ds,K ds=some r/\ds.length=Sh.Gq l/\Sh.EF l 0 ds=xs
 | [],xs,K,h=>by cases xs <;> simp only[Sh.fits,reduceCtorEq]at h;exact⟨_,h,by simp[Sh.Gq],by simp[Sh.EF]⟩
 |s::l,[],K,h=>by simp[Sh.fits]at h
 |s::l,x::xs,K,h=>by
  simp only[Sh.fits]at h;obtain⟨d1,h1,h2,h3⟩:=Sh.lW s x h;obtain⟨d2,h5,h6,h7⟩:=Sh.YL l xs h1;refine⟨_,h5,by simp[Sh.Gq,h2,h6],?_⟩;have e1:s.fill 0 (d1++d2)=s.fill 0 d1:=Sh.Kb s 0 0 _ _ fun j hj=>Jf (by omega);have e2:Sh.EF l s.many (d1++d2)=Sh.EF l 0 d2:=Sh.QQ l _ 0 _ _ fun j hj=>by rw[Ll (by omega),h2];congr 1;omega
  simp only[Sh.EF,Nat.zero_add,e1,e2];rw[h3,h7]
end
def Kc {R:Type} (A:Key->Option O):List (Key × OSh)->(List C->List Es->Option R)->Option R
 | [],K=>K [] []|(k,.box sh)::l,K=>(match A k with|some (.box x)=>sh.fit x fun d1=>Kc A l fun d2 m2=>K (d1++d2) m2|_=>none)|(k,.map kτ vτ)::l,K=>(match A k with|some (.map kτ' vτ' es)=>if kτ'=kτ/\vτ'=vτ then(if Ab vτ es=true then Kc A l fun d2 m2=>K d2 (unE es::m2)else none)else none|_=>none)|_::_,_=>none
theorem YK {R:Type} {r:R} {A:Key->Option O}:∀(l:List (Key × OSh)) {K:List C->List Es->Option R},Kc A l K=some r->
  ∃ds ms,K ds ms=some r/\ds.length=Ez l/\∀k o,AK (Bp l 0 0 ds ms) k=some o->A k=some o
 | [],K,h=>⟨[],[],h,rfl,fun k o h=>by simp[Bp,AK]at h⟩|(j,.box sh)::l,K,h=>by
  simp only[Kc]at h;split at h
  ·rename_i x hx;obtain⟨d1,h1,h2,h3⟩:=Sh.lW sh x h;obtain⟨d2,ms,h4,h5,h6⟩:=YK l h1;refine⟨_,ms,h4,by simp[Ez,h2,h5],fun k o hk=>?_⟩;have e1:sh.fill 0 (d1++d2)=sh.fill 0 d1:=Sh.Kb sh 0 0 _ _ fun j hj=>Jf (by omega);have e2:Bp l sh.many 0 (d1++d2) ms=Bp l 0 0 d2 ms:=JF l _ 0 0 _ _ _ fun j hj=>by rw[Ll (by omega),h2];congr 1;omega
   simp only[Bp,Nat.zero_add,e1,e2,h3,AK]at hk;split at hk;{rename_i e;subst e;cases hk;exact hx};{exact h6 k o hk}
  ·cases h
 |(j,.map kτ vτ)::l,K,h=>by simp only[Kc]at h;split at h;{rename_i kτ' vτ' es hx;simp only[br]at h;obtain⟨⟨rfl,rfl⟩,hd,h⟩:=h;obtain⟨d2,ms,h4,h5,h6⟩:=YK l h;refine⟨_,_,h4,by simp[Ez,h5],fun k o hk=>?_⟩;simp only[Bp,Qy,AK]at hk;split at hk;{rename_i e;subst e;cases hk;rw[show dm (unE es::ms) 0=unE es from rfl,Xe hd];exact hx};{exact h6 k o hk}};{cases h}
 |(_,.dead _)::l,K,h=>by simp[Kc]at h
 |(_,.it)::l,K,h=>by simp[Kc]at h
mutual
def Sh.unP:Sh->V->List (Key × Key)
 | .as (.ptr (.g a) _ _),.ptr (.g b) _ _=>[(a,b)]| .as (.mp (.g a)),.mp (.g b)=>[(a,b)]| .sr (.g a) _ _ _ _,.sr (.g b) _ _ _ _ _ _=>[(a,b)]| .vec (.g a) _ _,.sr (.g b) _ _ _ _ _ _=>[(a,b)]| .agg _ l,.agg _ xs=>Sh.WK l xs|_,_=>[]
def Sh.WK:List Sh->List V->List (Key × Key)
 |s::l,x::xs=>s.unP x++Sh.WK l xs|_,_=>[]
end
def vU:List (Key × Key)->Key->Key
 | [],k=>k|(a,b)::l,k=>vU l (Hw a b k)
def WC (xy:List (Key × OSh)) (A:Key->Option O):Nat->List (Key × Key)->List (Key × Key)->List Key->List (Key × Key)
 |0,_,sw,_=>sw|_,[],sw,_=>sw
 |f+1,(a,b)::todo,sw,seen=>if Ui a seen=true then WC xy A f todo sw seen else
   (match vU sw b with
   |b'=>WC xy A f ((match ZY xy a,A b with|some (.box sh),some (.box x)=>sh.unP x|_,_=>[])++todo) (if a=b' then sw else sw++[(a,b')]) (a::seen))
def dJ:List (Key × Key)->List V->List V
 | [],xs=>xs|(a,b)::l,xs=>dJ l (xs.map (Cn a b))
def swA:List (Key × Key)->(Key->Option O)->Key->Option O
 | [],A=>A|(a,b)::l,A=>swA l (FK a b A)
def eF:List (Key × Key)->V->V
 | [],x=>x|(a,b)::l,x=>Cn a b (eF l x)
def eE:List (Key × Key)->List (Key × O)->List (Key × O)
 | [],x=>x|(a,b)::l,x=>OX a b (eE l x)
theorem Bu.sws {X:Cx} {f:FuncId}:∀(sw:List (Key × Key)) {xs:List V} {A:Key->Option O} {v:V} {L:List (Key × O)},Bu X f (dJ sw xs) (swA sw A) v L->Bu X f xs A (eF sw v) (eE sw L)
 | [],xs,A,v,L,h=>h|(a,b)::l,xs,A,v,L,h=>by
  have h1:=(Bu.sws l h).swap a b;have hxs:(xs.map (Cn a b)).map (Cn a b)=xs:=by rw[nu];exact(nt (g:=id) fun x _=>bW a b x).trans (List.map_id _)
  rw[hxs,q5M]at h1;exact h1
def Ry (args:List Sh) (xy:List (Key × OSh)) {R:Type} (p:List C->List Es->(V->List (Key × O)->Option R)->Option R):OvG R:=fun xs A K=>
 match WC xy A 1000 (Sh.WK args xs) [] []with
 |sw=>Sh.fits args (dJ sw xs) fun d1=>Kc (swA sw A) xy fun d2 ms=>p (d1++d2) ms fun v L=>K (eF sw v) (eE sw L)
theorem uI {X:Cx} {f:FuncId} {args:List Sh} {xy:List (Key × OSh)} {R:Type} {p:List C->List Es->(V->List (Key × O)->Option R)->Option R}
  (hp:∀ds ms (K:V->List (Key × O)->Option R) r,p ds ms K=some r->∃v L,Bu X f (Sh.EF args 0 ds) (AK (Bp xy (Sh.Gq args) 0 ds ms)) v L/\K v L=some r):GOk X f (Ry args xy p):=by
 intro xs A Kr r hr;unfold Ry at hr;dsimp only at hr;generalize WC xy A 1000 (Sh.WK args xs) [] []=sw at hr;obtain⟨d1,h1,h2,h3⟩:=Sh.YL args _ hr;obtain⟨d2,ms,h4,h5,h6⟩:=YK xy h1;obtain⟨v,L,h7,h8⟩:=hp _ _ _ _ h4;refine⟨_,_,Bu.sws sw (v:=v) (L:=L) ?_,h8⟩;have e1:Sh.EF args 0 (d1++d2)=Sh.EF args 0 d1:=Sh.QQ args 0 0 _ _ fun j hj=>Jf (by omega);have e2:Bp xy (Sh.Gq args) 0 (d1++d2) ms=Bp xy 0 0 d2 ms:=JF xy _ 0 0 _ _ _ fun j hj=>by rw[Ll (by omega),h2];congr 1;omega
 rw[e1,h3,e2]at h7;exact h7.mono h6
def Tu:List (Nat × (List V->Option V))->Dm
 | [],_=>none|(i,g)::l,f=>bif Nat.beq f i then some g else Tu l f
def KN (X:Cx):List (Nat × (List V->Option V))->Prop
 | []=>True|p::l=>(∀xs v,p.2 xs=some v->Mo X p.1 xs v)/\KN X l
theorem lJ {X:Cx}:∀{l:List (Nat × (List V->Option V))},KN X l->Hy X (Tu l)
 | [],_=>fun f g xs v h _=>by cases h
 |(i,g0)::l,h=>fun f g xs v hf hv=>by
  simp only[Tu]at hf;cases hb:Nat.beq f i with
  |true=>
   rw[hb,cond_true]at hf;cases hf;obtain rfl:=Nat.eq_of_beq_eq_true hb;exact h.1 xs v hv
  |false=>
   rw[hb,cond_false]at hf;exact lJ h.2 f g xs v hf hv
theorem KN.append {X:Cx}:∀{l m:List (Nat × (List V->Option V))},KN X l->KN X m->KN X (l++m)
 | [],_,_,h=>h|_::_,_,h,h'=>⟨h.1,h.2.append h'⟩
@[go_sem] theorem AI {a0:C} {l:List C}:dk (a0::l) 0=a0:=rfl
@[go_sem] theorem AQ {a0 a1:C} {l:List C}:dk (a0::a1::l) 1=a1:=rfl
@[go_sem] theorem AR {a0 a1 a2:C} {l:List C}:dk (a0::a1::a2::l) 2=a2:=rfl
@[go_sem] theorem AV {a0 a1 a2 a3:C} {l:List C}:dk (a0::a1::a2::a3::l) 3=a3:=rfl
@[go_sem] theorem Aa {a0 a1 a2 a3 a4:C} {l:List C}:dk (a0::a1::a2::a3::a4::l) 4=a4:=rfl
@[go_sem] theorem Aj {a0 a1 a2 a3 a4 a5:C} {l:List C}:dk (a0::a1::a2::a3::a4::a5::l) 5=a5:=rfl
@[go_sem] theorem Ak {a0 a1 a2 a3 a4 a5 a6:C} {l:List C}:dk (a0::a1::a2::a3::a4::a5::a6::l) 6=a6:=rfl
@[go_sem] theorem Au {a0 a1 a2 a3 a4 a5 a6 a7:C} {l:List C}:dk (a0::a1::a2::a3::a4::a5::a6::a7::l) 7=a7:=rfl
@[go_sem] theorem Av {a0 a1 a2 a3 a4 a5 a6 a7 a8:C} {l:List C}:dk (a0::a1::a2::a3::a4::a5::a6::a7::a8::l) 8=a8:=rfl
@[go_sem] theorem BH {a0 a1 a2 a3 a4 a5 a6 a7 a8 a9:C} {l:List C}:dk (a0::a1::a2::a3::a4::a5::a6::a7::a8::a9::l) 9=a9:=rfl
@[go_sem] theorem Aw {a0 a1 a2 a3 a4 a5 a6 a7 a8 a9 a10:C} {l:List C}:dk (a0::a1::a2::a3::a4::a5::a6::a7::a8::a9::a10::l) 10=a10:=rfl
@[go_sem] theorem Ax {a0 a1 a2 a3 a4 a5 a6 a7 a8 a9 a10 a11:C} {l:List C}:dk (a0::a1::a2::a3::a4::a5::a6::a7::a8::a9::a10::a11::l) 11=a11:=rfl
@[go_sem] theorem Ay {a0 a1 a2 a3 a4 a5 a6 a7 a8 a9 a10 a11 a12:C} {l:List C}:dk (a0::a1::a2::a3::a4::a5::a6::a7::a8::a9::a10::a11::a12::l) 12=a12:=rfl
@[go_sem] theorem Az {a0 a1 a2 a3 a4 a5 a6 a7 a8 a9 a10 a11 a12 a13:C} {l:List C}:dk (a0::a1::a2::a3::a4::a5::a6::a7::a8::a9::a10::a11::a12::a13::l) 13=a13:=rfl
@[go_sem] theorem BA {a0 a1 a2 a3 a4 a5 a6 a7 a8 a9 a10 a11 a12 a13 a14:C} {l:List C}:dk (a0::a1::a2::a3::a4::a5::a6::a7::a8::a9::a10::a11::a12::a13::a14::l) 14=a14:=rfl
@[go_sem] theorem BB {a0 a1 a2 a3 a4 a5 a6 a7 a8 a9 a10 a11 a12 a13 a14 a15:C} {l:List C}:dk (a0::a1::a2::a3::a4::a5::a6::a7::a8::a9::a10::a11::a12::a13::a14::a15::l) 15=a15:=rfl
@[go_sem] theorem BC {a0 a1 a2 a3 a4 a5 a6 a7 a8 a9 a10 a11 a12 a13 a14 a15 a16:C} {l:List C}:dk (a0::a1::a2::a3::a4::a5::a6::a7::a8::a9::a10::a11::a12::a13::a14::a15::a16::l) 16=a16:=rfl
@[go_sem] theorem BD {a0 a1 a2 a3 a4 a5 a6 a7 a8 a9 a10 a11 a12 a13 a14 a15 a16 a17:C} {l:List C}:dk (a0::a1::a2::a3::a4::a5::a6::a7::a8::a9::a10::a11::a12::a13::a14::a15::a16::a17::l) 17=a17:=rfl
@[go_sem] theorem BF {a0 a1 a2 a3 a4 a5 a6 a7 a8 a9 a10 a11 a12 a13 a14 a15 a16 a17 a18:C} {l:List C}:dk (a0::a1::a2::a3::a4::a5::a6::a7::a8::a9::a10::a11::a12::a13::a14::a15::a16::a17::a18::l) 18=a18:=rfl
@[go_sem] theorem BG {a0 a1 a2 a3 a4 a5 a6 a7 a8 a9 a10 a11 a12 a13 a14 a15 a16 a17 a18 a19:C} {l:List C}:dk (a0::a1::a2::a3::a4::a5::a6::a7::a8::a9::a10::a11::a12::a13::a14::a15::a16::a17::a18::a19::l) 19=a19:=rfl
@[go_sem] theorem BL {a0 a1 a2 a3 a4 a5 a6 a7 a8 a9 a10 a11 a12 a13 a14 a15 a16 a17 a18 a19 a20:C} {l:List C}:dk (a0::a1::a2::a3::a4::a5::a6::a7::a8::a9::a10::a11::a12::a13::a14::a15::a16::a17::a18::a19::a20::l) 20=a20:=rfl
@[go_sem] theorem BM {a0 a1 a2 a3 a4 a5 a6 a7 a8 a9 a10 a11 a12 a13 a14 a15 a16 a17 a18 a19 a20 a21:C} {l:List C}:dk (a0::a1::a2::a3::a4::a5::a6::a7::a8::a9::a10::a11::a12::a13::a14::a15::a16::a17::a18::a19::a20::a21::l) 21=a21:=rfl
@[go_sem] theorem BN {a0 a1 a2 a3 a4 a5 a6 a7 a8 a9 a10 a11 a12 a13 a14 a15 a16 a17 a18 a19 a20 a21 a22:C} {l:List C}:dk (a0::a1::a2::a3::a4::a5::a6::a7::a8::a9::a10::a11::a12::a13::a14::a15::a16::a17::a18::a19::a20::a21::a22::l) 22=a22:=rfl
@[go_sem] theorem BR {a0 a1 a2 a3 a4 a5 a6 a7 a8 a9 a10 a11 a12 a13 a14 a15 a16 a17 a18 a19 a20 a21 a22 a23:C} {l:List C}:dk (a0::a1::a2::a3::a4::a5::a6::a7::a8::a9::a10::a11::a12::a13::a14::a15::a16::a17::a18::a19::a20::a21::a22::a23::l) 23=a23:=rfl
@[go_sem] theorem Bf {a0 a1 a2 a3 a4 a5 a6 a7 a8 a9 a10 a11 a12 a13 a14 a15 a16 a17 a18 a19 a20 a21 a22 a23 a24:C} {l:List C}:dk (a0::a1::a2::a3::a4::a5::a6::a7::a8::a9::a10::a11::a12::a13::a14::a15::a16::a17::a18::a19::a20::a21::a22::a23::a24::l) 24=a24:=rfl
@[go_sem] theorem Bg {a0 a1 a2 a3 a4 a5 a6 a7 a8 a9 a10 a11 a12 a13 a14 a15 a16 a17 a18 a19 a20 a21 a22 a23 a24 a25:C} {l:List C}:dk (a0::a1::a2::a3::a4::a5::a6::a7::a8::a9::a10::a11::a12::a13::a14::a15::a16::a17::a18::a19::a20::a21::a22::a23::a24::a25::l) 25=a25:=rfl
@[go_sem] theorem JC {a0:C} {l:List C}:cd (.agg (a0::l)) 0=a0:=rfl
@[go_sem] theorem Kg {a0 a1:C} {l:List C}:cd (.agg (a0::a1::l)) 1=a1:=rfl
@[go_sem] theorem Qc {a0 a1 a2:C} {l:List C}:cd (.agg (a0::a1::a2::l)) 2=a2:=rfl
@[go_sem] theorem mP {a0 a1 a2 a3:C} {l:List C}:cd (.agg (a0::a1::a2::a3::l)) 3=a3:=rfl
@[go_sem] theorem Ya {a0 a1 a2 a3 a4:C} {l:List C}:cd (.agg (a0::a1::a2::a3::a4::l)) 4=a4:=rfl
@[go_sem] theorem q1T {a0 a1 a2 a3 a4 a5:C} {l:List C}:cd (.agg (a0::a1::a2::a3::a4::a5::l)) 5=a5:=rfl
@[go_sem] theorem q1U {a0 a1 a2 a3 a4 a5 a6:C} {l:List C}:cd (.agg (a0::a1::a2::a3::a4::a5::a6::l)) 6=a6:=rfl
@[go_sem] theorem q1V {a0 a1 a2 a3 a4 a5 a6 a7:C} {l:List C}:cd (.agg (a0::a1::a2::a3::a4::a5::a6::a7::l)) 7=a7:=rfl
@[go_sem] theorem q1W {a0 a1 a2 a3 a4 a5 a6 a7 a8:C} {l:List C}:cd (.agg (a0::a1::a2::a3::a4::a5::a6::a7::a8::l)) 8=a8:=rfl
@[go_sem] theorem q8Q {a0 a1 a2 a3 a4 a5 a6 a7 a8 a9:C} {l:List C}:cd (.agg (a0::a1::a2::a3::a4::a5::a6::a7::a8::a9::l)) 9=a9:=rfl
@[go_sem] theorem q8K {a0 a1 a2 a3 a4 a5 a6 a7 a8 a9 a10:C} {l:List C}:cd (.agg (a0::a1::a2::a3::a4::a5::a6::a7::a8::a9::a10::l)) 10=a10:=rfl
@[go_sem] theorem q8L {a0 a1 a2 a3 a4 a5 a6 a7 a8 a9 a10 a11:C} {l:List C}:cd (.agg (a0::a1::a2::a3::a4::a5::a6::a7::a8::a9::a10::a11::l)) 11=a11:=rfl
@[go_sem] theorem q8M {a0 a1 a2 a3 a4 a5 a6 a7 a8 a9 a10 a11 a12:C} {l:List C}:cd (.agg (a0::a1::a2::a3::a4::a5::a6::a7::a8::a9::a10::a11::a12::l)) 12=a12:=rfl
@[go_sem] theorem q8N {a0 a1 a2 a3 a4 a5 a6 a7 a8 a9 a10 a11 a12 a13:C} {l:List C}:cd (.agg (a0::a1::a2::a3::a4::a5::a6::a7::a8::a9::a10::a11::a12::a13::l)) 13=a13:=rfl
@[go_sem] theorem q8O {a0 a1 a2 a3 a4 a5 a6 a7 a8 a9 a10 a11 a12 a13 a14:C} {l:List C}:cd (.agg (a0::a1::a2::a3::a4::a5::a6::a7::a8::a9::a10::a11::a12::a13::a14::l)) 14=a14:=rfl
@[go_sem] theorem q8P {a0 a1 a2 a3 a4 a5 a6 a7 a8 a9 a10 a11 a12 a13 a14 a15:C} {l:List C}:cd (.agg (a0::a1::a2::a3::a4::a5::a6::a7::a8::a9::a10::a11::a12::a13::a14::a15::l)) 15=a15:=rfl
@[go_sem] theorem Ow {a0 b:C} {l:List C}:dp (.agg (a0::l)) 0 b= .agg (b::l):=rfl
@[go_sem] theorem Vt {a0 a1 b:C} {l:List C}:dp (.agg (a0::a1::l)) 1 b= .agg (a0::b::l):=rfl
@[go_sem] theorem Vu {a0 a1 a2 b:C} {l:List C}:dp (.agg (a0::a1::a2::l)) 2 b= .agg (a0::a1::b::l):=rfl
@[go_sem] theorem wM {a0 a1 a2 a3 b:C} {l:List C}:dp (.agg (a0::a1::a2::a3::l)) 3 b= .agg (a0::a1::a2::b::l):=rfl
@[go_sem] theorem cT {a0 a1 a2 a3 a4 b:C} {l:List C}:dp (.agg (a0::a1::a2::a3::a4::l)) 4 b= .agg (a0::a1::a2::a3::b::l):=rfl
@[go_sem] theorem q8T {a0 a1 a2 a3 a4 a5 b:C} {l:List C}:dp (.agg (a0::a1::a2::a3::a4::a5::l)) 5 b= .agg (a0::a1::a2::a3::a4::b::l):=rfl
@[go_sem] theorem q8U {a0 a1 a2 a3 a4 a5 a6 b:C} {l:List C}:dp (.agg (a0::a1::a2::a3::a4::a5::a6::l)) 6 b= .agg (a0::a1::a2::a3::a4::a5::b::l):=rfl
@[go_sem] theorem q8V {a0 a1 a2 a3 a4 a5 a6 a7 b:C} {l:List C}:dp (.agg (a0::a1::a2::a3::a4::a5::a6::a7::l)) 7 b= .agg (a0::a1::a2::a3::a4::a5::a6::b::l):=rfl
attribute [go_sem] AZ Nat.beq_refl Bool.and_true pn Bool.not_true Bool.not_false beq_self_eq_true Int.toNat_natCast decide_true decide_false Bool.cond_decide Int.toNat_zero Int.toNat_one
attribute [go_sem 500] Int.ofNat_eq_natCast
attribute [go_sem] Int.cast_ofNat_Int
@[go_sem] theorem q8S (n:Nat):Int.ofNat (@qi Nat n (instOfNatNat n))=@qi Int n instOfNat:=rfl
@[go_sem] theorem q8R (n:Nat):((@qi Nat n (instOfNatNat n):Nat):Int)=@qi Int n instOfNat:=rfl
@[go_sem] theorem Bn (a b:Bool):MF (.bool a) b= .bool b:=rfl
@[go_sem] theorem q8B (c:C):C.beq c c=true:=(C.beq_iff c c).2 rfl
theorem OE {R:Type} {ι:Type} {F:KD R->List C->List Es->Option R} (st:ι->List C) (sm:ι->List Es) (μ:ι->Nat) (P:ι->Prop) (spec:ι->Option R)
  (h:∀i,P i->∀rec:KD R,(∀j,P j->μ j<μ i->rec (st j) (sm j)=spec j)->F rec (st i) (sm i)=spec i):∀(N:Nat) (i:ι),P i->μ i<N->BU N F (st i) (sm i)=spec i
 |0,_,_,h2=>absurd h2 (Nat.not_lt_zero _)|N+1,i,h1,h2=>by rw[Eb];exact h i h1 _ fun j hj hlt=>OE st sm μ P spec h N j hj (by omega)
theorem Jt {R:Type} {F:KD R->List C->List Es->Option R} (st:Nat->List C) (sm:Nat->List Es) (m:Nat) (r:Option R) (step:∀i,i<m->∀rec:KD R,F rec (st i) (sm i)=rec (st (i+1)) (sm (i+1))) (stop:∀rec:KD R,F rec (st m) (sm m)=r) {N:Nat} (hN:m<N):
  BU N F (st 0) (sm 0)=r:=by
 refine OE (F:=F) st sm (fun i=>m-i) (fun i=>i<=m) (fun _=>r) (fun i hi rec ya=>?_) N 0 (Nat.zero_le _) (by omega);by_cases e:i=m;{subst e;exact stop rec};{rw[step i (by omega) rec];exact ya (i+1) (by omega) (by omega)}
theorem Xg {X:Cx} {f:FuncId} {ts:List Ty} {cs:List C} {A:Key->Option O} {v:V} {L:List (Key × O)} (h:(∀(i:Nat) (t:Ty) (c:C),ts[i]? =some t->cs[i]? =some c->C.wf t c)->Bu X f (jr V.d ts cs) A v L):Bu X f (jr V.d ts cs) A v L:=by
 intro A' Γ w args hA hg hc hn hr;refine h (fun i t c ht hcs=>?_) A' Γ w args hA hg hc hn hr;have hx:(jr V.d ts cs)[i]? =some (.d t c):=by simp[List.getElem?_zipWith,ht,hcs]
 have hs:(DB 1000 (jr V.d ts cs))[i]? =some (.d t c):=by rw[SX,hx];rfl
 have hl:i<args.size:=by rw[<-hn];exact(cm.1 hx).1
 exact(hr i _ _ hs (Array.getElem?_eq_getElem hl)).wf
theorem q13 {w:World} {gl gl':Nat->Option (Ty × C)} (h:Mq w gl) (hs:∀g x,gl' g=some x->gl g=some x):Mq w gl':=fun g τ c hg=>h g τ c (hs g (τ,c) hg)
theorem aR {X:Cx} {f:FuncId} {g:OvG (V × List (Key × O))} (h:GOk X f g) {xs:List V} {A:Key->Option O} {v:V} {L:List (Key × O)} (hr:g xs A kR=some (v,L)):Bu X f xs A v L:=by obtain⟨v',L',h1,h2⟩:=h xs A kR (v,L) hr;simp only[kR,Option.some.injEq,Prod.mk.injEq]at h2;obtain⟨rfl,rfl⟩:=h2;exact h1
def CI {α σ ε:Type} (f:Nat->σ->α->σ ⊕ ε):Nat->σ->List α->σ ⊕ ε
 |_,s,[]=>.inl s|i,s,c::l=>match f i s c with| .inl s'=>CI f (i+1) s' l| .inr e=>.inr e
def FW {R σ ε:Type} (fin:σ->Option R) (err:ε->Option R):σ ⊕ ε->Option R
 | .inl s=>fin s| .inr e=>err e
theorem Zc {α R σ ε:Type} {F:KD R->List C->List Es->Option R} (st:Nat->σ->List C) (sm:Nat->σ->List Es) (l:List α) (f:Nat->σ->α->σ ⊕ ε) (fin:σ->Option R) (err:ε->Option R) (P:Nat->σ->Prop) {s0:σ} {N:Nat}
  (h0:P 0 s0) (step:∀i s c,l[i]? =some c->P i s->(∀rec:KD R,F rec (st i s) (sm i s)=match f i s c with| .inl s'=>rec (st (i+1) s') (sm (i+1) s')| .inr e=>err e)/\(∀s',f i s c= .inl s'->P (i+1) s'))
  (stop:∀s,P l.length s->∀rec:KD R,F rec (st l.length s) (sm l.length s)=fin s) (hN:l.length<N):
  BU N F (st 0 s0) (sm 0 s0)=FW fin err (CI f 0 s0 l):=by
 have key:=OE (R:=R) (ι:=Nat × σ) (F:=F) (fun x=>st x.1 x.2) (fun x=>sm x.1 x.2) (fun x=>l.length-x.1) (fun x=>x.1<=l.length/\P x.1 x.2) (fun x=>FW fin err (CI f x.1 x.2 (l.drop x.1)))
  (fun x hx rec ya=>?_) N (0,s0) ⟨Nat.zero_le _,h0⟩ (by show l.length-0<N;omega)
 ·simpa using key
 ·obtain⟨i,s⟩:=x;obtain⟨h1,h2⟩:=hx;dsimp only at h1 h2 ya ⊢;by_cases h:i=l.length;{subst h;rw[stop s h2,List.drop_length];rfl}
  ·have hi:i<l.length:=by omega
   obtain⟨h3,h4⟩:=step i s l[i] (List.getElem?_eq_getElem hi) h2;rw[h3,List.drop_eq_getElem_cons hi];simp only[CI];cases hf:f i s l[i]with
   |inl s'=>exact ya (i+1,s') ⟨hi,h4 s' hf⟩ (by dsimp only;omega)|inr e=>rfl
theorem Ju {α R σ ε:Type} {F:KD R->List C->List Es->Option R} (st:Nat->σ->List C) (sm:Nat->σ->List Es) (l:List α) (f:Nat->σ->α->σ ⊕ ε) (fin:σ->Option R) (err:ε->Option R) {s0:σ} {N:Nat}
  (step:∀i s c,l[i]? =some c->i<l.length->∀rec:KD R,F rec (st i s) (sm i s)=match f i s c with| .inl s'=>rec (st (i+1) s') (sm (i+1) s')| .inr e=>err e)
  (stop:∀s,∀rec:KD R,F rec (st l.length s) (sm l.length s)=fin s) (hN:l.length<N):
  BU N F (st 0 s0) (sm 0 s0)=FW fin err (CI f 0 s0 l):=
 Zc st sm l f fin err (fun _ _=>True) trivial (fun i s c hc _=>⟨step i s c hc (cm.1 hc).1,fun _ _=>trivial⟩) (fun s _=>stop s) hN
theorem Gi {l:List C} {i:Nat} {c:C} (h:l[i]? =some c):l.getD i .nil=c:=by rw[List.getD_eq_getElem?_getD,h];rfl
theorem Ck {i:Nat} (h:i<4611686018427387904):IntKind.i64.wrap ((i:Int)+1)=((i+1:Nat):Int):=by rw[IntWalk.i64_in _ (by omega)];omega
theorem wrap_u64 {n:Int} (h:0<=n) (h2:n<18446744073709551616):IntKind.u64.wrap n=n:=by
 have hm1:IntKind.u64.min=0:=by decide
 have hm2:IntKind.u64.max=18446744073709551615:=by decide
 exact PL (by omega) (by omega)
@[go_sem] theorem Ia (g:Key->Key) (τ:Ty) (m:Es):List.map (fun c=>(Prod.fst c,qw g id (Prod.snd c))) (dE τ m)=dE τ m:=by unfold dE;rw[nu];exact nt fun _ _=>rfl
attribute [go_sem] Aq Ao
@[go_sem] theorem Fm (τ:Ty):∀m:Es,De τ (dE τ m)=true
 | []=>rfl|_::m=>by have:=Fm τ m;have h:Ty.beq τ τ=true:=(Ty.beq_iff τ τ).2 rfl;simp only[dE,ep,De,h,pn]at this ⊢;exact this
def FI:Es->C->Bool
 | [],_=>false|(k,_)::l,c=>bif C.beq c k then true else FI l c
def getM:Es->C->C
 | [],_=>.nil|(k,v)::l,c=>bif C.beq c k then v else getM l c
@[go_sem] theorem Qg (τ:Ty) (c:C):∀m:Es,IU (dE τ m) c=FI m c
 | []=>rfl|(k,v)::m=>by have:=Qg τ c m;simp only[dE,ep,IU,FI]at this ⊢;rw[this]
@[go_sem] theorem mM (τ:Ty) (c:C):∀m:Es,Kf (dE τ m) c=getM m c
 | []=>rfl|(k,v)::m=>by have:=mM τ c m;simp only[dE,ep,Kf,getM]at this ⊢;rw[this]
@[go_sem] theorem JT:unE []=[]:=rfl
@[go_sem] theorem H9 (τ:Ty):dE τ []=[]:=rfl
def Cj:Ty:=.struct 65 [0,64] [(.arr 2 (.arr 32 (.int .u8))),(.int .i64)]
@[go_sem] theorem z1A:Cj.known=true:=rfl
@[go_sem] theorem z1x:Cj.DL=true:=rfl
@[go_sem] theorem z1w:Cj.isAgg=true:=rfl
@[go_sem] theorem z1B:Cj.size=65:=rfl
@[go_sem] theorem z1y:Cj.DS=[(.arr 2 (.arr 32 (.int .u8))),(.int .i64)]:=rfl
@[go_sem] theorem z1z:Cj.kids=2:=rfl
@[go_sem] theorem z1t:Cj.CG=true:=by kernel_rfl
@[go_sem] theorem z1u:Cj.get 0=(.arr 2 (.arr 32 (.int .u8))):=rfl
@[go_sem] theorem z1r:Cj.child 0=some (0,(.arr 2 (.arr 32 (.int .u8)))):=rfl
@[go_sem] theorem z1v:Cj.get 1=(.int .i64):=rfl
@[go_sem] theorem z1s:Cj.child 1=some (64,(.int .i64)):=rfl
@[go_sem] theorem z1D:AL Cj= .agg [(AL (.arr 2 (.arr 32 (.int .u8)))),(.int 0)]:=rfl
@[go_sem] theorem z1C:Ai Cj= .d Cj (AL Cj):=rfl
def Bz:Ty:=.struct 36 [0,1,2,3,35] [(.int .u64),(.int .i64),(.int .u64),(.arr 32 (.int .u8)),(.int .u64)]
@[go_sem] theorem q9C:Bz.known=true:=rfl
@[go_sem] theorem q9z:Bz.DL=true:=rfl
@[go_sem] theorem q9y:Bz.isAgg=true:=rfl
@[go_sem] theorem q9D:Bz.size=36:=rfl
@[go_sem] theorem q9A:Bz.DS=[(.int .u64),(.int .i64),(.int .u64),(.arr 32 (.int .u8)),(.int .u64)]:=rfl
@[go_sem] theorem q9B:Bz.kids=5:=rfl
@[go_sem] theorem q9s:Bz.CG=true:=by kernel_rfl
@[go_sem] theorem q9t:Bz.get 0=(.int .u64):=rfl
@[go_sem] theorem q9n:Bz.child 0=some (0,(.int .u64)):=rfl
@[go_sem] theorem q9u:Bz.get 1=(.int .i64):=rfl
@[go_sem] theorem q9o:Bz.child 1=some (1,(.int .i64)):=rfl
@[go_sem] theorem q9v:Bz.get 2=(.int .u64):=rfl
@[go_sem] theorem q9p:Bz.child 2=some (2,(.int .u64)):=rfl
@[go_sem] theorem q9w:Bz.get 3=(.arr 32 (.int .u8)):=rfl
@[go_sem] theorem q9q:Bz.child 3=some (3,(.arr 32 (.int .u8))):=rfl
@[go_sem] theorem q9x:Bz.get 4=(.int .u64):=rfl
@[go_sem] theorem q9r:Bz.child 4=some (35,(.int .u64)):=rfl
@[go_sem] theorem q9F:AL Bz= .agg [(.int 0),(.int 0),(.int 0),(AL (.arr 32 (.int .u8))),(.int 0)]:=rfl
@[go_sem] theorem q9E:Ai Bz= .d Bz (AL Bz):=rfl
def BV:Ty:=.struct 7 [0,1,2,4,6] [(.int .u32),(.int .u64),(.arr 2 (.int .u64)),(.arr 2 (.int .u64)),(.slice 64 Bz)]
@[go_sem] theorem z2y:BV.known=true:=rfl
@[go_sem] theorem z2v:BV.DL=true:=rfl
@[go_sem] theorem z2u:BV.isAgg=true:=rfl
@[go_sem] theorem z2z:BV.size=7:=rfl
@[go_sem] theorem z2w:BV.DS=[(.int .u32),(.int .u64),(.arr 2 (.int .u64)),(.arr 2 (.int .u64)),(.slice 64 Bz)]:=rfl
@[go_sem] theorem z2x:BV.kids=5:=rfl
@[go_sem] theorem z2o:BV.CG=true:=by kernel_rfl
@[go_sem] theorem z2p:BV.get 0=(.int .u32):=rfl
@[go_sem] theorem z2j:BV.child 0=some (0,(.int .u32)):=rfl
@[go_sem] theorem z2q:BV.get 1=(.int .u64):=rfl
@[go_sem] theorem z2k:BV.child 1=some (1,(.int .u64)):=rfl
@[go_sem] theorem z2r:BV.get 2=(.arr 2 (.int .u64)):=rfl
@[go_sem] theorem z2l:BV.child 2=some (2,(.arr 2 (.int .u64))):=rfl
@[go_sem] theorem z2s:BV.get 3=(.arr 2 (.int .u64)):=rfl
@[go_sem] theorem z2m:BV.child 3=some (4,(.arr 2 (.int .u64))):=rfl
@[go_sem] theorem z2t:BV.get 4=(.slice 64 Bz):=rfl
@[go_sem] theorem z2n:BV.child 4=some (6,(.slice 64 Bz)):=rfl
@[go_sem] theorem z2B:AL BV= .agg [(.int 0),(.int 0),(AL (.arr 2 (.int .u64))),(AL (.arr 2 (.int .u64))),(.slice [])]:=rfl
@[go_sem] theorem z2A:Ai BV= .agg BV [Ai (.int .u32),Ai (.int .u64),Ai (.arr 2 (.int .u64)),Ai (.arr 2 (.int .u64)),Ai (.slice 64 Bz)]:=rfl
def DI:Ty:=.struct 1024 [0,512] [(.arr 32 (.arr 16 (.int .u8))),(.arr 32 (.arr 16 (.int .u8)))]
@[go_sem] theorem z12:DI.known=true:=rfl
@[go_sem] theorem z1Z:DI.DL=true:=rfl
@[go_sem] theorem z1Y:DI.isAgg=true:=rfl
@[go_sem] theorem z13:DI.size=1024:=rfl
@[go_sem] theorem z10:DI.DS=[(.arr 32 (.arr 16 (.int .u8))),(.arr 32 (.arr 16 (.int .u8)))]:=rfl
@[go_sem] theorem z11:DI.kids=2:=rfl
@[go_sem] theorem z1V:DI.CG=true:=by kernel_rfl
@[go_sem] theorem z1W:DI.get 0=(.arr 32 (.arr 16 (.int .u8))):=rfl
@[go_sem] theorem z1T:DI.child 0=some (0,(.arr 32 (.arr 16 (.int .u8)))):=rfl
@[go_sem] theorem z1X:DI.get 1=(.arr 32 (.arr 16 (.int .u8))):=rfl
@[go_sem] theorem z1U:DI.child 1=some (512,(.arr 32 (.arr 16 (.int .u8)))):=rfl
@[go_sem] theorem z15:AL DI= .agg [(AL (.arr 32 (.arr 16 (.int .u8)))),(AL (.arr 32 (.arr 16 (.int .u8))))]:=rfl
@[go_sem] theorem z14:Ai DI= .d DI (AL DI):=rfl
def Ci:Ty:=.struct 1026 [0,1024,1025] [DI,(.int .u32),(.slice 32 (.arr 32 (.int .u8)))]
@[go_sem] theorem z1P:Ci.known=true:=rfl
@[go_sem] theorem z1M:Ci.DL=true:=rfl
@[go_sem] theorem z1L:Ci.isAgg=true:=rfl
@[go_sem] theorem z1Q:Ci.size=1026:=rfl
@[go_sem] theorem z1N:Ci.DS=[DI,(.int .u32),(.slice 32 (.arr 32 (.int .u8)))]:=rfl
@[go_sem] theorem z1O:Ci.kids=3:=rfl
@[go_sem] theorem z1H:Ci.CG=true:=by kernel_rfl
@[go_sem] theorem z1I:Ci.get 0=DI:=rfl
@[go_sem] theorem z1E:Ci.child 0=some (0,DI):=rfl
@[go_sem] theorem z1J:Ci.get 1=(.int .u32):=rfl
@[go_sem] theorem z1F:Ci.child 1=some (1024,(.int .u32)):=rfl
@[go_sem] theorem z1K:Ci.get 2=(.slice 32 (.arr 32 (.int .u8))):=rfl
@[go_sem] theorem z1G:Ci.child 2=some (1025,(.slice 32 (.arr 32 (.int .u8)))):=rfl
@[go_sem] theorem z1S:AL Ci= .agg [(AL DI),(.int 0),(.slice [])]:=rfl
@[go_sem] theorem z1R:Ai Ci= .agg Ci [Ai DI,Ai (.int .u32),Ai (.slice 32 (.arr 32 (.int .u8)))]:=rfl
def Ch:Ty:=.struct 2059 [0,7] [BV,(.arr 2 Ci)]
@[go_sem] theorem z0c:Ch.known=true:=rfl
@[go_sem] theorem q99:Ch.DL=true:=rfl
@[go_sem] theorem q98:Ch.isAgg=true:=rfl
@[go_sem] theorem z0d:Ch.size=2059:=rfl
@[go_sem] theorem z0a:Ch.DS=[BV,(.arr 2 Ci)]:=rfl
@[go_sem] theorem z0b:Ch.kids=2:=rfl
@[go_sem] theorem q95:Ch.CG=true:=by kernel_rfl
@[go_sem] theorem q96:Ch.get 0=BV:=rfl
@[go_sem] theorem q93:Ch.child 0=some (0,BV):=rfl
@[go_sem] theorem q97:Ch.get 1=(.arr 2 Ci):=rfl
@[go_sem] theorem q94:Ch.child 1=some (7,(.arr 2 Ci)):=rfl
@[go_sem] theorem z0f:AL Ch= .agg [(AL BV),(AL (.arr 2 Ci))]:=rfl
@[go_sem] theorem z0e:Ai Ch= .agg Ch [Ai BV,Ai (.arr 2 Ci)]:=rfl
def tTx:Ty:=.struct 2164 [0,1,2,3,4,5,6,7,39,104,105] [(.int .i64),(.int .i64),(.int .u64),(.int .u64),(.int .i64),(.int .u64),(.int .u32),(.arr 32 (.int .u8)),Cj,(.slice 1 (.int .u8)),Ch]
@[go_sem] theorem z3i:tTx.known=true:=rfl
@[go_sem] theorem z3f:tTx.DL=true:=rfl
@[go_sem] theorem z3e:tTx.isAgg=true:=rfl
@[go_sem] theorem z3j:tTx.size=2164:=rfl
@[go_sem] theorem z3g:tTx.DS=[(.int .i64),(.int .i64),(.int .u64),(.int .u64),(.int .i64),(.int .u64),(.int .u32),(.arr 32 (.int .u8)),Cj,(.slice 1 (.int .u8)),Ch]:=rfl
@[go_sem] theorem z3h:tTx.kids=11:=rfl
@[go_sem] theorem z22:tTx.CG=true:=by kernel_rfl
@[go_sem] theorem z23:tTx.get 0=(.int .i64):=rfl
@[go_sem] theorem z2R:tTx.child 0=some (0,(.int .i64)):=rfl
@[go_sem] theorem z24:tTx.get 1=(.int .i64):=rfl
@[go_sem] theorem z2S:tTx.child 1=some (1,(.int .i64)):=rfl
@[go_sem] theorem z26:tTx.get 2=(.int .u64):=rfl
@[go_sem] theorem z2U:tTx.child 2=some (2,(.int .u64)):=rfl
@[go_sem] theorem z27:tTx.get 3=(.int .u64):=rfl
@[go_sem] theorem z2V:tTx.child 3=some (3,(.int .u64)):=rfl
@[go_sem] theorem z28:tTx.get 4=(.int .i64):=rfl
@[go_sem] theorem z2W:tTx.child 4=some (4,(.int .i64)):=rfl
@[go_sem] theorem z29:tTx.get 5=(.int .u64):=rfl
@[go_sem] theorem z2X:tTx.child 5=some (5,(.int .u64)):=rfl
@[go_sem] theorem z3a:tTx.get 6=(.int .u32):=rfl
@[go_sem] theorem z2Y:tTx.child 6=some (6,(.int .u32)):=rfl
@[go_sem] theorem z3b:tTx.get 7=(.arr 32 (.int .u8)):=rfl
@[go_sem] theorem z2Z:tTx.child 7=some (7,(.arr 32 (.int .u8))):=rfl
@[go_sem] theorem z3c:tTx.get 8=Cj:=rfl
@[go_sem] theorem z20:tTx.child 8=some (39,Cj):=rfl
@[go_sem] theorem z3d:tTx.get 9=(.slice 1 (.int .u8)):=rfl
@[go_sem] theorem z21:tTx.child 9=some (104,(.slice 1 (.int .u8))):=rfl
@[go_sem] theorem z25:tTx.get 10=Ch:=rfl
@[go_sem] theorem z2T:tTx.child 10=some (105,Ch):=rfl
@[go_sem] theorem z3l:AL tTx= .agg [(.int 0),(.int 0),(.int 0),(.int 0),(.int 0),(.int 0),(.int 0),(AL (.arr 32 (.int .u8))),(AL Cj),(.slice []),(AL Ch)]:=rfl
@[go_sem] theorem z3k:Ai tTx= .agg tTx [Ai (.int .i64),Ai (.int .i64),Ai (.int .u64),Ai (.int .u64),Ai (.int .i64),Ai (.int .u64),Ai (.int .u32),Ai (.arr 32 (.int .u8)),Ai Cj,Ai (.slice 1 (.int .u8)),Ai Ch]:=rfl
def AO:Ty:=.struct 82 [0,1,3,68,69,71,73,74,75] [(.int .u32),(.arr 2 (.int .i64)),Cj,(.slice 1 (.int .u8)),(.arr 2 (.int .u64)),(.arr 2 (.int .u64)),(.int .i64),(.int .u64),BV]
@[go_sem] theorem q9j:AO.known=true:=rfl
@[go_sem] theorem q9g:AO.DL=true:=rfl
@[go_sem] theorem q9f:AO.isAgg=true:=rfl
@[go_sem] theorem q9k:AO.size=82:=rfl
@[go_sem] theorem q9h:AO.DS=[(.int .u32),(.arr 2 (.int .i64)),Cj,(.slice 1 (.int .u8)),(.arr 2 (.int .u64)),(.arr 2 (.int .u64)),(.int .i64),(.int .u64),BV]:=rfl
@[go_sem] theorem q9i:AO.kids=9:=rfl
@[go_sem] theorem q85:AO.CG=true:=by kernel_rfl
@[go_sem] theorem q86:AO.get 0=(.int .u32):=rfl
@[go_sem] theorem q8W:AO.child 0=some (0,(.int .u32)):=rfl
@[go_sem] theorem q87:AO.get 1=(.arr 2 (.int .i64)):=rfl
@[go_sem] theorem q8X:AO.child 1=some (1,(.arr 2 (.int .i64))):=rfl
@[go_sem] theorem q88:AO.get 2=Cj:=rfl
@[go_sem] theorem q8Y:AO.child 2=some (3,Cj):=rfl
@[go_sem] theorem q89:AO.get 3=(.slice 1 (.int .u8)):=rfl
@[go_sem] theorem q8Z:AO.child 3=some (68,(.slice 1 (.int .u8))):=rfl
@[go_sem] theorem q9a:AO.get 4=(.arr 2 (.int .u64)):=rfl
@[go_sem] theorem q80:AO.child 4=some (69,(.arr 2 (.int .u64))):=rfl
@[go_sem] theorem q9b:AO.get 5=(.arr 2 (.int .u64)):=rfl
@[go_sem] theorem q81:AO.child 5=some (71,(.arr 2 (.int .u64))):=rfl
@[go_sem] theorem q9c:AO.get 6=(.int .i64):=rfl
@[go_sem] theorem q82:AO.child 6=some (73,(.int .i64)):=rfl
@[go_sem] theorem q9d:AO.get 7=(.int .u64):=rfl
@[go_sem] theorem q83:AO.child 7=some (74,(.int .u64)):=rfl
@[go_sem] theorem q9e:AO.get 8=BV:=rfl
@[go_sem] theorem q84:AO.child 8=some (75,BV):=rfl
@[go_sem] theorem q9m:AL AO= .agg [(.int 0),(AL (.arr 2 (.int .i64))),(AL Cj),(.slice []),(AL (.arr 2 (.int .u64))),(AL (.arr 2 (.int .u64))),(.int 0),(.int 0),(AL BV)]:=rfl
@[go_sem] theorem q9l:Ai AO= .agg AO [Ai (.int .u32),Ai (.arr 2 (.int .i64)),Ai Cj,Ai (.slice 1 (.int .u8)),Ai (.arr 2 (.int .u64)),Ai (.arr 2 (.int .u64)),Ai (.int .i64),Ai (.int .u64),Ai BV]:=rfl
def AX:Ty:=.struct 5 [0,1,2,3,4] [(.int .u64),(.int .i64),(.int .i64),(.int .u32),(.int .i64)]
@[go_sem] theorem z0I:AX.known=true:=rfl
@[go_sem] theorem z0F:AX.DL=true:=rfl
@[go_sem] theorem z0E:AX.isAgg=true:=rfl
@[go_sem] theorem z0J:AX.size=5:=rfl
@[go_sem] theorem z0G:AX.DS=[(.int .u64),(.int .i64),(.int .i64),(.int .u32),(.int .i64)]:=rfl
@[go_sem] theorem z0H:AX.kids=5:=rfl
@[go_sem] theorem z0y:AX.CG=true:=by kernel_rfl
@[go_sem] theorem z0z:AX.get 0=(.int .u64):=rfl
@[go_sem] theorem z0t:AX.child 0=some (0,(.int .u64)):=rfl
@[go_sem] theorem z0A:AX.get 1=(.int .i64):=rfl
@[go_sem] theorem z0u:AX.child 1=some (1,(.int .i64)):=rfl
@[go_sem] theorem z0B:AX.get 2=(.int .i64):=rfl
@[go_sem] theorem z0v:AX.child 2=some (2,(.int .i64)):=rfl
@[go_sem] theorem z0C:AX.get 3=(.int .u32):=rfl
@[go_sem] theorem z0w:AX.child 3=some (3,(.int .u32)):=rfl
@[go_sem] theorem z0D:AX.get 4=(.int .i64):=rfl
@[go_sem] theorem z0x:AX.child 4=some (4,(.int .i64)):=rfl
@[go_sem] theorem z0L:AL AX= .agg [(.int 0),(.int 0),(.int 0),(.int 0),(.int 0)]:=rfl
@[go_sem] theorem z0K:Ai AX= .d AX (AL AX):=rfl
def Bo:Ty:=.struct 7 [0,1,2,3,4,5,6] [.ptr,.ptr,(.int .u64),(.int .u64),(.slice 240 AO),(.slice 2368 tTx),(.slice 40 AX)]
@[go_sem] theorem q9Z:Bo.known=true:=rfl
@[go_sem] theorem q9W:Bo.DL=true:=rfl
@[go_sem] theorem q9V:Bo.isAgg=true:=rfl
@[go_sem] theorem q90:Bo.size=7:=rfl
@[go_sem] theorem q9X:Bo.DS=[.ptr,.ptr,(.int .u64),(.int .u64),(.slice 240 AO),(.slice 2368 tTx),(.slice 40 AX)]:=rfl
@[go_sem] theorem q9Y:Bo.kids=7:=rfl
@[go_sem] theorem q9N:Bo.CG=true:=by kernel_rfl
@[go_sem] theorem q9O:Bo.get 0= .ptr:=rfl
@[go_sem] theorem q9G:Bo.child 0=some (0,.ptr):=rfl
@[go_sem] theorem q9P:Bo.get 1= .ptr:=rfl
@[go_sem] theorem q9H:Bo.child 1=some (1,.ptr):=rfl
@[go_sem] theorem q9Q:Bo.get 2=(.int .u64):=rfl
@[go_sem] theorem q9I:Bo.child 2=some (2,(.int .u64)):=rfl
@[go_sem] theorem q9R:Bo.get 3=(.int .u64):=rfl
@[go_sem] theorem q9J:Bo.child 3=some (3,(.int .u64)):=rfl
@[go_sem] theorem q9S:Bo.get 4=(.slice 240 AO):=rfl
@[go_sem] theorem q9K:Bo.child 4=some (4,(.slice 240 AO)):=rfl
@[go_sem] theorem q9T:Bo.get 5=(.slice 2368 tTx):=rfl
@[go_sem] theorem q9L:Bo.child 5=some (5,(.slice 2368 tTx)):=rfl
@[go_sem] theorem q9U:Bo.get 6=(.slice 40 AX):=rfl
@[go_sem] theorem q9M:Bo.child 6=some (6,(.slice 40 AX)):=rfl
@[go_sem] theorem q92:AL Bo= .agg [.nil,.nil,(.int 0),(.int 0),(.slice []),(.slice []),(.slice [])]:=rfl
@[go_sem] theorem q91:Ai Bo= .agg Bo [Ai .ptr,Ai .ptr,Ai (.int .u64),Ai (.int .u64),Ai (.slice 240 AO),Ai (.slice 2368 tTx),Ai (.slice 40 AX)]:=rfl
def BO:Ty:=.struct 3 [0,1,2] [(.slice 8 (.int .u64)),(.slice 8 (.int .u64)),(.int .u64)]
@[go_sem] theorem z2N:BO.known=true:=rfl
@[go_sem] theorem z2K:BO.DL=true:=rfl
@[go_sem] theorem z2J:BO.isAgg=true:=rfl
@[go_sem] theorem z2O:BO.size=3:=rfl
@[go_sem] theorem z2L:BO.DS=[(.slice 8 (.int .u64)),(.slice 8 (.int .u64)),(.int .u64)]:=rfl
@[go_sem] theorem z2M:BO.kids=3:=rfl
@[go_sem] theorem z2F:BO.CG=true:=by kernel_rfl
@[go_sem] theorem z2G:BO.get 0=(.slice 8 (.int .u64)):=rfl
@[go_sem] theorem z2C:BO.child 0=some (0,(.slice 8 (.int .u64))):=rfl
@[go_sem] theorem z2H:BO.get 1=(.slice 8 (.int .u64)):=rfl
@[go_sem] theorem z2D:BO.child 1=some (1,(.slice 8 (.int .u64))):=rfl
@[go_sem] theorem z2I:BO.get 2=(.int .u64):=rfl
@[go_sem] theorem z2E:BO.child 2=some (2,(.int .u64)):=rfl
@[go_sem] theorem z2Q:AL BO= .agg [(.slice []),(.slice []),(.int 0)]:=rfl
@[go_sem] theorem z2P:Ai BO= .agg BO [Ai (.slice 8 (.int .u64)),Ai (.slice 8 (.int .u64)),Ai (.int .u64)]:=rfl
def Bb:Ty:=.struct 1 [0] [.map]
@[go_sem] theorem z1n:Bb.known=true:=rfl
@[go_sem] theorem z1k:Bb.DL=true:=rfl
@[go_sem] theorem z1j:Bb.isAgg=true:=rfl
@[go_sem] theorem z1o:Bb.size=1:=rfl
@[go_sem] theorem z1l:Bb.DS=[.map]:=rfl
@[go_sem] theorem z1m:Bb.kids=1:=rfl
@[go_sem] theorem z1h:Bb.CG=true:=by kernel_rfl
@[go_sem] theorem z1i:Bb.get 0= .map:=rfl
@[go_sem] theorem z1g:Bb.child 0=some (0,.map):=rfl
@[go_sem] theorem z1q:AL Bb= .agg [.nil]:=rfl
@[go_sem] theorem z1p:Ai Bb= .d Bb (AL Bb):=rfl
def AB:Ty:=.struct 33 [0,32] [(.arr 32 (.int .u8)),(.int .u64)]
@[go_sem] theorem z0p:AB.known=true:=rfl
@[go_sem] theorem z0m:AB.DL=true:=rfl
@[go_sem] theorem z0l:AB.isAgg=true:=rfl
@[go_sem] theorem z0q:AB.size=33:=rfl
@[go_sem] theorem z0n:AB.DS=[(.arr 32 (.int .u8)),(.int .u64)]:=rfl
@[go_sem] theorem z0o:AB.kids=2:=rfl
@[go_sem] theorem z0i:AB.CG=true:=by kernel_rfl
@[go_sem] theorem z0j:AB.get 0=(.arr 32 (.int .u8)):=rfl
@[go_sem] theorem z0g:AB.child 0=some (0,(.arr 32 (.int .u8))):=rfl
@[go_sem] theorem z0k:AB.get 1=(.int .u64):=rfl
@[go_sem] theorem z0h:AB.child 1=some (32,(.int .u64)):=rfl
@[go_sem] theorem z0s:AL AB= .agg [(AL (.arr 32 (.int .u8))),(.int 0)]:=rfl
@[go_sem] theorem z0r:Ai AB= .d AB (AL AB):=rfl
def FD:Ty:=.struct 3 [0,1,2] [(.slice 8 (.int .u64)),(.slice 1 .bool),(.int .u64)]
@[go_sem] theorem z3x:FD.known=true:=rfl
@[go_sem] theorem z3u:FD.DL=true:=rfl
@[go_sem] theorem z3t:FD.isAgg=true:=rfl
@[go_sem] theorem z3y:FD.size=3:=rfl
@[go_sem] theorem z3v:FD.DS=[(.slice 8 (.int .u64)),(.slice 1 .bool),(.int .u64)]:=rfl
@[go_sem] theorem z3w:FD.kids=3:=rfl
@[go_sem] theorem z3p:FD.CG=true:=by kernel_rfl
@[go_sem] theorem z3q:FD.get 0=(.slice 8 (.int .u64)):=rfl
@[go_sem] theorem z3m:FD.child 0=some (0,(.slice 8 (.int .u64))):=rfl
@[go_sem] theorem z3r:FD.get 1=(.slice 1 .bool):=rfl
@[go_sem] theorem z3n:FD.child 1=some (1,(.slice 1 .bool)):=rfl
@[go_sem] theorem z3s:FD.get 2=(.int .u64):=rfl
@[go_sem] theorem z3o:FD.child 2=some (2,(.int .u64)):=rfl
@[go_sem] theorem z3A:AL FD= .agg [(.slice []),(.slice []),(.int 0)]:=rfl
@[go_sem] theorem z3z:Ai FD= .agg FD [Ai (.slice 8 (.int .u64)),Ai (.slice 1 .bool),Ai (.int .u64)]:=rfl
def Cq:Ty:=.struct 73 [0,8,72] [(.arr 8 (.int .u32)),(.arr 64 (.int .u8)),(.int .u64)]
@[go_sem] theorem z1c:Cq.known=true:=rfl
@[go_sem] theorem z09:Cq.DL=true:=rfl
@[go_sem] theorem z08:Cq.isAgg=true:=rfl
@[go_sem] theorem z1d:Cq.size=73:=rfl
@[go_sem] theorem z1a:Cq.DS=[(.arr 8 (.int .u32)),(.arr 64 (.int .u8)),(.int .u64)]:=rfl
@[go_sem] theorem z1b:Cq.kids=3:=rfl
@[go_sem] theorem z04:Cq.CG=true:=by kernel_rfl
@[go_sem] theorem z05:Cq.get 0=(.arr 8 (.int .u32)):=rfl
@[go_sem] theorem z01:Cq.child 0=some (0,(.arr 8 (.int .u32))):=rfl
@[go_sem] theorem z06:Cq.get 1=(.arr 64 (.int .u8)):=rfl
@[go_sem] theorem z02:Cq.child 1=some (8,(.arr 64 (.int .u8))):=rfl
@[go_sem] theorem z07:Cq.get 2=(.int .u64):=rfl
@[go_sem] theorem z03:Cq.child 2=some (72,(.int .u64)):=rfl
@[go_sem] theorem z1f:AL Cq= .agg [(AL (.arr 8 (.int .u32))),(AL (.arr 64 (.int .u8))),(.int 0)]:=rfl
@[go_sem] theorem z1e:Ai Cq= .d Cq (AL Cq):=rfl
def Ef:Ty:=.struct 3 [0,1,2] [.str,(.int .i64),(.int .i64)]
@[go_sem] theorem z0X:Ef.known=true:=rfl
@[go_sem] theorem z0U:Ef.DL=true:=rfl
@[go_sem] theorem z0T:Ef.isAgg=true:=rfl
@[go_sem] theorem z0Y:Ef.size=3:=rfl
@[go_sem] theorem z0V:Ef.DS=[.str,(.int .i64),(.int .i64)]:=rfl
@[go_sem] theorem z0W:Ef.kids=3:=rfl
@[go_sem] theorem z0P:Ef.CG=true:=by kernel_rfl
@[go_sem] theorem z0Q:Ef.get 0= .str:=rfl
@[go_sem] theorem z0M:Ef.child 0=some (0,.str):=rfl
@[go_sem] theorem z0R:Ef.get 1=(.int .i64):=rfl
@[go_sem] theorem z0N:Ef.child 1=some (1,(.int .i64)):=rfl
@[go_sem] theorem z0S:Ef.get 2=(.int .i64):=rfl
@[go_sem] theorem z0O:Ef.child 2=some (2,(.int .i64)):=rfl
@[go_sem] theorem z00:AL Ef= .agg [(.str []),(.int 0),(.int 0)]:=rfl
@[go_sem] theorem z0Z:Ai Ef= .d Ef (AL Ef):=rfl
def DG:Ty:=.struct 2 [0,1] [(.slice 8 (.int .u64)),(.int .i64)]
@[go_sem] theorem z2f:DG.known=true:=rfl
@[go_sem] theorem z2c:DG.DL=true:=rfl
@[go_sem] theorem z2b:DG.isAgg=true:=rfl
@[go_sem] theorem z2g:DG.size=2:=rfl
@[go_sem] theorem z2d:DG.DS=[(.slice 8 (.int .u64)),(.int .i64)]:=rfl
@[go_sem] theorem z2e:DG.kids=2:=rfl
@[go_sem] theorem z18:DG.CG=true:=by kernel_rfl
@[go_sem] theorem z19:DG.get 0=(.slice 8 (.int .u64)):=rfl
@[go_sem] theorem z16:DG.child 0=some (0,(.slice 8 (.int .u64))):=rfl
@[go_sem] theorem z2a:DG.get 1=(.int .i64):=rfl
@[go_sem] theorem z17:DG.child 1=some (1,(.int .i64)):=rfl
@[go_sem] theorem z2i:AL DG= .agg [(.slice []),(.int 0)]:=rfl
@[go_sem] theorem z2h:Ai DG= .agg DG [Ai (.slice 8 (.int .u64)),Ai (.int .i64)]:=rfl
end Go.E
