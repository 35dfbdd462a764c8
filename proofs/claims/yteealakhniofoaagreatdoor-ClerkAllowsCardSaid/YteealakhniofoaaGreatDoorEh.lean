/-
 A framework for runs of Go code over abstract data: what it needs, and that it is sound, part 8.
 Conditions: none.
-/
import Derived.Test.YteealakhniofoaaGreatDoorEg
set_option linter.all false
noncomputable section
set_option maxRecDepth 100000
set_option maxHeartbeats 4000000
open Bool renaming and_eq_true->bg,true_and->qt
open Go.E.C renaming get->bj,set->cn
open Go.E.Hp renaming le_refl->gy
open Go.E.O renaming ren->xv
open Go.E.S renaming start->mb
open Go.E.Sh renaming fill->pd,many->pe
open Go.E.V renaming ren->sn
open List renaming getElem?_eq_some_iff->cd,map_congr_left->pw,map_cons->dt,map_map->px,zipWith->jx
open OfNat renaming ofNat->ru
open Option renaming ite_none_right_eq_some->az
namespace Go.E
open Go
section
abbrev KD (R:Type):=List C->List Es->Option R
theorem rB {α:Type} (_:String) (a:α):∃b,b=a:=⟨a,rfl⟩
def lid {α:Type} (n:String) (a:α):α:=Classical.choose (rB n a)
theorem BQ {α:Type} (n:String) (a:α):lid n a=a:=Classical.choose_spec (rB n a)
def jn {R:Type}:KD R->(KD R->Option R)->Option R:=lid "" fun k b=>b k
theorem AR {R:Type} (k:KD R) (b:KD R->Option R):jn k b=b k:=by unfold jn;rw[BQ]
def rV {R:Type}:Nat->(KD R->List C->List Es->Option R)->List C->List Es->Option R
 |0,_,_,_=>none|n+1,F,ds,ms=>F (rV n F) ds ms
def BR {R:Type}:Nat->(KD R->List C->List Es->Option R)->List C->List Es->Option R:=lid "" rV
theorem rY {R:Type} (F:KD R->List C->List Es->Option R) (ds:List C) (ms:List Es):BR 0 F ds ms=none:=by unfold BR;rw[BQ];rfl
theorem Dl {R:Type} (n:Nat) (F:KD R->List C->List Es->Option R) (ds:List C) (ms:List Es):BR (n+1) F ds ms=F (BR n F) ds ms:=by unfold BR;rw[BQ];rfl
abbrev Hints:=List (List Nat × Hint)
def Mp:Hints->List Nat->Option Hint
 | [],_=>none|(q,h)::l,p=>if q=p then some h else Mp l p
def exJ {R:Type} (h:Option Hint) (s:S) (K:S->Option R) (body:(S->Option R)->Option R):Option R:=
 match h with
 |none=>body K|some h=>Rb (bC h s) fun sh=>jn (fun ds ms=>K (HN sh s.A ds ms)) fun k=>body fun s1=>JT sh s1 k
theorem Um {R:Type} {r:R} {h:Option Hint} {s:S} {K:S->Option R} {body:(S->Option R)->Option R} {P:S->Prop} {G:Prop} (hP:∀s1 s2,P s1->WkA s1 s2->P s2) (hA:∀s1,P s1->s1.A=s.A) (hj:exJ h s K body=some r)
  (hb:∀k:S->Option R,body k=some r->(∃s1,k s1=some r/\P s1)\/G):(∃s2,K s2=some r/\P s2)\/G:=by
 unfold exJ at hj;split at hj;{exact hb _ hj};{rename_i h';rw[ZE,AR]at hj;rcases hb _ hj with⟨s1,h1,h2⟩|hg;{obtain⟨ds,ms,h3,h4⟩:=Qs h1;rw[hA s1 h2]at h4;exact .inl ⟨_,h3,hP _ _ h2 h4⟩};{exact .inr hg}}
def Iw:Code->Option (List Code × Nat × Code)
 | .seq a b=>(match a with| .label l=>some ([],l,b)|a=>(match Iw b with|some x=>some (a::x.1,x.2)|none=>none))|_=>none
def Vr (l:Nat):List Code->Bool
 | []=>true|a::as=>(match findLabel a l with|some _=>false|none=>Vr l as)
theorem oS:∀(c:Code) {as:List Code} {r:Code} {l:Nat},Iw c=some (as,l,r)->Vr l as=true->findLabel c l=some (.seq .skip r)
 | .seq a b,as,r,l,h,hn=>by
  unfold Iw at h;split at h;{cases h;simp[findLabel]}
  ·split at h
   ·rename_i x hx;obtain⟨as',l',r'⟩:=x;cases h;simp only[Vr]at hn;simp only[findLabel];cases ha:findLabel a l with
    |some y=>rw[ha]at hn;cases hn
    |none=>rw[ha]at hn;exact oS b hx hn
   ·cases h
 | .skip,_,_,_,h,_| .region _ _ _,_,_,_,h,_| .cond _ _ _,_,_,_,h,_| .block _ _,_,_,_,h,_| .loop _,_,_,_,h,_| .exit _,_,_,_,h,_| .scope _,_,_,_,h,_| .label _,_,_,_,h,_| .goto _,_,_,_,h,_| .ret,_,_,_,h,_| .rangeFunc _ _ _ _,_,_,_,h,_| .refuse _,_,_,_,h,_=>by simp[Iw]at h
def Uo {R:Type} (run:List Nat->Code->S->KE R->Option R):List Code->List Nat->S->(S->Option R)->KE R->Option R
 | [],_,s,k,_=>k s|a::l,p,s,k,K=>run (0::p) a s fun e s1=>match e with| .normal=>frc s1 fun s1=>Uo run l (1::p) s1 k K|e=>K e s1
def exC {R:Type} (X:Cx) (call:Ei R) (ext:EY) (tbl:Nat->List (Nat × Nat)) (hs:Hints) (N:Nat) (n:Nat):Nat->List Nat->Code->S->KE R->Option R
 |0,_,_,_,_=>none|f+1,p,c,s,K=>match c with
  | .skip=>K .normal s| .region id ops draw=>exJ (Mp hs p) (PD (tbl id) s) (fun s=>K .normal s) fun k=>Yd X call ext (tbl id) n ops.toList draw (PD (tbl id) s) k| .seq a b=>exC X call ext tbl hs N n f (0::p) a s fun e s1=>match e with| .normal=>frc s1 fun s1=>exC X call ext tbl hs N n f (1::p) b s1 K|e=>K e s1
  | .cond (.tmp t) a b=>exJ (Mp hs p) s (fun s=>K .normal s) fun k=>(match s.get t with
    | .d .bool c=>bif c.toBool then exC X call ext tbl hs N n f (2::p) a (s.lit t c true) fun e s1=>(match e with
      | .normal=>k s1|e=>K e s1)else exC X call ext tbl hs N n f (3::p) b (s.lit t c false) fun e s1=>(match e with
      | .normal=>k s1|e=>K e s1)
    |_=>none)
  | .block id a=>exJ (Mp hs p) s (fun s=>K .normal s) fun k=>exC X call ext tbl hs N n f (4::p) a s fun e s1=>match e with| .exit i=>if i=id then k s1 else K (.exit i) s1| .normal=>k s1|e=>K e s1
  | .loop a=>(match Mp hs p with|none=>RO (exC X call ext tbl hs N n f (5::p) a) (slotsOf s.env) f s K|some h=>Rb (bC h s) fun sh=>JT sh s fun ds ms=>BR N (fun rec ds ms=>exC X call ext tbl hs N n f (5::p) a (HN sh s.A ds ms) fun e s1=>match e with| .normal=>JT sh s1 rec|e=>K e s1) ds ms)| .exit id=>K (.exit id) s
  | .scope a=>(match Mp hs p with
    |none=>exC X call ext tbl hs N n f (6::p) a s fun e s1=>match e with| .goto _=>none|e=>K e s1
    |some h=>(match Iw a with
     |some (as,l,rest)=>if Vr l as=true then Uo (exC X call ext tbl hs N n f) as (6::p) s
       (fun s1=>Rb (bC h s1) fun sh=>JT sh s1 fun ds ms=>BR N (fun rec ds ms=>exC X call ext tbl hs N n f (7::p) rest (HN sh s1.A ds ms) fun e s2=>match e with| .goto l'=>if l'=l then JT sh s2 rec else none|e=>K e s2) ds ms)
       (fun e s1=>match e with| .goto _=>none|e=>K e s1)else none
     |none=>none))
  | .label _=>K .normal s| .goto l=>K (.goto l) s| .ret=>K .ret s|_=>none
def Way (X:Cx) (n:Nat) (c:Code) (s:S) (e:Exit) (s':S):Prop:=
 s'.A=s.A/\∀A',leA s.A A'->∀Ψ:Exit->S->Prop,Ψ e (s'.wA A')->DC X n c (s.wA A') Ψ
theorem Way.MH {X:Cx} {n:Nat} {c:Code} {s s1 s2:S} {e:Exit} (h:Way X n c s e s1) (hw:WkA s1 s2):Way X n c s e s2:=by refine⟨hw.1.trans h.1,fun A' hA Ψ hΨ=>?_⟩;refine(h.2 A' hA (fun e1 s3=>e1=e/\s3=s1.wA A') ⟨rfl,rfl⟩).post ?_;rintro e1 s3 ⟨rfl,rfl⟩;exact⟨_,hw.2 X n A' (by rw[h.1];exact hA),hΨ⟩
section
variable {X:Cx} {R:Type} {call:Ei R} {ext:EY} (hP:BS X.P=true) (hmo:X.P.follows .mixedOrders=true) (hc:JM X call) (he:Ig X ext)
theorem rW {c:Code} {n:Nat} {sh:SSh} {A0:Key->Option O} {body:S->KE R->Option R} {K:KE R} {r:R} (hb:∀s (K:KE R),body s K=some r->MK X n c s r K):
  ∀(N:Nat) (ds:List C) (ms:List Es),BR N (fun rec ds ms=>body (HN sh A0 ds ms) fun e s1=>match e with| .normal=>JT sh s1 rec|e=>K e s1) ds ms=some r->∃e s',K e s'=some r/\s'.A=A0/\∀A',leA A0 A'->∀Ψ:Exit->S->Prop,Ψ e (s'.wA A')->∀(Γ0:G) (a:Act) (w:World),At X n Γ0 ((HN sh A0 ds ms).wA A') a w->Code.rounds X.P c (fun e a w=>∃s',Ψ e s'/\At X n Γ0 s' a w) N a w
 |0,ds,ms,h=>by simp[rY]at h
 |N+1,ds,ms,h=>by
  simp only[Dl]at h;obtain⟨e0,s1,h1,hA1,hD⟩:=hb _ _ h;have z8O:∀(hne:e0≠.normal),K e0 s1=some r->∃e s',K e s'=some r/\s'.A=A0/\∀A',leA A0 A'->∀Ψ:Exit->S->Prop,Ψ e (s'.wA A')->∀(Γ0:G) (a:Act) (w:World),At X n Γ0 ((HN sh A0 ds ms).wA A') a w->Code.rounds X.P c (fun e a w=>∃s',Ψ e s'/\At X n Γ0 s' a w) (N+1) a w:=by
   intro hne h1;refine⟨e0,s1,h1,hA1,fun A' hA Ψ hΨ Γ0 a w hat=>?_⟩;rw[rounds_succ];refine wp_mono (hD A' hA (fun e1 s2=>e1=e0/\s2=s1.wA A') ⟨rfl,rfl⟩ Γ0 a w hat) ?_;rintro e1 a1 w1 ⟨s2,⟨rfl,rfl⟩,z8x⟩;cases e1 with
   |normal=>exact absurd rfl hne|exit _|goto _|ret|panic _|outgrown=>exact⟨_,hΨ,z8x⟩
  cases e0 with
  |normal=>
   obtain⟨ds',ms',h3,hw⟩:=Qs h1;rw[show s1.A=A0 from hA1]at hw;obtain⟨e,s',h4,h5,h6⟩:=rW hb N ds' ms' h3;refine⟨e,s',h4,h5,fun A' hA Ψ hΨ Γ0 a w hat=>?_⟩;rw[rounds_succ];refine wp_mono (hD A' hA (fun e1 s2=>e1= .normal/\s2=s1.wA A') ⟨rfl,rfl⟩ Γ0 a w hat) ?_;rintro e1 a1 w1 ⟨s2,⟨rfl,rfl⟩,z8x⟩;exact h6 A' hA Ψ hΨ Γ0 a1 w1 (hw.2 X n A' (by rw[show s1.A=A0 from hA1];exact hA) Γ0 a1 w1 z8x)
  |exit _|goto _|ret|panic _|outgrown=>exact z8O (by simp) h1
theorem mV {n:Nat} {r:R} {run:List Nat->Code->S->KE R->Option R} (zc:∀p c s (K:KE R),run p c s K=some r->MK X n c s r K):∀(as:List Code) (p:List Nat) (s:S) (k:S->Option R) (K:KE R),Uo run as p s k K=some r->
  (∃s1,k s1=some r/\s1.A=s.A/\∀c l rest,Iw c=some (as,l,rest)->∀A',leA s.A A'->∀Ψ:Exit->S->Prop,DC X n rest (s1.wA A') Ψ->DC X n c (s.wA A') Ψ)\/
  (∃e s1,e≠.normal/\K e s1=some r/\s1.A=s.A/\∀c l rest,Iw c=some (as,l,rest)->∀A',leA s.A A'->∀Ψ:Exit->S->Prop,Ψ e (s1.wA A')->DC X n c (s.wA A') Ψ)
 | [],p,s,k,K,h=>by refine .inl ⟨s,h,rfl,fun c l rest hc A' hA Ψ hd=>?_⟩;cases c <;> simp only[Iw,reduceCtorEq]at hc;rename_i a b;split at hc;{cases hc;exact CX (kQ hd)};{split at hc;{cases hc};{cases hc}}
 |a::as,p,s,k,K,h=>by
  simp only[Uo]at h;obtain⟨e,s1,h1,a1,J⟩:=zc _ _ _ _ h;have inv:∀c l rest,Iw c=some (a::as,l,rest)->∃b,c= .seq a b/\Iw b=some (as,l,rest):=by intro c l rest hc;cases c <;> simp only[Iw,reduceCtorEq]at hc;split at hc;{cases hc};{split at hc;{rename_i x hx;obtain⟨x1,x2⟩:=x;cases hc;exact⟨_,rfl,hx⟩};{cases hc}}
  cases e with
  |normal=>
   rcases mV zc as (1::p) s1 k K (by dsimp only at h1;rw[ZI]at h1;exact h1)with⟨s2,h2,a2,I⟩|⟨e,s2,hne,h2,a2,I⟩;{refine .inl ⟨s2,h2,a2.trans a1,fun c l rest hc A' hA Ψ hd=>?_⟩;obtain⟨b,rfl,hb⟩:=inv c l rest hc;exact CX (J A' hA _ (I b l rest hb A' (by rw[a1];exact hA) Ψ hd))};{refine .inr ⟨e,s2,hne,h2,a2.trans a1,fun c l rest hc A' hA Ψ hd=>?_⟩;obtain⟨b,rfl,hb⟩:=inv c l rest hc;exact CX (J A' hA _ (I b l rest hb A' (by rw[a1];exact hA) Ψ hd))}
  |exit _|goto _|ret|panic _|outgrown=>
   refine .inr ⟨_,s1,by simp,h1,a1,fun c l rest hc A' hA Ψ hd=>?_⟩;obtain⟨b,rfl,hb⟩:=inv c l rest hc;exact CX (J A' hA _ hd)
def Ends (X:Cx) (n:Nat) (l:Nat) (rest:Code) (sh:SSh) (A0:Key->Option O) (e:Exit) (s':S):Nat->List C->List Es->Prop
 |0,_,_=>False|m+1,ds,ms=>∃e2 s2,Way X n rest (HN sh A0 ds ms) e2 s2/\((e2= .goto l/\∃ds' ms',WkA s2 (HN sh A0 ds' ms')/\Ends X n l rest sh A0 e s' m ds' ms')\/((∀l',e2≠.goto l')/\e2=e/\s2=s'))
theorem yE {n l:Nat} {rest:Code} {sh:SSh} {A0:Key->Option O} {body:S->KE R->Option R} {K:KE R} {r:R} (hb:∀s (K:KE R),body s K=some r->MK X n rest s r K):
  ∀(N:Nat) (ds:List C) (ms:List Es),BR N (fun rec ds ms=>body (HN sh A0 ds ms) fun e s2=>match e with| .goto l'=>if l'=l then JT sh s2 rec else none|e=>K e s2) ds ms=some r->∃e s',K e s'=some r/\s'.A=A0/\(∀l',e≠.goto l')/\Ends X n l rest sh A0 e s' N ds ms
 |0,ds,ms,h=>by simp[rY]at h
 |N+1,ds,ms,h=>by
  rw[Dl]at h;obtain⟨e0,s1,h1,a1,J⟩:=hb _ _ h;have a1:s1.A=A0:=a1;cases e0 with
  |goto l'=>
   dsimp only at h1;by_cases hl:l'=l;{rw[if_pos hl]at h1;subst hl;obtain⟨ds',ms',h2,hw⟩:=Qs h1;rw[a1]at hw;obtain⟨e,s',h3,h4,h5,h6⟩:=yE hb N ds' ms' h2;exact⟨e,s',h3,h4,h5,_,s1,⟨a1,J⟩,.inl ⟨rfl,ds',ms',hw,h6⟩⟩};{rw[if_neg hl]at h1;cases h1}
  |normal|exit _|ret|panic _|outgrown=>
   exact⟨_,s1,h1,a1,by simp,_,s1,⟨a1,J⟩,.inr ⟨by simp,rfl,rfl⟩⟩
theorem q8F {n l:Nat} {c rest:Code} {sh:SSh} {A0:Key->Option O} {e:Exit} {s':S} (hf:findLabel c l=some (.seq .skip rest)) {N:Nat} {ds:List C} {ms:List Es} (hE:Ends X n l rest sh A0 e s' N ds ms) {A':Key->Option O} (hA:leA A0 A') {s0:S}
  (first:∀Ψ:Exit->S->Prop,DC X n rest ((HN sh A0 ds ms).wA A') Ψ->DC X n c s0 Ψ) {Ψ:Exit->S->Prop} (hΨ:Ψ e (s'.wA A')):DC X n (.scope c) s0 Ψ:=by
 have pass:∀i:{x:Nat × List C × List Es // Ends X n l rest sh A0 e s' x.1 x.2.1 x.2.2},DC X n rest ((HN sh A0 i.1.2.1 i.1.2.2).wA A') fun e2 s2=>match e2 with| .goto l'=>l'=l/\∃j:{x:Nat × List C × List Es // Ends X n l rest sh A0 e s' x.1 x.2.1 x.2.2},EI X n s2 ((HN sh A0 j.1.2.1 j.1.2.2).wA A')/\j.1.1<i.1.1|e2=>Ψ e2 s2:=by
  rintro⟨⟨m,ds,ms⟩,h⟩;cases m with
  |zero=>exact h.elim|succ m=>
   obtain⟨e2,s2,hw,h1⟩:=h;refine hw.2 A' hA _ ?_;rcases h1 with⟨rfl,ds',ms',hwk,hE'⟩|⟨hne,rfl,rfl⟩;{exact⟨rfl,⟨⟨m,ds',ms'⟩,hE'⟩,hwk.2 X n A' (by rw[hw.1];exact hA),Nat.lt_succ_self m⟩};{cases e2 with|goto l'=>exact absurd rfl (hne l')|normal|exit _|ret|panic _|outgrown=>exact hΨ}
 refine q0B l hf (fun i=>(HN sh A0 i.1.2.1 i.1.2.2).wA A') (fun i=>i.1.1) ?_ (fun i=>CX (Gq (pass i)));refine first _ ((pass ⟨⟨N,ds,ms⟩,hE⟩).post ?_)
 intro e2 s2 h;refine⟨s2,EI.refl _,?_⟩;cases e2 with
 |goto l'=>exact⟨h.1,h.2.choose,h.2.choose_spec.1⟩|normal|exit _|ret|panic _|outgrown=>exact h
include hP hmo hc he
theorem mU {tbl:Nat->List (Nat × Nat)} {hs:Hints} {N n:Nat} {r:R}:∀(f:Nat) (p:List Nat) (c:Code) (s:S) (K:KE R),exC X call ext tbl hs N n f p c s K=some r->MK X n c s r K
 |0,p,c,s,K,h=>by simp[exC]at h
 |f+1,p,c,s,K,h=>by
  have IH:=mU (tbl:=tbl) (hs:=hs) (N:=N) (n:=n) (r:=r) f;cases c with
  |skip=>exact⟨_,_,h,rfl,fun A' hA Ψ hΨ=>Gq hΨ⟩|region id ops draw=>
   simp only[exC]at h;have hw:=RY (tbl id) s;have:=Um (P:=fun s1=>Way X n (.region id ops draw) (PD (tbl id) s) .normal s1) (G:=False) (fun s1 s2 h1 h2=>h1.MH h2) (fun s1 h=>h.1) h fun k hk=>by obtain⟨s',h1,h2,h3⟩:=q1w hP hmo hc he (id:=id) hk;refine .inl ⟨s',h1,h2,fun A' hA Ψ hΨ=>?_⟩;have:=h3 A' hA Ψ hΨ;simpa using this
   rcases this with⟨s2,h1,h2⟩|h;{exact⟨_,s2,h1,h2.1.trans hw.1,fun A' hA Ψ hΨ=>DC.MH (hw.2 X n A' hA) (h2.2 A' (by rw[hw.1];exact hA) Ψ hΨ)⟩};{exact h.elim}
  |seq c1 c2=>
   simp only[exC]at h;obtain⟨e0,s1,h1,a1,J⟩:=IH _ c1 s _ h;cases e0 with
   |normal=>
    obtain⟨e2,s2,h2,a2,I⟩:=IH (1::p) c2 s1 K (by dsimp only at h1;rw[ZI]at h1;exact h1);exact⟨e2,s2,h2,a2.trans a1,fun A' hA Ψ hΨ=>CX (J A' hA _ (I A' (by rw[a1];exact hA) Ψ hΨ))⟩
   |exit _|goto _|ret|panic _|outgrown=>exact⟨_,s1,h1,a1,fun A' hA Ψ hΨ=>CX (J A' hA _ hΨ)⟩
  |cond t c1 c2=>
   cases t with
   |tmp t=>
    simp only[exC]at h;have:=Um (P:=fun s1=>Way X n (.cond (.tmp t) c1 c2) s .normal s1) (G:=MK X n (.cond (.tmp t) c1 c2) s r K) (fun s1 s2 h1 h2=>h1.MH h2) (fun s1 h=>h.1) h fun k hk=>by
     split at hk
     ·rename_i v hv;cases hb:v.toBool with
      |true=>
       rw[hb]at hk;simp only[cond_true]at hk;rw[Zw hv hb]at hk;obtain⟨e2,s2,h2,a2,I⟩:=IH _ c1 s _ hk;have w2:Way X n (.cond (.tmp t) c1 c2) s e2 s2:=⟨a2,fun A' hA Ψ hΨ=>kP hv (fun _=>I A' hA Ψ hΨ) (fun h=>by rw[hb]at h;cases h)⟩;cases e2 with
       |normal=>exact .inl ⟨s2,h2,w2⟩|exit _|goto _|ret|panic _|outgrown=>exact .inr ⟨_,s2,h2,w2⟩
      |false=>
       rw[hb]at hk;simp only[cond_false]at hk;rw[Zw hv hb]at hk;obtain⟨e2,s2,h2,a2,I⟩:=IH _ c2 s _ hk;have w2:Way X n (.cond (.tmp t) c1 c2) s e2 s2:=⟨a2,fun A' hA Ψ hΨ=>kP hv (fun h=>by rw[hb]at h;cases h) (fun _=>I A' hA Ψ hΨ)⟩;cases e2 with
       |normal=>exact .inl ⟨s2,h2,w2⟩|exit _|goto _|ret|panic _|outgrown=>exact .inr ⟨_,s2,h2,w2⟩
     ·cases hk
    rcases this with⟨s2,h1,h2⟩|h;{exact⟨_,s2,h1,h2⟩};{exact h}
   |const _|global _|func _=>simp[exC]at h
  |block id c1=>
   simp only[exC]at h;have:=Um (P:=fun s1=>Way X n (.block id c1) s .normal s1) (G:=MK X n (.block id c1) s r K) (fun s1 s2 h1 h2=>h1.MH h2) (fun s1 h=>h.1) h fun k hk=>by
    obtain⟨e0,s1,h1,a1,J⟩:=IH _ c1 s _ hk;cases e0 with
    |exit i=>
     dsimp only at h1;by_cases hi:i=id;{rw[if_pos hi]at h1;refine .inl ⟨s1,h1,a1,fun A' hA Ψ hΨ=>UU (J A' hA _ ?_)⟩;simp only;rw[if_pos hi];exact hΨ};{rw[if_neg hi]at h1;refine .inr ⟨_,s1,h1,a1,fun A' hA Ψ hΨ=>UU (J A' hA _ ?_)⟩;simp only;rw[if_neg hi];exact hΨ}
    |normal=>exact .inl ⟨s1,h1,a1,fun A' hA Ψ hΨ=>UU (J A' hA _ hΨ)⟩|goto _|ret|panic _|outgrown=>exact .inr ⟨_,s1,h1,a1,fun A' hA Ψ hΨ=>UU (J A' hA _ hΨ)⟩
   rcases this with⟨s2,h1,h2⟩|h;{exact⟨_,s2,h1,h2⟩};{exact h}
  |loop c1=>
   simp only[exC]at h;split at h;{obtain⟨e,s',h1,h2,h3⟩:=lT (fun s K h=>IH _ c1 s K h) f s K h;exact⟨e,s',h1,h2,fun A' hA Ψ hΨ Γ0 a w hat=>wp_loop_rounds f (h3 A' hA Ψ hΨ Γ0 a w hat)⟩};{rename_i hh;rw[ZE]at h;obtain⟨ds,ms,h1,hw⟩:=Qs h;obtain⟨e,s',h4,h5,h6⟩:=rW (c:=c1) (body:=exC X call ext tbl hs N n f (5::p) c1) (fun s K h=>IH _ c1 s K h) N ds ms h1;exact⟨e,s',h4,h5,fun A' hA Ψ hΨ Γ0 a w hat=>wp_loop_rounds N (h6 A' hA Ψ hΨ Γ0 a w (hw.2 X n A' hA Γ0 a w hat))⟩}
  |exit id=>exact⟨_,_,h,rfl,fun A' hA Ψ hΨ=>q0z hΨ⟩|scope c1=>
   simp only[exC]at h;split at h
   ·obtain⟨e0,s1,h1,a1,J⟩:=IH _ c1 s _ h;cases e0 with
    |goto i=>cases h1
    |normal|exit _|ret|panic _|outgrown=>exact⟨_,s1,h1,a1,fun A' hA Ψ hΨ=>kS (J A' hA _ hΨ)⟩
   ·rename_i hh _;split at h
    ·rename_i as l rest hd;simp only[az]at h;obtain⟨hnl,h⟩:=h;rcases mV (fun p c s K h=>IH p c s K h) as _ s _ _ h with⟨s1,h1,a1,J⟩|⟨e,s1,hne,h1,a1,J⟩;{rw[ZE]at h1;obtain⟨ds,ms,h2,hw⟩:=Qs h1;obtain⟨e,s',h3,h4,h5,h6⟩:=yE (rest:=rest) (body:=exC X call ext tbl hs N n f (7::p) rest) (fun s K h=>IH _ rest s K h) N ds ms h2;refine⟨e,s',h3,h4.trans a1,fun A' hA Ψ hΨ=>?_⟩;exact q8F (oS _ hd hnl) h6 (by rw[a1];exact hA) (fun Ψ' hd'=>J c1 l rest hd A' hA Ψ' (DC.MH (hw.2 X n A' (by rw[a1];exact hA)) hd')) hΨ}
     ·cases e with
      |goto i=>cases h1
      |normal|exit _|ret|panic _|outgrown=>exact⟨_,s1,h1,a1,fun A' hA Ψ hΨ=>kS (J c1 l rest hd A' hA _ hΨ)⟩
    ·cases h
  |label _=>exact⟨_,_,h,rfl,fun A' hA Ψ hΨ=>kQ hΨ⟩|goto _=>exact⟨_,_,h,rfl,fun A' hA Ψ hΨ=>q0A hΨ⟩|ret=>exact⟨_,_,h,rfl,fun A' hA Ψ hΨ=>FU hΨ⟩|rangeFunc _ _ _ _=>simp[exC]at h|refuse _=>simp[exC]at h
end
def exF {R:Type} (X:Cx) (ov:OvK R) (ext:EY) (tbl:FuncId->Nat->List (Nat × Nat)) (hs:FuncId->Hints) (N fuel:Nat):Nat->Ei R
 |0,_,_,_,_=>none|d+1,f,xs,A,K=>match ov f with
  |some g=>g xs A K|none=>(match X.P.funcs[f]? with|some fn=>(match fn.body with|some c=>if xs.length<=fn.ntmps then exJ (Mp (hs f) [9]) (mb xs A) (fun s=>lV X fn s K) fun k=>exC X (exF X ov ext tbl hs N fuel d) ext (tbl f) (hs f) N fn.ntmps fuel [] c (nbS (mb xs A)) fun e s=>(match e with| .normal=>k s| .ret=>k s|_=>none)else none|none=>none)|none=>none)
section
variable {X:Cx} {R:Type} {ov:OvK R} {ext:EY} (hP:BS X.P=true) (hmo:X.P.follows .mixedOrders=true) (hov:Xd X ov) (he:Ig X ext)
include hP hmo hov he
theorem Ul {tbl:FuncId->Nat->List (Nat × Nat)} {hs:FuncId->Hints} {N fuel:Nat}:∀d,JM X (exF X ov ext tbl hs N fuel d)
 |0=>by intro f xs A K r h;simp[exF]at h
 |d+1=>by
  intro f xs A K r h;simp only[exF]at h;split at h;{rename_i g hg;exact hov f g hg xs A K r h};split at h
  ·rename_i fn hf;split at h
   ·rename_i c hb;simp only[az]at h;obtain⟨hl,h⟩:=h;have:=Um (P:=fun s1=>∃e:Exit,(e= .normal\/e= .ret)/\Way X fn.ntmps c (mb xs A) e s1) (G:=False) (fun s1 s2 ⟨e,h1,h2⟩ h3=>⟨e,h1,h2.MH h3⟩) (fun s1 ⟨e,_,h⟩=>h.1) h fun k hk=>by
     obtain⟨e,s',h1,h2⟩:=mU hP hmo (Ul d) he fuel [] c (nbS (mb xs A)) _ hk;have h2:Way X fn.ntmps c (mb xs A) e s':=⟨h2.1,fun A' hA Ψ hΨ=>DC.MH ((sQ (mb xs A)).2 X fn.ntmps A' hA) (h2.2 A' hA Ψ hΨ)⟩;cases e with
     |normal=>exact .inl ⟨s',h1,_,.inl rfl,h2⟩|ret=>exact .inl ⟨s',h1,_,.inr rfl,h2⟩|exit _|goto _|panic _|outgrown=>cases h1
    rcases this with⟨s',h1,e,he',h2,h3⟩|h;{obtain⟨v,L,h4,h5⟩:=q1x h1;refine⟨v,L,Jx hP hf hb rfl hl fun A' hA=>?_,h4⟩;exact h3 A' hA (fun e s'=>(e= .normal\/e= .ret)/\Ez X fn A' v L s') ⟨he',h5 A' (by rw[h2];exact hA)⟩};{exact h.elim}
   ·cases h
  ·cases h
end
end
def Ic (a b k:Key):Key:=if k=a then b else if k=b then a else k
theorem QV (a b k:Key):Ic a b (Ic a b k)=k:=by unfold Ic;by_cases h1:k=a;{subst h1;rw[if_pos rfl];by_cases h2:b=k;{rw[if_pos h2];exact h2};{rw[if_neg h2,if_pos rfl]}};{rw[if_neg h1];by_cases h2:k=b;{subst h2;rw[if_pos rfl,if_pos rfl]};{rw[if_neg h2,if_neg h1,if_neg h2]}}
def swU (a b:Key):Key->Key
 | .g k=>.g (Ic a b k)| .l n=>.l n
theorem Jn (a b k:Key):swU a b (swU a b k)=k:=by cases k <;> simp[swU,QV]
def Tip.dP (ρ:Key->Key):Tip->Tip
 | .tok t=>.tok t| .home k p=>.home (ρ k) p
def G.perm (Γ:G) (ρ:Key->Key):G:={Γ with ι:=fun k=>Γ.ι (ρ k),κ:=fun b=>(Γ.κ b).map fun p=>(p.1.dP ρ,p.2)}
def GJ (a b:Key) (A:Key->Option O):Key->Option O:=fun k=>(A (Ic a b k)).map (xv (swU a b))
theorem q55 (a b:Key) (A:Key->Option O):GJ a b (GJ a b A)=A:=by
 funext k;unfold GJ;rw[QV];cases A k with
 |none=>rfl|some o=>simp[O.Ka _ _ (Jn a b)]
def Po (a b:Key) (L:List (Key × O)):List (Key × O):=L.map fun p=>(swU a b p.1,p.2.ren (swU a b))
theorem rR (a b:Key):∀(L:List (Key × O)) (k:Key),AZ (Po a b L) k=(AZ L (swU a b k)).map (xv (swU a b))
 | [],_=>rfl|(j,o)::L,k=>by
  show(if swU a b j=k then some (o.ren (swU a b))else AZ (Po a b L) k)=(if j=swU a b k then some o else AZ L (swU a b k)).map (xv (swU a b));by_cases h:j=swU a b k
  ·have:swU a b j=k:=by rw[h,Jn]
   rw[if_pos this,if_pos h];rfl
  ·have:swU a b j≠k:=fun e=>h (by rw[<-e,Jn]);rw[if_neg this,if_neg h];exact rR a b L k
theorem AY.perm {Γ:G} {w:World} {s s':S} {ρ:Key->Key} (c:AY Γ w s) (hρ:∀k,ρ (ρ k)=k) (ho:∀k,s'.obj k=(s.obj (ρ k)).map (xv ρ)) (hl:∀t,s'.live t=s.live t) (hk:∀t,s.known t=true->s'.known t=true):AY (Γ.perm ρ) w s':=by
 have pr:∀hm,HH Γ (Γ.perm ρ) ρ hm:=fun hm=>⟨gy _,fun k x h=>by simp[G.perm,hρ,h],fun _ _ h=>h,fun k b p sz _ h=>⟨by simp[G.perm,h,Tip.dP],rfl⟩⟩;have hd:∀k,s.CY (ρ k)=true->s'.CY k=true:=fun k h=>by
  unfold S.CY at h ⊢;rw[ho];cases hs:s.obj (ρ k)with
  |none=>rw[hs]at h;cases h
  |some o=>rw[hs]at h;simpa[Oa,O.Sz]using h
 refine⟨c.hH,c.hZ,fun b o sz h=>?_,fun k o h=>?_,fun k h=>?_,fun k k' b τ τ' h1 h2=>?_,fun t L h=>?_,fun t ht=>hk t (c.yu t ht),c.hgl,c.hoo,c.hσ⟩
 ·cases hb:Γ.κ b with
  |none=>simp[G.perm,hb]at h|some p=>
   obtain⟨t,sz'⟩:=p;simp[G.perm,hb]at h;obtain⟨rfl,rfl⟩:=h;obtain⟨a1,a2,arr,T,a3,a4,a5⟩:=c.hκ b t sz' hb;exact⟨a1,a2,arr,T,a3,a4,by cases t with|tok=>trivial|home _ p=>cases p <;> exact a5⟩
 ·rw[ho]at h;cases hs:s.obj (ρ k)with
  |none=>rw[hs]at h;cases h
  |some o0=>
   rw[hs]at h;cases h;refine(c.obj (ρ k) o0 hs).imp (fun h=>⟨h.1,O.XR h.2⟩) fun yp=>?_
   have:=Own.ren (pr _) (w':=w) (fun hd b τ hb=>by
    obtain⟨e1,e2,_⟩:=c.FR hb hs hd;exact⟨rfl,e1,e2⟩) (Nat.le_refl _) yp
   rw[hρ]at this;exact this
 ·rw[ho];have:=c.dom (ρ k) h;cases hs:s.obj (ρ k)with|none=>exact absurd hs this|some o=>simp
 ·refine(c.inj (ρ k) (ρ k') b τ τ' h1 h2).imp (fun e=>by rw[<-hρ k,e,hρ]) (And.imp (Or.imp (hd k) (hd k')) id)
 ·rw[hl]at h;obtain⟨x,h1,h2⟩:=c.tok t L h;refine⟨x,h1,fun b pos sz hx=>?_⟩;obtain⟨h3,h4⟩:=h2 b pos sz hx;exact⟨h3,by simp[G.perm,h4,Tip.dP]⟩
def DR (a b:Key) (x:V):V:=x.ren (swU a b) id
theorem dQ (a b:Key) (x:V):DR a b (DR a b x)=x:=V.Ka _ _ (Jn a b) x
theorem q75 (a b:Key) (n:Nat) (x:V):(DR a b x).EH n=x.EH n:=by cases x <;> simp[DR,sn,V.EH]
theorem q73 (a b:Key) (n:Nat) (x:V):(DR a b x).slot n=DR a b (x.slot n):=by cases x <;> simp[DR,sn,V.slot]
theorem XI (a b:Key):∀(n:Nat) (xs:List V),Gk n (xs.map (DR a b))=Gk n xs
 |_,[]=>rfl|n,x::xs=>by simp only[dt,Gk,q75,XI a b (n+1) xs]
theorem fC (a b:Key):∀(n:Nat) (xs:List V),Db n (xs.map (DR a b))=(Db n xs).map (DR a b)
 |_,[]=>rfl|n,x::xs=>by simp only[dt,Db,q73,fC a b (n+1) xs]
theorem wV (a b:Key):∀(xs:List V),V.Dt (swU a b) id xs=xs.map (DR a b)
 | []=>rfl|x::xs=>by simp only[V.Dt,dt,wV a b xs];rfl
theorem dR (a b:Key) (xs:List V):DR a b (.tup xs)= .tup (xs.map (DR a b)):=by simp only[DR,sn,wV]
theorem q74 (a b:Key) (n:Nat) (x:V):(DR a b x).Da n=DR a b (x.Da n):=by
 cases x with
 |tup xs=>rw[dR];simp only[V.Da];rw[fC,dR]|ye=>rfl|d|sl|ts|emp|ptr|yf|sr|mp|agg|fn|top|any=>simp[DR,sn,V.Da,V.slot]
theorem wT (a b:Key) (n:Nat) (x:V):(DR a b x).tkR n=x.tkR n:=by
 cases x with
 |tup xs=>rw[dR];simp only[V.tkR];exact XI a b n xs|ye=>rfl|d|sl|ts|emp|ptr|yf|sr|mp|agg|fn|top|any=>simp[DR,sn,V.tkR,V.EH]
theorem O.q5M (a b:Key) {o:O} (h:o.ok CQ CQ=true):(o.ren (swU a b)).ok CQ CQ=true:=by
 have key:(∀x:V,x.ok CQ CQ=true->(x.ren (swU a b) id).ok CQ CQ=true):=by
  intro x
  induction x using V.rec (motive_2:=fun xs=>V.oks CQ CQ xs=true->V.oks CQ CQ (V.Dt (swU a b) id xs)=true)with
  |ptr k q τ=>intro h;cases k <;> simp[V.ok,sn,swU,CQ]at h ⊢
  |sr k q lo n cp eb e=>intro h;cases k <;> simp[V.ok,sn,swU,CQ]at h ⊢
  |mp k=>intro h;cases k <;> simp[V.ok,sn,swU,CQ]at h ⊢
  |sl=>intro h;simp[V.ok,CQ]at h|agg τ vs ih=>intro h;simp only[V.ok,sn]at h ⊢;exact ih h|fn f vs ih=>intro h;simp only[V.ok,sn]at h ⊢;exact ih h|tup vs ih=>intro h;simp only[V.ok,sn]at h ⊢;exact ih h|nil=>simp only[V.Dt,V.oks]|cons x xs ih1 ih2 h=>
   simp only[V.oks,bg]at h;simp only[V.Dt,V.oks,bg];exact⟨ih1 h.1,ih2 h.2⟩
  |_=>intro _;simp only[sn,V.ok]
 cases o with
 |box x=>exact key x h|map kτ vτ es=>
  simp only[xv,O.ok]at h ⊢;cases vτ.FG
  case true=>exact h
  simp only[cond_false]
  induction es with
  |nil=>rfl|cons c es ih=>
   simp only[V.Ds,bg]at h;simp only[dt,V.Ds,bg];exact⟨key _ h.1,ih h.2⟩
 |it=>rfl|dead=>rfl
theorem Cc.swap {X:Cx} {f:FuncId} {xs:List V} {A:Key->Option O} {v:V} {L:List (Key × O)} (a b:Key) (D:Cc X f xs A v L):
  Cc X f (xs.map (DR a b)) (GJ a b A) (DR a b v) (Po a b L):=by
 intro A' Γ w args hA hgl ⟨c,hok⟩ hlen hr;have hxs:(xs.map (DR a b)).map (DR a b)=xs:=by rw[px];exact(pw (g:=id) fun x _=>dQ a b x).trans (List.map_id _)
 have hA':∀k o,A k=some o->GJ a b A' k=some o:=by
  intro k o h;have h1:GJ a b A (Ic a b k)=some (o.ren (swU a b)):=by simp[GJ,QV,h]
  have h2:=hA _ _ h1;simp[GJ,h2,O.Ka _ _ (Jn a b)]
 have yi:∀k,S.obj (mb xs (GJ a b A')) k=(S.obj (mb (xs.map (DR a b)) A') (swU a b k)).map (xv (swU a b)):=by
  intro k;cases k with
  |l n=>rfl|g k=>simp[mb,S.obj,Cs,AZ,swU,GJ]
 have c1:=c.perm (s':=mb xs (GJ a b A')) (Jn a b) yi (fun t=>by simp only[mb,S.live,XI]) (fun t h=>by simpa only[mb,S.known,XI]using h);have y0I:AOk (GJ a b A'):=by
  intro k o h;unfold GJ at h;cases hk:A' (Ic a b k)with
  |none=>rw[hk]at h;cases h
  |some o0=>rw[hk]at h;cases h;exact O.q5M a b (hok _ _ hk)
 have pr:HH Γ (Γ.perm (swU a b)) (swU a b) none:=⟨gy _,fun k x h=>by simp[G.perm,Jn,h],fun _ _ h=>h,fun k _ _ _ h=>by cases h⟩;refine(D (GJ a b A') (Γ.perm (swU a b)) w args hA' hgl ⟨c1,y0I⟩ (by simpa using hlen) fun i x u hx hu=>?_).mono ?_
 ·have h1:(Db 1000 (xs.map (DR a b)))[i]? =some (DR a b x):=by rw[fC,List.getElem?_map,hx];rfl
  have:=(hr i _ u h1 hu).ren (θ:=id) pr (fun _ _ h=>h);have e:sn (swU a b) id (DR a b x)=x:=dQ a b x
  rwa [e]at this
 ·rintro e w' ⟨u,Γ',rfl,gle,c',hu⟩;have z8z:∀k,S.obj (S.fin (DR a b v) (Po a b L) A') k=(S.obj (S.fin v L (GJ a b A')) (swU a b k)).map (xv (swU a b)):=by
   intro k;simp only[S.fin,S.obj,Cs,rR];cases hl:AZ L (swU a b k)with
   |some o=>rfl|none=>
    cases k with
    |l n=>rfl|g k=>
     simp only[Option.map_none,swU,GJ,QV];cases A' k with
     |none=>rfl|some o=>simp[O.Ka _ _ (Jn a b)]
  have c2:=c'.perm (s':=S.fin (DR a b v) (Po a b L) A') (Jn a b) z8z (fun t=>by simp only[S.fin,S.live,wT]) (fun t h=>by simpa only[S.fin,S.known,wT]using h);have pr':HH Γ' (Γ'.perm (swU a b)) (swU a b) none:=⟨gy _,fun k x h=>by simp[G.perm,Jn,h],fun _ _ h=>h,fun k _ _ _ h=>by cases h⟩;refine⟨u,Γ'.perm (swU a b),rfl,⟨gle.H,gle.Z,gle.ZH,fun k x h=>?_,gle.gl,gle.oo,gle.σ,fun k h=>?_⟩,c2,?_⟩;{refine gle.g (Ic a b k) x ?_;show Γ.ι (swU a b (.g (Ic a b k)))=some x;simp[swU,QV,h]};{refine gle.gn (Ic a b k) ?_;show Γ.ι (swU a b (.g (Ic a b k)))=none;simp[swU,QV,h]};{rw[q74];exact hu.ren (θ:=id) pr' (fun _ _ h=>h)}
mutual
def Sh.fit {R:Type}:Sh->V->(List C->Option R)->Option R
 | .d τ,x,K=>(match x with| .d τ' c=>if τ'=τ then K [c]else none|_=>none)| .sl _ _ _,_,_=>none| .ts eb e,x,K=>(match x with| .ts eb' e' cs=>if eb'=eb/\e'=e then K [.slice cs]else none|_=>none)| .sr k q cp eb e,x,K=>(match x with| .sr k' q' lo n cp' eb' e'=>if k'=k/\q'=q/\eb'=eb/\e'=e then(match cp,cp' with|false,none=>K [.int lo,.int n]|true,some c=>K [.int lo,.int n,.int c]|_,_=>none)else none|_=>none)| .yf τ,x,K=>(match x with| .yf τ' c=>if τ'=τ then K [c]else none|_=>none)| .arr e,x,K=>(match x with| .d (.arr n e') c=>if e'=e then(if n=c.elems.length then K [c]else none)else none|_=>none)| .agg τ l,x,K=>(match x with| .agg τ' vs=>if τ'=τ then Sh.fits l vs K else none|_=>none)| .as v,x,K=>if V.same x v=true then K []else none| .vec k eb e,x,K=>(match x with| .sr k' q' lo n cp' eb' e'=>if k'=k/\q'=[]/\lo=0/\cp'.isNone=true/\eb'=eb/\e'=e then K [.int n]else none|_=>none)| .fnc f l,x,K=>(match x with| .fn f' vs=>if f'=f then Im l vs K else none|_=>none)
def Sh.fits {R:Type}:List Sh->List V->(List C->Option R)->Option R
 | [],[],K=>K []|s::l,x::xs,K=>s.fit x fun J=>Sh.fits l xs fun I=>K (J++I)|_,_,_=>none
end
mutual
theorem Sh.nP {R:Type} {r:R}:∀(s:Sh) (x:V) {K:List C->Option R},s.fit x K=some r->∃ds,K ds=some r/\ds.length=s.many/\s.fill 0 ds=x
 | .d τ,x,K,h=>by cases x <;> simp only[Sh.fit,reduceCtorEq,az]at h;obtain⟨rfl,h⟩:=h;exact⟨_,h,by simp[pe],by simp[pd,U]⟩
 | .sl _ _ _,x,K,h=>by simp[Sh.fit]at h
 | .ts eb e,x,K,h=>by cases x <;> simp only[Sh.fit,reduceCtorEq,az]at h;obtain⟨⟨rfl,rfl⟩,h⟩:=h;exact⟨_,h,by simp[pe],by simp[pd,U,C.elems]⟩
 | .sr k q cp eb e,x,K,h=>by cases x <;> simp only[Sh.fit,reduceCtorEq,az]at h;obtain⟨⟨rfl,rfl,rfl,rfl⟩,h⟩:=h;split at h;{exact⟨_,h,by simp[pe],by simp[pd,U,C.toInt]⟩};{exact⟨_,h,by simp[pe],by simp[pd,U,C.toInt]⟩};{cases h}
 | .yf τ,x,K,h=>by cases x <;> simp only[Sh.fit,reduceCtorEq,az]at h;obtain⟨rfl,h⟩:=h;exact⟨_,h,by simp[pe],by simp[pd,U]⟩
 | .arr e,x,K,h=>by simp only[Sh.fit]at h;split at h;{simp only[az]at h;obtain⟨rfl,h1,h⟩:=h;subst h1;exact⟨_,h,by simp[pe],by simp[pd,U]⟩};{cases h}
 | .agg τ l,x,K,h=>by cases x <;> simp only[Sh.fit,reduceCtorEq,az]at h;obtain⟨rfl,h⟩:=h;obtain⟨ds,h1,h2,h3⟩:=Sh.Yy l _ h;exact⟨ds,h1,by simpa only[pe]using h2,by simp only[pd];rw[h3]⟩
 | .as v,x,K,h=>by simp only[Sh.fit,az]at h;obtain⟨h1,h⟩:=h;have:=V.Ws _ _ h1;subst this;exact⟨_,h,by simp[pe],by simp only[pd]⟩
 | .vec k eb e,x,K,h=>by
  cases x <;> simp only[Sh.fit,reduceCtorEq,az]at h;obtain⟨⟨rfl,rfl,rfl,hc,rfl,rfl⟩,h⟩:=h;rename_i cp _ _;cases cp with
  |some c=>cases hc
  |none=>exact⟨_,h,by simp[pe],by simp[pd,U,C.toInt]⟩
 | .fnc f l,x,K,h=>by cases x <;> simp only[Sh.fit,reduceCtorEq,az]at h;obtain⟨rfl,h⟩:=h;obtain⟨ds,h1,h2,h3⟩:=UG l _ h;exact⟨ds,h1,by simpa only[pe]using h2,by simp only[pd,h3]⟩
theorem Sh.Yy {R:Type} {r:R}:∀(l:List Sh) (xs:List V) {K:List C->Option R},Sh.fits l xs K=some r->∃ds,K ds=some r/\ds.length=Sh.Hs l/\Sh.Er l 0 ds=xs
 | [],xs,K,h=>by cases xs <;> simp only[Sh.fits,reduceCtorEq]at h;exact⟨_,h,by simp[Sh.Hs],by simp[Sh.Er]⟩
 |s::l,[],K,h=>by simp[Sh.fits]at h
 |s::l,x::xs,K,h=>by
  simp only[Sh.fits]at h;obtain⟨J,h1,h2,h3⟩:=Sh.nP s x h;obtain⟨I,h5,h6,h7⟩:=Sh.Yy l xs h1;refine⟨_,h5,by simp[Sh.Hs,h2,h6],?_⟩;have e1:s.fill 0 (J++I)=s.fill 0 J:=Sh.LJ s 0 0 _ _ fun j hj=>Jz (by omega);have e2:Sh.Er l s.many (J++I)=Sh.Er l 0 I:=Sh.RX l _ 0 _ _ fun j hj=>by rw[Mf (by omega),h2];congr 1;omega
  simp only[Sh.Er,Nat.zero_add,e1,e2];rw[h3,h7]
end
def LK {R:Type} (A:Key->Option O):List (Key × OSh)->(List C->List Es->Option R)->Option R
 | [],K=>K [] []|(k,.box sh)::l,K=>(match A k with|some (.box x)=>sh.fit x fun J=>LK A l fun I m2=>K (J++I) m2|_=>none)|(k,.map kτ vτ)::l,K=>(match A k with|some (.map kτ' vτ' es)=>if kτ'=kτ/\vτ'=vτ then(if HL vτ es=true then LK A l fun I m2=>K I (unE es::m2)else none)else none|_=>none)|_::_,_=>none
theorem Yx {R:Type} {r:R} {A:Key->Option O}:∀(l:List (Key × OSh)) {K:List C->List Es->Option R},LK A l K=some r->
  ∃ds ms,K ds ms=some r/\ds.length=Fx l/\∀k o,AZ (CW l 0 0 ds ms) k=some o->A k=some o
 | [],K,h=>⟨[],[],h,rfl,fun k o h=>by simp[CW,AZ]at h⟩|(j,.box sh)::l,K,h=>by
  simp only[LK]at h;split at h
  ·rename_i x hx;obtain⟨J,h1,h2,h3⟩:=Sh.nP sh x h;obtain⟨I,ms,h4,h5,h6⟩:=Yx l h1;refine⟨_,ms,h4,by simp[Fx,h2,h5],fun k o hk=>?_⟩;have e1:sh.fill 0 (J++I)=sh.fill 0 J:=Sh.LJ sh 0 0 _ _ fun j hj=>Jz (by omega);have e2:CW l sh.many 0 (J++I) ms=CW l 0 0 I ms:=Jf l _ 0 0 _ _ _ fun j hj=>by rw[Mf (by omega),h2];congr 1;omega
   simp only[CW,Nat.zero_add,e1,e2,h3,AZ]at hk;split at hk;{rename_i e;subst e;cases hk;exact hx};{exact h6 k o hk}
  ·cases h
 |(j,.map kτ vτ)::l,K,h=>by simp only[LK]at h;split at h;{rename_i kτ' vτ' es hx;simp only[az]at h;obtain⟨⟨rfl,rfl⟩,hd,h⟩:=h;obtain⟨I,ms,h4,h5,h6⟩:=Yx l h;refine⟨_,_,h4,by simp[Fx,h5],fun k o hk=>?_⟩;simp only[CW,Ry,AZ]at hk;split at hk;{rename_i e;subst e;cases hk;rw[show dm (unE es::ms) 0=unE es from rfl,YU hd];exact hx};{exact h6 k o hk}};{cases h}
 |(_,.dead _)::l,K,h=>by simp[LK]at h
 |(_,.it)::l,K,h=>by simp[LK]at h
mutual
def Sh.unP:Sh->V->List (Key × Key)
 | .as (.ptr (.g a) _ _),.ptr (.g b) _ _=>[(a,b)]| .as (.mp (.g a)),.mp (.g b)=>[(a,b)]| .sr (.g a) _ _ _ _,.sr (.g b) _ _ _ _ _ _=>[(a,b)]| .vec (.g a) _ _,.sr (.g b) _ _ _ _ _ _=>[(a,b)]| .agg _ l,.agg _ xs=>Sh.XL l xs|_,_=>[]
def Sh.XL:List Sh->List V->List (Key × Key)
 |s::l,x::xs=>s.unP x++Sh.XL l xs|_,_=>[]
end
def xN:List (Key × Key)->Key->Key
 | [],k=>k|(a,b)::l,k=>xN l (Ic a b k)
def XD (zm:List (Key × OSh)) (A:Key->Option O):Nat->List (Key × Key)->List (Key × Key)->List Key->List (Key × Key)
 |0,_,sw,_=>sw|_,[],sw,_=>sw
 |f+1,(a,b)::todo,sw,seen=>if Vb a seen=true then XD zm A f todo sw seen else
   (match xN sw b with
   |b'=>XD zm A f ((match aI zm a,A b with|some (.box sh),some (.box x)=>sh.unP x|_,_=>[])++todo) (if a=b' then sw else sw++[(a,b')]) (a::seen))
def fG:List (Key × Key)->List V->List V
 | [],xs=>xs|(a,b)::l,xs=>fG l (xs.map (DR a b))
def swA:List (Key × Key)->(Key->Option O)->Key->Option O
 | [],A=>A|(a,b)::l,A=>swA l (GJ a b A)
def gC:List (Key × Key)->V->V
 | [],x=>x|(a,b)::l,x=>DR a b (gC l x)
def fZ:List (Key × Key)->List (Key × O)->List (Key × O)
 | [],x=>x|(a,b)::l,x=>Po a b (fZ l x)
theorem Cc.sws {X:Cx} {f:FuncId}:∀(sw:List (Key × Key)) {xs:List V} {A:Key->Option O} {v:V} {L:List (Key × O)},Cc X f (fG sw xs) (swA sw A) v L->Cc X f xs A (gC sw v) (fZ sw L)
 | [],xs,A,v,L,h=>h|(a,b)::l,xs,A,v,L,h=>by
  have h1:=(Cc.sws l h).swap a b;have hxs:(xs.map (DR a b)).map (DR a b)=xs:=by rw[px];exact(pw (g:=id) fun x _=>dQ a b x).trans (List.map_id _)
  rw[hxs,q55]at h1;exact h1
def WK (args:List Sh) (zm:List (Key × OSh)) {R:Type} (p:List C->List Es->(V->List (Key × O)->Option R)->Option R):OvG R:=fun xs A K=>
 match XD zm A 1000 (Sh.XL args xs) [] []with
 |sw=>Sh.fits args (fG sw xs) fun J=>LK (swA sw A) zm fun I ms=>p (J++I) ms fun v L=>K (gC sw v) (fZ sw L)
theorem vA {X:Cx} {f:FuncId} {args:List Sh} {zm:List (Key × OSh)} {R:Type} {p:List C->List Es->(V->List (Key × O)->Option R)->Option R}
  (hp:∀ds ms (K:V->List (Key × O)->Option R) r,p ds ms K=some r->∃v L,Cc X f (Sh.Er args 0 ds) (AZ (CW zm (Sh.Hs args) 0 ds ms)) v L/\K v L=some r):GOk X f (WK args zm p):=by
 intro xs A Kr r hr;unfold WK at hr;dsimp only at hr;generalize XD zm A 1000 (Sh.XL args xs) [] []=sw at hr;obtain⟨J,h1,h2,h3⟩:=Sh.Yy args _ hr;obtain⟨I,ms,h4,h5,h6⟩:=Yx zm h1;obtain⟨v,L,h7,h8⟩:=hp _ _ _ _ h4;refine⟨_,_,Cc.sws sw (v:=v) (L:=L) ?_,h8⟩;have e1:Sh.Er args 0 (J++I)=Sh.Er args 0 J:=Sh.RX args 0 0 _ _ fun j hj=>Jz (by omega);have e2:CW zm (Sh.Hs args) 0 (J++I) ms=CW zm 0 0 I ms:=Jf zm _ 0 0 _ _ _ fun j hj=>by rw[Mf (by omega),h2];congr 1;omega
 rw[e1,h3,e2]at h7;exact h7.mono h6
def Uq:List (Nat × (List V->Option V))->EY
 | [],_=>none|(i,g)::l,f=>bif Nat.beq f i then some g else Uq l f
def Ks (X:Cx):List (Nat × (List V->Option V))->Prop
 | []=>True|p::l=>(∀xs v,p.2 xs=some v->Ny X p.1 xs v)/\Ks X l
theorem mZ {X:Cx}:∀{l:List (Nat × (List V->Option V))},Ks X l->Ig X (Uq l)
 | [],_=>fun f g xs v h _=>by cases h
 |(i,g0)::l,h=>fun f g xs v hf hv=>by
  simp only[Uq]at hf;cases hb:Nat.beq f i with
  |true=>
   rw[hb,cond_true]at hf;cases hf;obtain rfl:=Nat.eq_of_beq_eq_true hb;exact h.1 xs v hv
  |false=>
   rw[hb,cond_false]at hf;exact mZ h.2 f g xs v hf hv
theorem Ks.append {X:Cx}:∀{l m:List (Nat × (List V->Option V))},Ks X l->Ks X m->Ks X (l++m)
 | [],_,_,h=>h|_::_,_,h,h'=>⟨h.1,h.2.append h'⟩
@[go_sem] theorem AF {a0:C} {l:List C}:U (a0::l) 0=a0:=rfl
@[go_sem] theorem AH {a0 a1:C} {l:List C}:U (a0::a1::l) 1=a1:=rfl
@[go_sem] theorem AJ {a0 a1 a2:C} {l:List C}:U (a0::a1::a2::l) 2=a2:=rfl
@[go_sem] theorem AL {a0 a1 a2 a3:C} {l:List C}:U (a0::a1::a2::a3::l) 3=a3:=rfl
@[go_sem] theorem AQ {a0 a1 a2 a3 a4:C} {l:List C}:U (a0::a1::a2::a3::a4::l) 4=a4:=rfl
@[go_sem] theorem Aa {a0 a1 a2 a3 a4 a5:C} {l:List C}:U (a0::a1::a2::a3::a4::a5::l) 5=a5:=rfl
@[go_sem] theorem Ac {a0 a1 a2 a3 a4 a5 a6:C} {l:List C}:U (a0::a1::a2::a3::a4::a5::a6::l) 6=a6:=rfl
@[go_sem] theorem Ah {a0 a1 a2 a3 a4 a5 a6 a7:C} {l:List C}:U (a0::a1::a2::a3::a4::a5::a6::a7::l) 7=a7:=rfl
@[go_sem] theorem Ai {a0 a1 a2 a3 a4 a5 a6 a7 a8:C} {l:List C}:U (a0::a1::a2::a3::a4::a5::a6::a7::a8::l) 8=a8:=rfl
@[go_sem] theorem Aj {a0 a1 a2 a3 a4 a5 a6 a7 a8 a9:C} {l:List C}:U (a0::a1::a2::a3::a4::a5::a6::a7::a8::a9::l) 9=a9:=rfl
@[go_sem] theorem Ak {a0 a1 a2 a3 a4 a5 a6 a7 a8 a9 a10:C} {l:List C}:U (a0::a1::a2::a3::a4::a5::a6::a7::a8::a9::a10::l) 10=a10:=rfl
@[go_sem] theorem Al {a0 a1 a2 a3 a4 a5 a6 a7 a8 a9 a10 a11:C} {l:List C}:U (a0::a1::a2::a3::a4::a5::a6::a7::a8::a9::a10::a11::l) 11=a11:=rfl
@[go_sem] theorem Ao {a0 a1 a2 a3 a4 a5 a6 a7 a8 a9 a10 a11 a12:C} {l:List C}:U (a0::a1::a2::a3::a4::a5::a6::a7::a8::a9::a10::a11::a12::l) 12=a12:=rfl
@[go_sem] theorem Ap {a0 a1 a2 a3 a4 a5 a6 a7 a8 a9 a10 a11 a12 a13:C} {l:List C}:U (a0::a1::a2::a3::a4::a5::a6::a7::a8::a9::a10::a11::a12::a13::l) 13=a13:=rfl
@[go_sem] theorem Aq {a0 a1 a2 a3 a4 a5 a6 a7 a8 a9 a10 a11 a12 a13 a14:C} {l:List C}:U (a0::a1::a2::a3::a4::a5::a6::a7::a8::a9::a10::a11::a12::a13::a14::l) 14=a14:=rfl
@[go_sem] theorem Ar {a0 a1 a2 a3 a4 a5 a6 a7 a8 a9 a10 a11 a12 a13 a14 a15:C} {l:List C}:U (a0::a1::a2::a3::a4::a5::a6::a7::a8::a9::a10::a11::a12::a13::a14::a15::l) 15=a15:=rfl
@[go_sem] theorem Au {a0 a1 a2 a3 a4 a5 a6 a7 a8 a9 a10 a11 a12 a13 a14 a15 a16:C} {l:List C}:U (a0::a1::a2::a3::a4::a5::a6::a7::a8::a9::a10::a11::a12::a13::a14::a15::a16::l) 16=a16:=rfl
@[go_sem] theorem Av {a0 a1 a2 a3 a4 a5 a6 a7 a8 a9 a10 a11 a12 a13 a14 a15 a16 a17:C} {l:List C}:U (a0::a1::a2::a3::a4::a5::a6::a7::a8::a9::a10::a11::a12::a13::a14::a15::a16::a17::l) 17=a17:=rfl
@[go_sem] theorem Aw {a0 a1 a2 a3 a4 a5 a6 a7 a8 a9 a10 a11 a12 a13 a14 a15 a16 a17 a18:C} {l:List C}:U (a0::a1::a2::a3::a4::a5::a6::a7::a8::a9::a10::a11::a12::a13::a14::a15::a16::a17::a18::l) 18=a18:=rfl
@[go_sem] theorem Ax {a0 a1 a2 a3 a4 a5 a6 a7 a8 a9 a10 a11 a12 a13 a14 a15 a16 a17 a18 a19:C} {l:List C}:U (a0::a1::a2::a3::a4::a5::a6::a7::a8::a9::a10::a11::a12::a13::a14::a15::a16::a17::a18::a19::l) 19=a19:=rfl
@[go_sem] theorem Az {a0 a1 a2 a3 a4 a5 a6 a7 a8 a9 a10 a11 a12 a13 a14 a15 a16 a17 a18 a19 a20:C} {l:List C}:U (a0::a1::a2::a3::a4::a5::a6::a7::a8::a9::a10::a11::a12::a13::a14::a15::a16::a17::a18::a19::a20::l) 20=a20:=rfl
@[go_sem] theorem BA {a0 a1 a2 a3 a4 a5 a6 a7 a8 a9 a10 a11 a12 a13 a14 a15 a16 a17 a18 a19 a20 a21:C} {l:List C}:U (a0::a1::a2::a3::a4::a5::a6::a7::a8::a9::a10::a11::a12::a13::a14::a15::a16::a17::a18::a19::a20::a21::l) 21=a21:=rfl
@[go_sem] theorem BB {a0 a1 a2 a3 a4 a5 a6 a7 a8 a9 a10 a11 a12 a13 a14 a15 a16 a17 a18 a19 a20 a21 a22:C} {l:List C}:U (a0::a1::a2::a3::a4::a5::a6::a7::a8::a9::a10::a11::a12::a13::a14::a15::a16::a17::a18::a19::a20::a21::a22::l) 22=a22:=rfl
@[go_sem] theorem BC {a0 a1 a2 a3 a4 a5 a6 a7 a8 a9 a10 a11 a12 a13 a14 a15 a16 a17 a18 a19 a20 a21 a22 a23:C} {l:List C}:U (a0::a1::a2::a3::a4::a5::a6::a7::a8::a9::a10::a11::a12::a13::a14::a15::a16::a17::a18::a19::a20::a21::a22::a23::l) 23=a23:=rfl
@[go_sem] theorem BD {a0 a1 a2 a3 a4 a5 a6 a7 a8 a9 a10 a11 a12 a13 a14 a15 a16 a17 a18 a19 a20 a21 a22 a23 a24:C} {l:List C}:U (a0::a1::a2::a3::a4::a5::a6::a7::a8::a9::a10::a11::a12::a13::a14::a15::a16::a17::a18::a19::a20::a21::a22::a23::a24::l) 24=a24:=rfl
@[go_sem] theorem BF {a0 a1 a2 a3 a4 a5 a6 a7 a8 a9 a10 a11 a12 a13 a14 a15 a16 a17 a18 a19 a20 a21 a22 a23 a24 a25:C} {l:List C}:U (a0::a1::a2::a3::a4::a5::a6::a7::a8::a9::a10::a11::a12::a13::a14::a15::a16::a17::a18::a19::a20::a21::a22::a23::a24::a25::l) 25=a25:=rfl
@[go_sem] theorem Iu {a0:C} {l:List C}:bj (.agg (a0::l)) 0=a0:=rfl
@[go_sem] theorem LP {a0 a1:C} {l:List C}:bj (.agg (a0::a1::l)) 1=a1:=rfl
@[go_sem] theorem Mn {a0 a1 a2:C} {l:List C}:bj (.agg (a0::a1::a2::l)) 2=a2:=rfl
@[go_sem] theorem q2h {a0 a1 a2 a3:C} {l:List C}:bj (.agg (a0::a1::a2::a3::l)) 3=a3:=rfl
@[go_sem] theorem oJ {a0 a1 a2 a3 a4:C} {l:List C}:bj (.agg (a0::a1::a2::a3::a4::l)) 4=a4:=rfl
@[go_sem] theorem q2i {a0 a1 a2 a3 a4 a5:C} {l:List C}:bj (.agg (a0::a1::a2::a3::a4::a5::l)) 5=a5:=rfl
@[go_sem] theorem z0T {a0 a1 a2 a3 a4 a5 a6:C} {l:List C}:bj (.agg (a0::a1::a2::a3::a4::a5::a6::l)) 6=a6:=rfl
@[go_sem] theorem z0U {a0 a1 a2 a3 a4 a5 a6 a7:C} {l:List C}:bj (.agg (a0::a1::a2::a3::a4::a5::a6::a7::l)) 7=a7:=rfl
@[go_sem] theorem z0V {a0 a1 a2 a3 a4 a5 a6 a7 a8:C} {l:List C}:bj (.agg (a0::a1::a2::a3::a4::a5::a6::a7::a8::l)) 8=a8:=rfl
@[go_sem] theorem z0W {a0 a1 a2 a3 a4 a5 a6 a7 a8 a9:C} {l:List C}:bj (.agg (a0::a1::a2::a3::a4::a5::a6::a7::a8::a9::l)) 9=a9:=rfl
@[go_sem] theorem z0N {a0 a1 a2 a3 a4 a5 a6 a7 a8 a9 a10:C} {l:List C}:bj (.agg (a0::a1::a2::a3::a4::a5::a6::a7::a8::a9::a10::l)) 10=a10:=rfl
@[go_sem] theorem z0O {a0 a1 a2 a3 a4 a5 a6 a7 a8 a9 a10 a11:C} {l:List C}:bj (.agg (a0::a1::a2::a3::a4::a5::a6::a7::a8::a9::a10::a11::l)) 11=a11:=rfl
@[go_sem] theorem z0P {a0 a1 a2 a3 a4 a5 a6 a7 a8 a9 a10 a11 a12:C} {l:List C}:bj (.agg (a0::a1::a2::a3::a4::a5::a6::a7::a8::a9::a10::a11::a12::l)) 12=a12:=rfl
@[go_sem] theorem z0Q {a0 a1 a2 a3 a4 a5 a6 a7 a8 a9 a10 a11 a12 a13:C} {l:List C}:bj (.agg (a0::a1::a2::a3::a4::a5::a6::a7::a8::a9::a10::a11::a12::a13::l)) 13=a13:=rfl
@[go_sem] theorem z0R {a0 a1 a2 a3 a4 a5 a6 a7 a8 a9 a10 a11 a12 a13 a14:C} {l:List C}:bj (.agg (a0::a1::a2::a3::a4::a5::a6::a7::a8::a9::a10::a11::a12::a13::a14::l)) 14=a14:=rfl
@[go_sem] theorem z0S {a0 a1 a2 a3 a4 a5 a6 a7 a8 a9 a10 a11 a12 a13 a14 a15:C} {l:List C}:bj (.agg (a0::a1::a2::a3::a4::a5::a6::a7::a8::a9::a10::a11::a12::a13::a14::a15::l)) 15=a15:=rfl
@[go_sem] theorem IZ {a0 b:C} {l:List C}:cn (.agg (a0::l)) 0 b= .agg (b::l):=rfl
@[go_sem] theorem Kf {a0 a1 b:C} {l:List C}:cn (.agg (a0::a1::l)) 1 b= .agg (a0::b::l):=rfl
@[go_sem] theorem Kg {a0 a1 a2 b:C} {l:List C}:cn (.agg (a0::a1::a2::l)) 2 b= .agg (a0::a1::b::l):=rfl
@[go_sem] theorem Wx {a0 a1 a2 a3 b:C} {l:List C}:cn (.agg (a0::a1::a2::a3::l)) 3 b= .agg (a0::a1::a2::b::l):=rfl
@[go_sem] theorem eS {a0 a1 a2 a3 a4 b:C} {l:List C}:cn (.agg (a0::a1::a2::a3::a4::l)) 4 b= .agg (a0::a1::a2::a3::b::l):=rfl
@[go_sem] theorem z0Z {a0 a1 a2 a3 a4 a5 b:C} {l:List C}:cn (.agg (a0::a1::a2::a3::a4::a5::l)) 5 b= .agg (a0::a1::a2::a3::a4::b::l):=rfl
@[go_sem] theorem z00 {a0 a1 a2 a3 a4 a5 a6 b:C} {l:List C}:cn (.agg (a0::a1::a2::a3::a4::a5::a6::l)) 6 b= .agg (a0::a1::a2::a3::a4::a5::b::l):=rfl
@[go_sem] theorem z01 {a0 a1 a2 a3 a4 a5 a6 a7 b:C} {l:List C}:cn (.agg (a0::a1::a2::a3::a4::a5::a6::a7::l)) 7 b= .agg (a0::a1::a2::a3::a4::a5::a6::b::l):=rfl
attribute [go_sem] AR Nat.beq_refl Bool.and_true qt Bool.not_true Bool.not_false beq_self_eq_true Int.toNat_natCast decide_true decide_false Bool.cond_decide Int.toNat_zero Int.toNat_one
attribute [go_sem 500] Int.ofNat_eq_natCast
attribute [go_sem] Int.cast_ofNat_Int
@[go_sem] theorem z0Y (n:Nat):Int.ofNat (@ru Nat n (instOfNatNat n))=@ru Int n instOfNat:=rfl
@[go_sem] theorem z0X (n:Nat):((@ru Nat n (instOfNatNat n):Nat):Int)=@ru Int n instOfNat:=rfl
@[go_sem] theorem BG (a b:Bool):HR (.bool a) b= .bool b:=rfl
@[go_sem] theorem jA (c:C):C.beq c c=true:=(C.beq_iff c c).2 rfl
theorem iZ (a b:C):C.beq a b=decide (a=b):=by rw[Bool.eq_iff_iff,C.beq_iff,decide_eq_true_eq]
theorem NH {R:Type} {ι:Type} {F:KD R->List C->List Es->Option R} (st:ι->List C) (sm:ι->List Es) (μ:ι->Nat) (P:ι->Prop) (spec:ι->Option R)
  (h:∀i,P i->∀rec:KD R,(∀j,P j->μ j<μ i->rec (st j) (sm j)=spec j)->F rec (st i) (sm i)=spec i):∀(N:Nat) (i:ι),P i->μ i<N->BR N F (st i) (sm i)=spec i
 |0,_,_,h2=>absurd h2 (Nat.not_lt_zero _)|N+1,i,h1,h2=>by rw[Dl];exact h i h1 _ fun j hj hlt=>NH st sm μ P spec h N j hj (by omega)
theorem Ee {R:Type} {F:KD R->List C->List Es->Option R} (st:Nat->List C) (sm:Nat->List Es) (m:Nat) (r:Option R) (step:∀i,i<m->∀rec:KD R,F rec (st i) (sm i)=rec (st (i+1)) (sm (i+1))) (stop:∀rec:KD R,F rec (st m) (sm m)=r) {N:Nat} (hN:m<N):
  BR N F (st 0) (sm 0)=r:=by
 refine NH (F:=F) st sm (fun i=>m-i) (fun i=>i<=m) (fun _=>r) (fun i hi rec z8g=>?_) N 0 (Nat.zero_le _) (by omega);by_cases e:i=m;{subst e;exact stop rec};{rw[step i (by omega) rec];exact z8g (i+1) (by omega) (by omega)}
theorem YV {X:Cx} {f:FuncId} {ts:List Ty} {cs:List C} {A:Key->Option O} {v:V} {L:List (Key × O)} (h:(∀(i:Nat) (t:Ty) (c:C),ts[i]? =some t->cs[i]? =some c->C.wf t c)->Cc X f (jx V.d ts cs) A v L):Cc X f (jx V.d ts cs) A v L:=by
 intro A' Γ w args hA hg hc hn hr;refine h (fun i t c ht hcs=>?_) A' Γ w args hA hg hc hn hr;have hx:(jx V.d ts cs)[i]? =some (.d t c):=by simp[List.getElem?_zipWith,ht,hcs]
 have hs:(Db 1000 (jx V.d ts cs))[i]? =some (.d t c):=by rw[TQ,hx];rfl
 have hl:i<args.size:=by rw[<-hn];exact(cd.1 hx).1
 exact(hr i _ _ hs (Array.getElem?_eq_getElem hl)).wf
theorem q2r {w:World} {gl gl':Nat->Option (Ty × C)} (h:OA w gl) (hs:∀g x,gl' g=some x->gl g=some x):OA w gl':=fun g τ c hg=>h g τ c (hs g (τ,c) hg)
theorem bT {X:Cx} {f:FuncId} {g:OvG (V × List (Key × O))} (h:GOk X f g) {xs:List V} {A:Key->Option O} {v:V} {L:List (Key × O)} (hr:g xs A kR=some (v,L)):Cc X f xs A v L:=by obtain⟨v',L',h1,h2⟩:=h xs A kR (v,L) hr;simp only[kR,Option.some.injEq,Prod.mk.injEq]at h2;obtain⟨rfl,rfl⟩:=h2;exact h1
def Dg {α σ ε:Type} (f:Nat->σ->α->σ ⊕ ε):Nat->σ->List α->σ ⊕ ε
 |_,s,[]=>.inl s|i,s,c::l=>match f i s c with| .inl s'=>Dg f (i+1) s' l| .inr e=>.inr e
def LI {R σ ε:Type} (fin:σ->Option R) (err:ε->Option R):σ ⊕ ε->Option R
 | .inl s=>fin s| .inr e=>err e
theorem q4c {α R σ ε:Type} {F:KD R->List C->List Es->Option R} (st:Nat->σ->List C) (sm:Nat->σ->List Es) (l:List α) (f:Nat->σ->α->σ ⊕ ε) (fin:σ->Option R) (err:ε->Option R) (P:Nat->σ->Prop) {s0:σ} {N:Nat}
  (h0:P 0 s0) (step:∀i s c,l[i]? =some c->P i s->(∀rec:KD R,F rec (st i s) (sm i s)=match f i s c with| .inl s'=>rec (st (i+1) s') (sm (i+1) s')| .inr e=>err e)/\(∀s',f i s c= .inl s'->P (i+1) s'))
  (stop:∀s,P l.length s->∀rec:KD R,F rec (st l.length s) (sm l.length s)=fin s) (hN:l.length<N):
  BR N F (st 0 s0) (sm 0 s0)=LI fin err (Dg f 0 s0 l):=by
 have key:=NH (R:=R) (ι:=Nat × σ) (F:=F) (fun x=>st x.1 x.2) (fun x=>sm x.1 x.2) (fun x=>l.length-x.1) (fun x=>x.1<=l.length/\P x.1 x.2) (fun x=>LI fin err (Dg f x.1 x.2 (l.drop x.1)))
  (fun x hx rec z8g=>?_) N (0,s0) ⟨Nat.zero_le _,h0⟩ (by show l.length-0<N;omega)
 ·simpa using key
 ·obtain⟨i,s⟩:=x;obtain⟨h1,h2⟩:=hx;dsimp only at h1 h2 z8g ⊢;by_cases h:i=l.length;{subst h;rw[stop s h2,List.drop_length];rfl}
  ·have hi:i<l.length:=by omega
   obtain⟨h3,h4⟩:=step i s l[i] (List.getElem?_eq_getElem hi) h2;rw[h3,List.drop_eq_getElem_cons hi];simp only[Dg];cases hf:f i s l[i]with
   |inl s'=>exact z8g (i+1,s') ⟨hi,h4 s' hf⟩ (by dsimp only;omega)|inr e=>rfl
theorem SC {α R σ ε:Type} {F:KD R->List C->List Es->Option R} (st:Nat->σ->List C) (sm:Nat->σ->List Es) (l:List α) (f:Nat->σ->α->σ ⊕ ε) (fin:σ->Option R) (err:ε->Option R) {s0:σ} {N:Nat}
  (step:∀i s c,l[i]? =some c->i<l.length->∀rec:KD R,F rec (st i s) (sm i s)=match f i s c with| .inl s'=>rec (st (i+1) s') (sm (i+1) s')| .inr e=>err e)
  (stop:∀s,∀rec:KD R,F rec (st l.length s) (sm l.length s)=fin s) (hN:l.length<N):
  BR N F (st 0 s0) (sm 0 s0)=LI fin err (Dg f 0 s0 l):=
 q4c st sm l f fin err (fun _ _=>True) trivial (fun i s c hc _=>⟨step i s c hc (cd.1 hc).1,fun _ _=>trivial⟩) (fun s _=>stop s) hN
theorem FJ {l:List C} {i:Nat} {c:C} (h:l[i]? =some c):l.getD i .nil=c:=by rw[List.getD_eq_getElem?_getD,h];rfl
theorem Bp {i:Nat} (h:i<4611686018427387904):IntKind.i64.wrap ((i:Int)+1)=((i+1:Nat):Int):=by rw[IntWalk.i64_in _ (by omega)];omega
theorem wrap_u64 {n:Int} (h:0<=n) (h2:n<18446744073709551616):IntKind.u64.wrap n=n:=by
 have hm1:IntKind.u64.min=0:=by decide
 have hm2:IntKind.u64.max=18446744073709551615:=by decide
 exact Nr (by omega) (by omega)
@[go_sem] theorem BO (g:Key->Key) (τ:Ty) (m:Es):List.map (fun c=>(Prod.fst c,sn g id (Prod.snd c))) (dE τ m)=dE τ m:=by unfold dE;rw[px];exact pw fun _ _=>rfl
attribute [go_sem] Af Ae
@[go_sem] theorem BM (τ:Ty):∀m:Es,EJ τ (dE τ m)=true
 | []=>rfl|_::m=>by have:=BM τ m;have h:Ty.beq τ τ=true:=(Ty.beq_iff τ τ).2 rfl;simp only[dE,dt,EJ,h,qt]at this ⊢;exact this
def Ff:Es->C->Bool
 | [],_=>false|(k,_)::l,c=>bif C.beq c k then true else Ff l c
def getM:Es->C->C
 | [],_=>.nil|(k,v)::l,c=>bif C.beq c k then v else getM l c
@[go_sem] theorem PJ (τ:Ty) (c:C):∀m:Es,Iv (dE τ m) c=Ff m c
 | []=>rfl|(k,v)::m=>by have:=PJ τ c m;simp only[dE,dt,Iv,Ff]at this ⊢;rw[this]
@[go_sem] theorem oD (τ:Ty) (c:C):∀m:Es,LN (dE τ m) c=getM m c
 | []=>rfl|(k,v)::m=>by have:=oD τ c m;simp only[dE,dt,LN,getM]at this ⊢;rw[this]
@[go_sem] theorem BP:unE []=[]:=rfl
@[go_sem] theorem z0D (τ:Ty):dE τ []=[]:=rfl
def Di:Ty:=.struct 65 [0,64] [(.arr 2 (.arr 32 (.int .u8))),(.int .i64)]
@[go_sem] theorem z5d:Di.known=true:=rfl
@[go_sem] theorem z5a:Di.DF=true:=rfl
@[go_sem] theorem z49:Di.isAgg=true:=rfl
@[go_sem] theorem z5e:Di.size=65:=rfl
@[go_sem] theorem z5b:Di.DI=[(.arr 2 (.arr 32 (.int .u8))),(.int .i64)]:=rfl
@[go_sem] theorem z5c:Di.kids=2:=rfl
@[go_sem] theorem z46:Di.CP=true:=by kernel_rfl
@[go_sem] theorem z47:Di.get 0=(.arr 2 (.arr 32 (.int .u8))):=rfl
@[go_sem] theorem z44:Di.child 0=some (0,(.arr 2 (.arr 32 (.int .u8)))):=rfl
@[go_sem] theorem z48:Di.get 1=(.int .i64):=rfl
@[go_sem] theorem z45:Di.child 1=some (64,(.int .i64)):=rfl
@[go_sem] theorem z5g:AI Di= .agg [(AI (.arr 2 (.arr 32 (.int .u8)))),(.int 0)]:=rfl
@[go_sem] theorem z5f:BI Di= .d Di (AI Di):=rfl
def CR:Ty:=.struct 36 [0,1,2,3,35] [(.int .u64),(.int .i64),(.int .u64),(.arr 32 (.int .u8)),(.int .u64)]
@[go_sem] theorem z1I:CR.known=true:=rfl
@[go_sem] theorem z1F:CR.DF=true:=rfl
@[go_sem] theorem z1E:CR.isAgg=true:=rfl
@[go_sem] theorem z1J:CR.size=36:=rfl
@[go_sem] theorem z1G:CR.DI=[(.int .u64),(.int .i64),(.int .u64),(.arr 32 (.int .u8)),(.int .u64)]:=rfl
@[go_sem] theorem z1H:CR.kids=5:=rfl
@[go_sem] theorem z1y:CR.CP=true:=by kernel_rfl
@[go_sem] theorem z1z:CR.get 0=(.int .u64):=rfl
@[go_sem] theorem z1t:CR.child 0=some (0,(.int .u64)):=rfl
@[go_sem] theorem z1A:CR.get 1=(.int .i64):=rfl
@[go_sem] theorem z1u:CR.child 1=some (1,(.int .i64)):=rfl
@[go_sem] theorem z1B:CR.get 2=(.int .u64):=rfl
@[go_sem] theorem z1v:CR.child 2=some (2,(.int .u64)):=rfl
@[go_sem] theorem z1C:CR.get 3=(.arr 32 (.int .u8)):=rfl
@[go_sem] theorem z1w:CR.child 3=some (3,(.arr 32 (.int .u8))):=rfl
@[go_sem] theorem z1D:CR.get 4=(.int .u64):=rfl
@[go_sem] theorem z1x:CR.child 4=some (35,(.int .u64)):=rfl
@[go_sem] theorem z1L:AI CR= .agg [(.int 0),(.int 0),(.int 0),(AI (.arr 32 (.int .u8))),(.int 0)]:=rfl
@[go_sem] theorem z1K:BI CR= .d CR (AI CR):=rfl
def Bo:Ty:=.struct 7 [0,1,2,4,6] [(.int .u32),(.int .u64),(.arr 2 (.int .u64)),(.arr 2 (.int .u64)),(.slice 64 CR)]
@[go_sem] theorem z6f:Bo.known=true:=rfl
@[go_sem] theorem z6c:Bo.DF=true:=rfl
@[go_sem] theorem z6b:Bo.isAgg=true:=rfl
@[go_sem] theorem z6g:Bo.size=7:=rfl
@[go_sem] theorem z6d:Bo.DI=[(.int .u32),(.int .u64),(.arr 2 (.int .u64)),(.arr 2 (.int .u64)),(.slice 64 CR)]:=rfl
@[go_sem] theorem z6e:Bo.kids=5:=rfl
@[go_sem] theorem z55:Bo.CP=true:=by kernel_rfl
@[go_sem] theorem z56:Bo.get 0=(.int .u32):=rfl
@[go_sem] theorem z50:Bo.child 0=some (0,(.int .u32)):=rfl
@[go_sem] theorem z57:Bo.get 1=(.int .u64):=rfl
@[go_sem] theorem z51:Bo.child 1=some (1,(.int .u64)):=rfl
@[go_sem] theorem z58:Bo.get 2=(.arr 2 (.int .u64)):=rfl
@[go_sem] theorem z52:Bo.child 2=some (2,(.arr 2 (.int .u64))):=rfl
@[go_sem] theorem z59:Bo.get 3=(.arr 2 (.int .u64)):=rfl
@[go_sem] theorem z53:Bo.child 3=some (4,(.arr 2 (.int .u64))):=rfl
@[go_sem] theorem z6a:Bo.get 4=(.slice 64 CR):=rfl
@[go_sem] theorem z54:Bo.child 4=some (6,(.slice 64 CR)):=rfl
@[go_sem] theorem z6i:AI Bo= .agg [(.int 0),(.int 0),(AI (.arr 2 (.int .u64))),(AI (.arr 2 (.int .u64))),(.slice [])]:=rfl
@[go_sem] theorem z6h:BI Bo= .agg Bo [BI (.int .u32),BI (.int .u64),BI (.arr 2 (.int .u64)),BI (.arr 2 (.int .u64)),BI (.slice 64 CR)]:=rfl
def Du:Ty:=.struct 1024 [0,512] [(.arr 32 (.arr 16 (.int .u8))),(.arr 32 (.arr 16 (.int .u8)))]
@[go_sem] theorem z5W:Du.known=true:=rfl
@[go_sem] theorem z5T:Du.DF=true:=rfl
@[go_sem] theorem z5S:Du.isAgg=true:=rfl
@[go_sem] theorem z5X:Du.size=1024:=rfl
@[go_sem] theorem z5U:Du.DI=[(.arr 32 (.arr 16 (.int .u8))),(.arr 32 (.arr 16 (.int .u8)))]:=rfl
@[go_sem] theorem z5V:Du.kids=2:=rfl
@[go_sem] theorem z5P:Du.CP=true:=by kernel_rfl
@[go_sem] theorem z5Q:Du.get 0=(.arr 32 (.arr 16 (.int .u8))):=rfl
@[go_sem] theorem z5N:Du.child 0=some (0,(.arr 32 (.arr 16 (.int .u8)))):=rfl
@[go_sem] theorem z5R:Du.get 1=(.arr 32 (.arr 16 (.int .u8))):=rfl
@[go_sem] theorem z5O:Du.child 1=some (512,(.arr 32 (.arr 16 (.int .u8)))):=rfl
@[go_sem] theorem z5Z:AI Du= .agg [(AI (.arr 32 (.arr 16 (.int .u8)))),(AI (.arr 32 (.arr 16 (.int .u8))))]:=rfl
@[go_sem] theorem z5Y:BI Du= .d Du (AI Du):=rfl
def Cq:Ty:=.struct 1026 [0,1024,1025] [Du,(.int .u32),(.slice 32 (.arr 32 (.int .u8)))]
@[go_sem] theorem z5J:Cq.known=true:=rfl
@[go_sem] theorem z5G:Cq.DF=true:=rfl
@[go_sem] theorem z5F:Cq.isAgg=true:=rfl
@[go_sem] theorem z5K:Cq.size=1026:=rfl
@[go_sem] theorem z5H:Cq.DI=[Du,(.int .u32),(.slice 32 (.arr 32 (.int .u8)))]:=rfl
@[go_sem] theorem z5I:Cq.kids=3:=rfl
@[go_sem] theorem z5B:Cq.CP=true:=by kernel_rfl
@[go_sem] theorem z5C:Cq.get 0=Du:=rfl
@[go_sem] theorem z5y:Cq.child 0=some (0,Du):=rfl
@[go_sem] theorem z5D:Cq.get 1=(.int .u32):=rfl
@[go_sem] theorem z5z:Cq.child 1=some (1024,(.int .u32)):=rfl
@[go_sem] theorem z5E:Cq.get 2=(.slice 32 (.arr 32 (.int .u8))):=rfl
@[go_sem] theorem z5A:Cq.child 2=some (1025,(.slice 32 (.arr 32 (.int .u8)))):=rfl
@[go_sem] theorem z5M:AI Cq= .agg [(AI Du),(.int 0),(.slice [])]:=rfl
@[go_sem] theorem z5L:BI Cq= .agg Cq [BI Du,BI (.int .u32),BI (.slice 32 (.arr 32 (.int .u8)))]:=rfl
def EV:Ty:=.struct 2059 [0,7] [Bo,(.arr 2 Cq)]
@[go_sem] theorem z2i:EV.known=true:=rfl
@[go_sem] theorem z2f:EV.DF=true:=rfl
@[go_sem] theorem z2e:EV.isAgg=true:=rfl
@[go_sem] theorem z2j:EV.size=2059:=rfl
@[go_sem] theorem z2g:EV.DI=[Bo,(.arr 2 Cq)]:=rfl
@[go_sem] theorem z2h:EV.kids=2:=rfl
@[go_sem] theorem z2b:EV.CP=true:=by kernel_rfl
@[go_sem] theorem z2c:EV.get 0=Bo:=rfl
@[go_sem] theorem z19:EV.child 0=some (0,Bo):=rfl
@[go_sem] theorem z2d:EV.get 1=(.arr 2 Cq):=rfl
@[go_sem] theorem z2a:EV.child 1=some (7,(.arr 2 Cq)):=rfl
@[go_sem] theorem z2l:AI EV= .agg [(AI Bo),(AI (.arr 2 Cq))]:=rfl
@[go_sem] theorem z2k:BI EV= .agg EV [BI Bo,BI (.arr 2 Cq)]:=rfl
def tTx:Ty:=.struct 2164 [0,1,2,3,4,5,6,7,39,104,105] [(.int .i64),(.int .i64),(.int .u64),(.int .u64),(.int .i64),(.int .u64),(.int .u32),(.arr 32 (.int .u8)),Di,(.slice 1 (.int .u8)),EV]
@[go_sem] theorem z7c:tTx.known=true:=rfl
@[go_sem] theorem z69:tTx.DF=true:=rfl
@[go_sem] theorem z68:tTx.isAgg=true:=rfl
@[go_sem] theorem z7d:tTx.size=2164:=rfl
@[go_sem] theorem z7a:tTx.DI=[(.int .i64),(.int .i64),(.int .u64),(.int .u64),(.int .i64),(.int .u64),(.int .u32),(.arr 32 (.int .u8)),Di,(.slice 1 (.int .u8)),EV]:=rfl
@[go_sem] theorem z7b:tTx.kids=11:=rfl
@[go_sem] theorem z6W:tTx.CP=true:=by kernel_rfl
@[go_sem] theorem z6X:tTx.get 0=(.int .i64):=rfl
@[go_sem] theorem z6L:tTx.child 0=some (0,(.int .i64)):=rfl
@[go_sem] theorem z6Y:tTx.get 1=(.int .i64):=rfl
@[go_sem] theorem z6M:tTx.child 1=some (1,(.int .i64)):=rfl
@[go_sem] theorem z60:tTx.get 2=(.int .u64):=rfl
@[go_sem] theorem z6O:tTx.child 2=some (2,(.int .u64)):=rfl
@[go_sem] theorem z61:tTx.get 3=(.int .u64):=rfl
@[go_sem] theorem z6P:tTx.child 3=some (3,(.int .u64)):=rfl
@[go_sem] theorem z62:tTx.get 4=(.int .i64):=rfl
@[go_sem] theorem z6Q:tTx.child 4=some (4,(.int .i64)):=rfl
@[go_sem] theorem z63:tTx.get 5=(.int .u64):=rfl
@[go_sem] theorem z6R:tTx.child 5=some (5,(.int .u64)):=rfl
@[go_sem] theorem z64:tTx.get 6=(.int .u32):=rfl
@[go_sem] theorem z6S:tTx.child 6=some (6,(.int .u32)):=rfl
@[go_sem] theorem z65:tTx.get 7=(.arr 32 (.int .u8)):=rfl
@[go_sem] theorem z6T:tTx.child 7=some (7,(.arr 32 (.int .u8))):=rfl
@[go_sem] theorem z66:tTx.get 8=Di:=rfl
@[go_sem] theorem z6U:tTx.child 8=some (39,Di):=rfl
@[go_sem] theorem z67:tTx.get 9=(.slice 1 (.int .u8)):=rfl
@[go_sem] theorem z6V:tTx.child 9=some (104,(.slice 1 (.int .u8))):=rfl
@[go_sem] theorem z6Z:tTx.get 10=EV:=rfl
@[go_sem] theorem z6N:tTx.child 10=some (105,EV):=rfl
@[go_sem] theorem z7f:AI tTx= .agg [(.int 0),(.int 0),(.int 0),(.int 0),(.int 0),(.int 0),(.int 0),(AI (.arr 32 (.int .u8))),(AI Di),(.slice []),(AI EV)]:=rfl
@[go_sem] theorem z7e:BI tTx= .agg tTx [BI (.int .i64),BI (.int .i64),BI (.int .u64),BI (.int .u64),BI (.int .i64),BI (.int .u64),BI (.int .u32),BI (.arr 32 (.int .u8)),BI Di,BI (.slice 1 (.int .u8)),BI EV]:=rfl
def Bf:Ty:=.struct 2 [0,1] [.str,.str]
@[go_sem] theorem z6s:Bf.known=true:=rfl
@[go_sem] theorem z6p:Bf.DF=true:=rfl
@[go_sem] theorem z6o:Bf.isAgg=true:=rfl
@[go_sem] theorem z6t:Bf.size=2:=rfl
@[go_sem] theorem z6q:Bf.DI=[.str,.str]:=rfl
@[go_sem] theorem z6r:Bf.kids=2:=rfl
@[go_sem] theorem z6l:Bf.CP=true:=by kernel_rfl
@[go_sem] theorem z6m:Bf.get 0= .str:=rfl
@[go_sem] theorem z6j:Bf.child 0=some (0,.str):=rfl
@[go_sem] theorem z6n:Bf.get 1= .str:=rfl
@[go_sem] theorem z6k:Bf.child 1=some (1,.str):=rfl
@[go_sem] theorem z6v:AI Bf= .agg [(.str []),(.str [])]:=rfl
@[go_sem] theorem z6u:BI Bf= .d Bf (AI Bf):=rfl
def AV:Ty:=.struct 82 [0,1,3,68,69,71,73,74,75] [(.int .u32),(.arr 2 (.int .i64)),Di,(.slice 1 (.int .u8)),(.arr 2 (.int .u64)),(.arr 2 (.int .u64)),(.int .i64),(.int .u64),Bo]
@[go_sem] theorem z1p:AV.known=true:=rfl
@[go_sem] theorem z1m:AV.DF=true:=rfl
@[go_sem] theorem z1l:AV.isAgg=true:=rfl
@[go_sem] theorem z1q:AV.size=82:=rfl
@[go_sem] theorem z1n:AV.DI=[(.int .u32),(.arr 2 (.int .i64)),Di,(.slice 1 (.int .u8)),(.arr 2 (.int .u64)),(.arr 2 (.int .u64)),(.int .i64),(.int .u64),Bo]:=rfl
@[go_sem] theorem z1o:AV.kids=9:=rfl
@[go_sem] theorem z1b:AV.CP=true:=by kernel_rfl
@[go_sem] theorem z1c:AV.get 0=(.int .u32):=rfl
@[go_sem] theorem z02:AV.child 0=some (0,(.int .u32)):=rfl
@[go_sem] theorem z1d:AV.get 1=(.arr 2 (.int .i64)):=rfl
@[go_sem] theorem z03:AV.child 1=some (1,(.arr 2 (.int .i64))):=rfl
@[go_sem] theorem z1e:AV.get 2=Di:=rfl
@[go_sem] theorem z04:AV.child 2=some (3,Di):=rfl
@[go_sem] theorem z1f:AV.get 3=(.slice 1 (.int .u8)):=rfl
@[go_sem] theorem z05:AV.child 3=some (68,(.slice 1 (.int .u8))):=rfl
@[go_sem] theorem z1g:AV.get 4=(.arr 2 (.int .u64)):=rfl
@[go_sem] theorem z06:AV.child 4=some (69,(.arr 2 (.int .u64))):=rfl
@[go_sem] theorem z1h:AV.get 5=(.arr 2 (.int .u64)):=rfl
@[go_sem] theorem z07:AV.child 5=some (71,(.arr 2 (.int .u64))):=rfl
@[go_sem] theorem z1i:AV.get 6=(.int .i64):=rfl
@[go_sem] theorem z08:AV.child 6=some (73,(.int .i64)):=rfl
@[go_sem] theorem z1j:AV.get 7=(.int .u64):=rfl
@[go_sem] theorem z09:AV.child 7=some (74,(.int .u64)):=rfl
@[go_sem] theorem z1k:AV.get 8=Bo:=rfl
@[go_sem] theorem z1a:AV.child 8=some (75,Bo):=rfl
@[go_sem] theorem z1s:AI AV= .agg [(.int 0),(AI (.arr 2 (.int .i64))),(AI Di),(.slice []),(AI (.arr 2 (.int .u64))),(AI (.arr 2 (.int .u64))),(.int 0),(.int 0),(AI Bo)]:=rfl
@[go_sem] theorem z1r:BI AV= .agg AV [BI (.int .u32),BI (.arr 2 (.int .i64)),BI Di,BI (.slice 1 (.int .u8)),BI (.arr 2 (.int .u64)),BI (.arr 2 (.int .u64)),BI (.int .i64),BI (.int .u64),BI Bo]:=rfl
def AW:Ty:=.struct 5 [0,1,2,3,4] [(.int .u64),(.int .i64),(.int .i64),(.int .u32),(.int .i64)]
@[go_sem] theorem z23:AW.known=true:=rfl
@[go_sem] theorem z20:AW.DF=true:=rfl
@[go_sem] theorem z2Z:AW.isAgg=true:=rfl
@[go_sem] theorem z24:AW.size=5:=rfl
@[go_sem] theorem z21:AW.DI=[(.int .u64),(.int .i64),(.int .i64),(.int .u32),(.int .i64)]:=rfl
@[go_sem] theorem z22:AW.kids=5:=rfl
@[go_sem] theorem z2T:AW.CP=true:=by kernel_rfl
@[go_sem] theorem z2U:AW.get 0=(.int .u64):=rfl
@[go_sem] theorem z2O:AW.child 0=some (0,(.int .u64)):=rfl
@[go_sem] theorem z2V:AW.get 1=(.int .i64):=rfl
@[go_sem] theorem z2P:AW.child 1=some (1,(.int .i64)):=rfl
@[go_sem] theorem z2W:AW.get 2=(.int .i64):=rfl
@[go_sem] theorem z2Q:AW.child 2=some (2,(.int .i64)):=rfl
@[go_sem] theorem z2X:AW.get 3=(.int .u32):=rfl
@[go_sem] theorem z2R:AW.child 3=some (3,(.int .u32)):=rfl
@[go_sem] theorem z2Y:AW.get 4=(.int .i64):=rfl
@[go_sem] theorem z2S:AW.child 4=some (4,(.int .i64)):=rfl
@[go_sem] theorem z26:AI AW= .agg [(.int 0),(.int 0),(.int 0),(.int 0),(.int 0)]:=rfl
@[go_sem] theorem z25:BI AW= .d AW (AI AW):=rfl
def Ba:Ty:=.struct 7 [0,1,2,3,4,5,6] [.ptr,.ptr,(.int .u64),(.int .u64),(.slice 240 AV),(.slice 2368 tTx),(.slice 40 AW)]
@[go_sem] theorem z15:Ba.known=true:=rfl
@[go_sem] theorem z12:Ba.DF=true:=rfl
@[go_sem] theorem z11:Ba.isAgg=true:=rfl
@[go_sem] theorem z16:Ba.size=7:=rfl
@[go_sem] theorem z13:Ba.DI=[.ptr,.ptr,(.int .u64),(.int .u64),(.slice 240 AV),(.slice 2368 tTx),(.slice 40 AW)]:=rfl
@[go_sem] theorem z14:Ba.kids=7:=rfl
@[go_sem] theorem z1T:Ba.CP=true:=by kernel_rfl
@[go_sem] theorem z1U:Ba.get 0= .ptr:=rfl
@[go_sem] theorem z1M:Ba.child 0=some (0,.ptr):=rfl
@[go_sem] theorem z1V:Ba.get 1= .ptr:=rfl
@[go_sem] theorem z1N:Ba.child 1=some (1,.ptr):=rfl
@[go_sem] theorem z1W:Ba.get 2=(.int .u64):=rfl
@[go_sem] theorem z1O:Ba.child 2=some (2,(.int .u64)):=rfl
@[go_sem] theorem z1X:Ba.get 3=(.int .u64):=rfl
@[go_sem] theorem z1P:Ba.child 3=some (3,(.int .u64)):=rfl
@[go_sem] theorem z1Y:Ba.get 4=(.slice 240 AV):=rfl
@[go_sem] theorem z1Q:Ba.child 4=some (4,(.slice 240 AV)):=rfl
@[go_sem] theorem z1Z:Ba.get 5=(.slice 2368 tTx):=rfl
@[go_sem] theorem z1R:Ba.child 5=some (5,(.slice 2368 tTx)):=rfl
@[go_sem] theorem z10:Ba.get 6=(.slice 40 AW):=rfl
@[go_sem] theorem z1S:Ba.child 6=some (6,(.slice 40 AW)):=rfl
@[go_sem] theorem z18:AI Ba= .agg [.nil,.nil,(.int 0),(.int 0),(.slice []),(.slice []),(.slice [])]:=rfl
@[go_sem] theorem z17:BI Ba= .agg Ba [BI .ptr,BI .ptr,BI (.int .u64),BI (.int .u64),BI (.slice 240 AV),BI (.slice 2368 tTx),BI (.slice 40 AW)]:=rfl
def Bw:Ty:=.struct 65 [0,32,64] [(.arr 32 (.int .u8)),(.arr 32 (.int .u8)),(.int .u64)]
@[go_sem] theorem z2K:Bw.known=true:=rfl
@[go_sem] theorem z2H:Bw.DF=true:=rfl
@[go_sem] theorem z2G:Bw.isAgg=true:=rfl
@[go_sem] theorem z2L:Bw.size=65:=rfl
@[go_sem] theorem z2I:Bw.DI=[(.arr 32 (.int .u8)),(.arr 32 (.int .u8)),(.int .u64)]:=rfl
@[go_sem] theorem z2J:Bw.kids=3:=rfl
@[go_sem] theorem z2C:Bw.CP=true:=by kernel_rfl
@[go_sem] theorem z2D:Bw.get 0=(.arr 32 (.int .u8)):=rfl
@[go_sem] theorem z2z:Bw.child 0=some (0,(.arr 32 (.int .u8))):=rfl
@[go_sem] theorem z2E:Bw.get 1=(.arr 32 (.int .u8)):=rfl
@[go_sem] theorem z2A:Bw.child 1=some (32,(.arr 32 (.int .u8))):=rfl
@[go_sem] theorem z2F:Bw.get 2=(.int .u64):=rfl
@[go_sem] theorem z2B:Bw.child 2=some (64,(.int .u64)):=rfl
@[go_sem] theorem z2N:AI Bw= .agg [(AI (.arr 32 (.int .u8))),(AI (.arr 32 (.int .u8))),(.int 0)]:=rfl
@[go_sem] theorem z2M:BI Bw= .d Bw (AI Bw):=rfl
def Bc:Ty:=.struct 3 [0,2] [Bf,(.slice 72 Bw)]
@[go_sem] theorem z4J:Bc.known=true:=rfl
@[go_sem] theorem z4G:Bc.DF=true:=rfl
@[go_sem] theorem z4F:Bc.isAgg=true:=rfl
@[go_sem] theorem z4K:Bc.size=3:=rfl
@[go_sem] theorem z4H:Bc.DI=[Bf,(.slice 72 Bw)]:=rfl
@[go_sem] theorem z4I:Bc.kids=2:=rfl
@[go_sem] theorem z4C:Bc.CP=true:=by kernel_rfl
@[go_sem] theorem z4D:Bc.get 0=Bf:=rfl
@[go_sem] theorem z4A:Bc.child 0=some (0,Bf):=rfl
@[go_sem] theorem z4E:Bc.get 1=(.slice 72 Bw):=rfl
@[go_sem] theorem z4B:Bc.child 1=some (2,(.slice 72 Bw)):=rfl
@[go_sem] theorem z4M:AI Bc= .agg [(AI Bf),(.slice [])]:=rfl
@[go_sem] theorem z4L:BI Bc= .agg Bc [BI Bf,BI (.slice 72 Bw)]:=rfl
def BN:Ty:=.struct 3 [0,1,2] [(.slice 8 (.int .u64)),(.slice 8 (.int .u64)),(.int .u64)]
@[go_sem] theorem z6H:BN.known=true:=rfl
@[go_sem] theorem z6E:BN.DF=true:=rfl
@[go_sem] theorem z6D:BN.isAgg=true:=rfl
@[go_sem] theorem z6I:BN.size=3:=rfl
@[go_sem] theorem z6F:BN.DI=[(.slice 8 (.int .u64)),(.slice 8 (.int .u64)),(.int .u64)]:=rfl
@[go_sem] theorem z6G:BN.kids=3:=rfl
@[go_sem] theorem z6z:BN.CP=true:=by kernel_rfl
@[go_sem] theorem z6A:BN.get 0=(.slice 8 (.int .u64)):=rfl
@[go_sem] theorem z6w:BN.child 0=some (0,(.slice 8 (.int .u64))):=rfl
@[go_sem] theorem z6B:BN.get 1=(.slice 8 (.int .u64)):=rfl
@[go_sem] theorem z6x:BN.child 1=some (1,(.slice 8 (.int .u64))):=rfl
@[go_sem] theorem z6C:BN.get 2=(.int .u64):=rfl
@[go_sem] theorem z6y:BN.child 2=some (2,(.int .u64)):=rfl
@[go_sem] theorem z6K:AI BN= .agg [(.slice []),(.slice []),(.int 0)]:=rfl
@[go_sem] theorem z6J:BI BN= .agg BN [BI (.slice 8 (.int .u64)),BI (.slice 8 (.int .u64)),BI (.int .u64)]:=rfl
def Bz:Ty:=.struct 1 [0] [.map]
@[go_sem] theorem z4w:Bz.known=true:=rfl
@[go_sem] theorem z4t:Bz.DF=true:=rfl
@[go_sem] theorem z4s:Bz.isAgg=true:=rfl
@[go_sem] theorem z4x:Bz.size=1:=rfl
@[go_sem] theorem z4u:Bz.DI=[.map]:=rfl
@[go_sem] theorem z4v:Bz.kids=1:=rfl
@[go_sem] theorem z4q:Bz.CP=true:=by kernel_rfl
@[go_sem] theorem z4r:Bz.get 0= .map:=rfl
@[go_sem] theorem z4p:Bz.child 0=some (0,.map):=rfl
@[go_sem] theorem z4z:AI Bz= .agg [.nil]:=rfl
@[go_sem] theorem z4y:BI Bz= .d Bz (AI Bz):=rfl
def AP:Ty:=.struct 33 [0,32] [(.arr 32 (.int .u8)),(.int .u64)]
@[go_sem] theorem z2v:AP.known=true:=rfl
@[go_sem] theorem z2s:AP.DF=true:=rfl
@[go_sem] theorem z2r:AP.isAgg=true:=rfl
@[go_sem] theorem z2w:AP.size=33:=rfl
@[go_sem] theorem z2t:AP.DI=[(.arr 32 (.int .u8)),(.int .u64)]:=rfl
@[go_sem] theorem z2u:AP.kids=2:=rfl
@[go_sem] theorem z2o:AP.CP=true:=by kernel_rfl
@[go_sem] theorem z2p:AP.get 0=(.arr 32 (.int .u8)):=rfl
@[go_sem] theorem z2m:AP.child 0=some (0,(.arr 32 (.int .u8))):=rfl
@[go_sem] theorem z2q:AP.get 1=(.int .u64):=rfl
@[go_sem] theorem z2n:AP.child 1=some (32,(.int .u64)):=rfl
@[go_sem] theorem z2y:AI AP= .agg [(AI (.arr 32 (.int .u8))),(.int 0)]:=rfl
@[go_sem] theorem z2x:BI AP= .d AP (AI AP):=rfl
def DS:Ty:=.struct 73 [0,8,72] [(.arr 8 (.int .u32)),(.arr 64 (.int .u8)),(.int .u64)]
@[go_sem] theorem z4l:DS.known=true:=rfl
@[go_sem] theorem z4i:DS.DF=true:=rfl
@[go_sem] theorem z4h:DS.isAgg=true:=rfl
@[go_sem] theorem z4m:DS.size=73:=rfl
@[go_sem] theorem z4j:DS.DI=[(.arr 8 (.int .u32)),(.arr 64 (.int .u8)),(.int .u64)]:=rfl
@[go_sem] theorem z4k:DS.kids=3:=rfl
@[go_sem] theorem z4d:DS.CP=true:=by kernel_rfl
@[go_sem] theorem z4e:DS.get 0=(.arr 8 (.int .u32)):=rfl
@[go_sem] theorem z4a:DS.child 0=some (0,(.arr 8 (.int .u32))):=rfl
@[go_sem] theorem z4f:DS.get 1=(.arr 64 (.int .u8)):=rfl
@[go_sem] theorem z4b:DS.child 1=some (8,(.arr 64 (.int .u8))):=rfl
@[go_sem] theorem z4g:DS.get 2=(.int .u64):=rfl
@[go_sem] theorem z4c:DS.child 2=some (72,(.int .u64)):=rfl
@[go_sem] theorem z4o:AI DS= .agg [(AI (.arr 8 (.int .u32))),(AI (.arr 64 (.int .u8))),(.int 0)]:=rfl
@[go_sem] theorem z4n:BI DS= .d DS (AI DS):=rfl
def Fi:Ty:=.struct 3 [0,1,2] [.str,(.int .i64),(.int .i64)]
@[go_sem] theorem z3v:Fi.known=true:=rfl
@[go_sem] theorem z3s:Fi.DF=true:=rfl
@[go_sem] theorem z3r:Fi.isAgg=true:=rfl
@[go_sem] theorem z3w:Fi.size=3:=rfl
@[go_sem] theorem z3t:Fi.DI=[.str,(.int .i64),(.int .i64)]:=rfl
@[go_sem] theorem z3u:Fi.kids=3:=rfl
@[go_sem] theorem z3n:Fi.CP=true:=by kernel_rfl
@[go_sem] theorem z3o:Fi.get 0= .str:=rfl
@[go_sem] theorem z3k:Fi.child 0=some (0,.str):=rfl
@[go_sem] theorem z3p:Fi.get 1=(.int .i64):=rfl
@[go_sem] theorem z3l:Fi.child 1=some (1,(.int .i64)):=rfl
@[go_sem] theorem z3q:Fi.get 2=(.int .i64):=rfl
@[go_sem] theorem z3m:Fi.child 2=some (2,(.int .i64)):=rfl
@[go_sem] theorem z3y:AI Fi= .agg [(.str []),(.int 0),(.int 0)]:=rfl
@[go_sem] theorem z3x:BI Fi= .d Fi (AI Fi):=rfl
def tOp:Ty:=.struct 39 [0,1,2,38] [(.int .i64),(.int .u64),CR,(.int .u64)]
@[go_sem] theorem z40:tOp.known=true:=rfl
@[go_sem] theorem z4X:tOp.DF=true:=rfl
@[go_sem] theorem z4W:tOp.isAgg=true:=rfl
@[go_sem] theorem z41:tOp.size=39:=rfl
@[go_sem] theorem z4Y:tOp.DI=[(.int .i64),(.int .u64),CR,(.int .u64)]:=rfl
@[go_sem] theorem z4Z:tOp.kids=4:=rfl
@[go_sem] theorem z4R:tOp.CP=true:=by kernel_rfl
@[go_sem] theorem z4S:tOp.get 0=(.int .i64):=rfl
@[go_sem] theorem z4N:tOp.child 0=some (0,(.int .i64)):=rfl
@[go_sem] theorem z4T:tOp.get 1=(.int .u64):=rfl
@[go_sem] theorem z4O:tOp.child 1=some (1,(.int .u64)):=rfl
@[go_sem] theorem z4U:tOp.get 2=CR:=rfl
@[go_sem] theorem z4P:tOp.child 2=some (2,CR):=rfl
@[go_sem] theorem z4V:tOp.get 3=(.int .u64):=rfl
@[go_sem] theorem z4Q:tOp.child 3=some (38,(.int .u64)):=rfl
@[go_sem] theorem z43:AI tOp= .agg [(.int 0),(.int 0),(AI CR),(.int 0)]:=rfl
@[go_sem] theorem z42:BI tOp= .d tOp (AI tOp):=rfl
def DJ:Ty:=.struct 3 [0,1,2] [(.int .u32),(.int .u64),(.int .u64)]
@[go_sem] theorem z3K:DJ.known=true:=rfl
@[go_sem] theorem z3H:DJ.DF=true:=rfl
@[go_sem] theorem z3G:DJ.isAgg=true:=rfl
@[go_sem] theorem z3L:DJ.size=3:=rfl
@[go_sem] theorem z3I:DJ.DI=[(.int .u32),(.int .u64),(.int .u64)]:=rfl
@[go_sem] theorem z3J:DJ.kids=3:=rfl
@[go_sem] theorem z3C:DJ.CP=true:=by kernel_rfl
@[go_sem] theorem z3D:DJ.get 0=(.int .u32):=rfl
@[go_sem] theorem z3z:DJ.child 0=some (0,(.int .u32)):=rfl
@[go_sem] theorem z3E:DJ.get 1=(.int .u64):=rfl
@[go_sem] theorem z3A:DJ.child 1=some (1,(.int .u64)):=rfl
@[go_sem] theorem z3F:DJ.get 2=(.int .u64):=rfl
@[go_sem] theorem z3B:DJ.child 2=some (2,(.int .u64)):=rfl
@[go_sem] theorem z3N:AI DJ= .agg [(.int 0),(.int 0),(.int 0)]:=rfl
@[go_sem] theorem z3M:BI DJ= .d DJ (AI DJ):=rfl
def Cy:Ty:=.struct 40 [0,39] [tOp,(.slice 24 DJ)]
@[go_sem] theorem z7G:Cy.known=true:=rfl
@[go_sem] theorem z7D:Cy.DF=true:=rfl
@[go_sem] theorem z7C:Cy.isAgg=true:=rfl
@[go_sem] theorem z7H:Cy.size=40:=rfl
@[go_sem] theorem z7E:Cy.DI=[tOp,(.slice 24 DJ)]:=rfl
@[go_sem] theorem z7F:Cy.kids=2:=rfl
@[go_sem] theorem z7z:Cy.CP=true:=by kernel_rfl
@[go_sem] theorem z7A:Cy.get 0=tOp:=rfl
@[go_sem] theorem z7x:Cy.child 0=some (0,tOp):=rfl
@[go_sem] theorem z7B:Cy.get 1=(.slice 24 DJ):=rfl
@[go_sem] theorem z7y:Cy.child 1=some (39,(.slice 24 DJ)):=rfl
@[go_sem] theorem z7J:AI Cy= .agg [(AI tOp),(.slice [])]:=rfl
@[go_sem] theorem z7I:BI Cy= .agg Cy [BI tOp,BI (.slice 24 DJ)]:=rfl
def FQ:Ty:=.struct 2 [0,1] [(.int .u64),(.int .u64)]
@[go_sem] theorem z3g:FQ.known=true:=rfl
@[go_sem] theorem z3d:FQ.DF=true:=rfl
@[go_sem] theorem z3c:FQ.isAgg=true:=rfl
@[go_sem] theorem z3h:FQ.size=2:=rfl
@[go_sem] theorem z3e:FQ.DI=[(.int .u64),(.int .u64)]:=rfl
@[go_sem] theorem z3f:FQ.kids=2:=rfl
@[go_sem] theorem z29:FQ.CP=true:=by kernel_rfl
@[go_sem] theorem z3a:FQ.get 0=(.int .u64):=rfl
@[go_sem] theorem z27:FQ.child 0=some (0,(.int .u64)):=rfl
@[go_sem] theorem z3b:FQ.get 1=(.int .u64):=rfl
@[go_sem] theorem z28:FQ.child 1=some (1,(.int .u64)):=rfl
@[go_sem] theorem z3j:AI FQ= .agg [(.int 0),(.int 0)]:=rfl
@[go_sem] theorem z3i:BI FQ= .d FQ (AI FQ):=rfl
def DT:Ty:=.struct 5 [0,2,3,4] [FQ,(.int .u64),(.int .u64),(.int .u64)]
@[go_sem] theorem z5u:DT.known=true:=rfl
@[go_sem] theorem z5r:DT.DF=true:=rfl
@[go_sem] theorem z5q:DT.isAgg=true:=rfl
@[go_sem] theorem z5v:DT.size=5:=rfl
@[go_sem] theorem z5s:DT.DI=[FQ,(.int .u64),(.int .u64),(.int .u64)]:=rfl
@[go_sem] theorem z5t:DT.kids=4:=rfl
@[go_sem] theorem z5l:DT.CP=true:=by kernel_rfl
@[go_sem] theorem z5m:DT.get 0=FQ:=rfl
@[go_sem] theorem z5h:DT.child 0=some (0,FQ):=rfl
@[go_sem] theorem z5n:DT.get 1=(.int .u64):=rfl
@[go_sem] theorem z5i:DT.child 1=some (2,(.int .u64)):=rfl
@[go_sem] theorem z5o:DT.get 2=(.int .u64):=rfl
@[go_sem] theorem z5j:DT.child 2=some (3,(.int .u64)):=rfl
@[go_sem] theorem z5p:DT.get 3=(.int .u64):=rfl
@[go_sem] theorem z5k:DT.child 3=some (4,(.int .u64)):=rfl
@[go_sem] theorem z5x:AI DT= .agg [(AI FQ),(.int 0),(.int 0),(.int 0)]:=rfl
@[go_sem] theorem z5w:BI DT= .d DT (AI DT):=rfl
def Dp:Ty:=.struct 1069 [0,1,2,3,42,43] [(.int .i64),(.int .u32),(.int .u64),tOp,(.slice 24 DJ),Cq]
@[go_sem] theorem z36:Dp.known=true:=rfl
@[go_sem] theorem z33:Dp.DF=true:=rfl
@[go_sem] theorem z31:Dp.isAgg=true:=rfl
@[go_sem] theorem z37:Dp.size=1069:=rfl
@[go_sem] theorem z34:Dp.DI=[(.int .i64),(.int .u32),(.int .u64),tOp,(.slice 24 DJ),Cq]:=rfl
@[go_sem] theorem z35:Dp.kids=6:=rfl
@[go_sem] theorem z3U:Dp.CP=true:=by kernel_rfl
@[go_sem] theorem z3V:Dp.get 0=(.int .i64):=rfl
@[go_sem] theorem z3O:Dp.child 0=some (0,(.int .i64)):=rfl
@[go_sem] theorem z3W:Dp.get 1=(.int .u32):=rfl
@[go_sem] theorem z3P:Dp.child 1=some (1,(.int .u32)):=rfl
@[go_sem] theorem z3X:Dp.get 2=(.int .u64):=rfl
@[go_sem] theorem z3Q:Dp.child 2=some (2,(.int .u64)):=rfl
@[go_sem] theorem z3Y:Dp.get 3=tOp:=rfl
@[go_sem] theorem z3R:Dp.child 3=some (3,tOp):=rfl
@[go_sem] theorem z3Z:Dp.get 4=(.slice 24 DJ):=rfl
@[go_sem] theorem z3S:Dp.child 4=some (42,(.slice 24 DJ)):=rfl
@[go_sem] theorem z30:Dp.get 5=Cq:=rfl
@[go_sem] theorem z3T:Dp.child 5=some (43,Cq):=rfl
@[go_sem] theorem z39:AI Dp= .agg [(.int 0),(.int 0),(.int 0),(AI tOp),(.slice []),(AI Cq)]:=rfl
@[go_sem] theorem z38:BI Dp= .agg Dp [BI (.int .i64),BI (.int .u32),BI (.int .u64),BI tOp,BI (.slice 24 DJ),BI Cq]:=rfl
def Dv:Ty:=.struct 4 [0,1,2,3] [(.int .u8),(.slice 32 (.arr 32 (.int .u8))),(.slice 1 (.int .u8)),(.slice 16 (.arr 2 (.int .i64)))]
@[go_sem] theorem z7t:Dv.known=true:=rfl
@[go_sem] theorem z7q:Dv.DF=true:=rfl
@[go_sem] theorem z7p:Dv.isAgg=true:=rfl
@[go_sem] theorem z7u:Dv.size=4:=rfl
@[go_sem] theorem z7r:Dv.DI=[(.int .u8),(.slice 32 (.arr 32 (.int .u8))),(.slice 1 (.int .u8)),(.slice 16 (.arr 2 (.int .i64)))]:=rfl
@[go_sem] theorem z7s:Dv.kids=4:=rfl
@[go_sem] theorem z7k:Dv.CP=true:=by kernel_rfl
@[go_sem] theorem z7l:Dv.get 0=(.int .u8):=rfl
@[go_sem] theorem z7g:Dv.child 0=some (0,(.int .u8)):=rfl
@[go_sem] theorem z7m:Dv.get 1=(.slice 32 (.arr 32 (.int .u8))):=rfl
@[go_sem] theorem z7h:Dv.child 1=some (1,(.slice 32 (.arr 32 (.int .u8)))):=rfl
@[go_sem] theorem z7n:Dv.get 2=(.slice 1 (.int .u8)):=rfl
@[go_sem] theorem z7i:Dv.child 2=some (2,(.slice 1 (.int .u8))):=rfl
@[go_sem] theorem z7o:Dv.get 3=(.slice 16 (.arr 2 (.int .i64))):=rfl
@[go_sem] theorem z7j:Dv.child 3=some (3,(.slice 16 (.arr 2 (.int .i64)))):=rfl
@[go_sem] theorem z7w:AI Dv= .agg [(.int 0),(.slice []),(.slice []),(.slice [])]:=rfl
@[go_sem] theorem z7v:BI Dv= .agg Dv [BI (.int .u8),BI (.slice 32 (.arr 32 (.int .u8))),BI (.slice 1 (.int .u8)),BI (.slice 16 (.arr 2 (.int .i64)))]:=rfl
end Go.E
