/-
 A framework for runs of Go code over abstract data: what it needs, and that it is sound, part 8.
 Conditions: none.
-/
import Derived.Test.YteealakhniofoaaGreatDoorEg
set_option linter.all false
noncomputable section
set_option maxRecDepth 100000
set_option maxHeartbeats 4000000
open Bool renaming and_eq_true->bg,true_and->qt
open Go.E.C renaming get->bj,set->cm
open Go.E.Hp renaming le_refl->ic
open Go.E.O renaming ren->xw
open Go.E.S renaming start->mh
open Go.E.Sh renaming fill->pe,many->pj
open Go.E.V renaming ren->si
open List renaming getElem?_eq_some_iff->ca,map_congr_left->pw,map_cons->dt,map_map->px,zipWith->jz
open OfNat renaming ofNat->rr
open Option renaming ite_none_right_eq_some->ba
namespace Go.E
open Go
section
abbrev KD (R:Type):=List C->List Es->Option R
theorem pK {α:Type} (_:String) (a:α):∃b,b=a:=⟨a,rfl⟩
def lid {α:Type} (n:String) (a:α):α:=Classical.choose (pK n a)
theorem BQ {α:Type} (n:String) (a:α):lid n a=a:=Classical.choose_spec (pK n a)
def jn {R:Type}:KD R->(KD R->Option R)->Option R:=lid "" fun k b=>b k
theorem AW {R:Type} (k:KD R) (b:KD R->Option R):jn k b=b k:=by unfold jn;rw[BQ]
def qE {R:Type}:Nat->(KD R->List C->List Es->Option R)->List C->List Es->Option R
 |0,_,_,_=>none|n+1,F,ds,ms=>F (qE n F) ds ms
def BO {R:Type}:Nat->(KD R->List C->List Es->Option R)->List C->List Es->Option R:=lid "" qE
theorem qH {R:Type} (F:KD R->List C->List Es->Option R) (ds:List C) (ms:List Es):BO 0 F ds ms=none:=by unfold BO;rw[BQ];rfl
theorem Dl {R:Type} (n:Nat) (F:KD R->List C->List Es->Option R) (ds:List C) (ms:List Es):BO (n+1) F ds ms=F (BO n F) ds ms:=by unfold BO;rw[BQ];rfl
abbrev Hints:=List (List Nat × Hint)
def Mq:Hints->List Nat->Option Hint
 | [],_=>none|(q,h)::l,p=>if q=p then some h else Mq l p
def exJ {R:Type} (h:Option Hint) (s:S) (K:S->Option R) (body:(S->Option R)->Option R):Option R:=
 match h with
 |none=>body K|some h=>RT (Zt h s) fun sh=>jn (fun ds ms=>K (HM sh s.A ds ms)) fun k=>body fun s1=>JR sh s1 k
theorem UT {R:Type} {r:R} {h:Option Hint} {s:S} {K:S->Option R} {body:(S->Option R)->Option R} {P:S->Prop} {G:Prop} (hP:∀s1 s2,P s1->WkA s1 s2->P s2) (hA:∀s1,P s1->s1.A=s.A) (hj:exJ h s K body=some r)
  (hb:∀k:S->Option R,body k=some r->(∃s1,k s1=some r/\P s1)\/G):(∃s2,K s2=some r/\P s2)\/G:=by
 unfold exJ at hj;split at hj;{exact hb _ hj};{rename_i h';rw[Yh,AW]at hj;rcases hb _ hj with⟨s1,h1,h2⟩|hg;{obtain⟨ds,ms,h3,h4⟩:=Qk h1;rw[hA s1 h2]at h4;exact .inl ⟨_,h3,hP _ _ h2 h4⟩};{exact .inr hg}}
def Iu:Code->Option (List Code × Nat × Code)
 | .seq a b=>(match a with| .label l=>some ([],l,b)|a=>(match Iu b with|some x=>some (a::x.1,x.2)|none=>none))|_=>none
def VV (l:Nat):List Code->Bool
 | []=>true|a::as=>(match findLabel a l with|some _=>false|none=>VV l as)
theorem mZ:∀(c:Code) {as:List Code} {r:Code} {l:Nat},Iu c=some (as,l,r)->VV l as=true->findLabel c l=some (.seq .skip r)
 | .seq a b,as,r,l,h,hn=>by
  unfold Iu at h;split at h;{cases h;simp[findLabel]}
  ·split at h
   ·rename_i x hx;obtain⟨as',l',r'⟩:=x;cases h;simp only[VV]at hn;simp only[findLabel];cases ha:findLabel a l with
    |some y=>rw[ha]at hn;cases hn
    |none=>rw[ha]at hn;exact mZ b hx hn
   ·cases h
 | .skip,_,_,_,h,_| .region _ _ _,_,_,_,h,_| .cond _ _ _,_,_,_,h,_| .block _ _,_,_,_,h,_| .loop _,_,_,_,h,_| .exit _,_,_,_,h,_| .scope _,_,_,_,h,_| .label _,_,_,_,h,_| .goto _,_,_,_,h,_| .ret,_,_,_,h,_| .rangeFunc _ _ _ _,_,_,_,h,_| .refuse _,_,_,_,h,_=>by simp[Iu]at h
def UU {R:Type} (run:List Nat->Code->S->KE R->Option R):List Code->List Nat->S->(S->Option R)->KE R->Option R
 | [],_,s,k,_=>k s|a::l,p,s,k,K=>run (0::p) a s fun e s1=>match e with| .normal=>frc s1 fun s1=>UU run l (1::p) s1 k K|e=>K e s1
def exC {R:Type} (X:Cx) (call:Ed R) (ext:EU) (tbl:Nat->List (Nat × Nat)) (hs:Hints) (N:Nat) (n:Nat):Nat->List Nat->Code->S->KE R->Option R
 |0,_,_,_,_=>none|f+1,p,c,s,K=>match c with
  | .skip=>K .normal s| .region id ops draw=>exJ (Mq hs p) (Ov (tbl id) s) (fun s=>K .normal s) fun k=>YG X call ext (tbl id) n ops.toList draw (Ov (tbl id) s) k| .seq a b=>exC X call ext tbl hs N n f (0::p) a s fun e s1=>match e with| .normal=>frc s1 fun s1=>exC X call ext tbl hs N n f (1::p) b s1 K|e=>K e s1
  | .cond (.tmp t) a b=>exJ (Mq hs p) s (fun s=>K .normal s) fun k=>(match s.get t with
    | .d .bool c=>bif c.toBool then exC X call ext tbl hs N n f (2::p) a (s.lit t c true) fun e s1=>(match e with
      | .normal=>k s1|e=>K e s1)else exC X call ext tbl hs N n f (3::p) b (s.lit t c false) fun e s1=>(match e with
      | .normal=>k s1|e=>K e s1)
    |_=>none)
  | .block id a=>exJ (Mq hs p) s (fun s=>K .normal s) fun k=>exC X call ext tbl hs N n f (4::p) a s fun e s1=>match e with| .exit i=>if i=id then k s1 else K (.exit i) s1| .normal=>k s1|e=>K e s1
  | .loop a=>(match Mq hs p with|none=>RC (exC X call ext tbl hs N n f (5::p) a) (slotsOf s.env) f s K|some h=>RT (Zt h s) fun sh=>JR sh s fun ds ms=>BO N (fun rec ds ms=>exC X call ext tbl hs N n f (5::p) a (HM sh s.A ds ms) fun e s1=>match e with| .normal=>JR sh s1 rec|e=>K e s1) ds ms)| .exit id=>K (.exit id) s
  | .scope a=>(match Mq hs p with
    |none=>exC X call ext tbl hs N n f (6::p) a s fun e s1=>match e with| .goto _=>none|e=>K e s1
    |some h=>(match Iu a with
     |some (as,l,rest)=>if VV l as=true then UU (exC X call ext tbl hs N n f) as (6::p) s
       (fun s1=>RT (Zt h s1) fun sh=>JR sh s1 fun ds ms=>BO N (fun rec ds ms=>exC X call ext tbl hs N n f (7::p) rest (HM sh s1.A ds ms) fun e s2=>match e with| .goto l'=>if l'=l then JR sh s2 rec else none|e=>K e s2) ds ms)
       (fun e s1=>match e with| .goto _=>none|e=>K e s1)else none
     |none=>none))
  | .label _=>K .normal s| .goto l=>K (.goto l) s| .ret=>K .ret s|_=>none
def Way (X:Cx) (n:Nat) (c:Code) (s:S) (e:Exit) (s':S):Prop:=
 s'.A=s.A/\∀A',leA s.A A'->∀Ψ:Exit->S->Prop,Ψ e (s'.wA A')->DC X n c (s.wA A') Ψ
theorem Way.MG {X:Cx} {n:Nat} {c:Code} {s s1 s2:S} {e:Exit} (h:Way X n c s e s1) (hw:WkA s1 s2):Way X n c s e s2:=by refine⟨hw.1.trans h.1,fun A' hA Ψ hΨ=>?_⟩;refine(h.2 A' hA (fun e1 s3=>e1=e/\s3=s1.wA A') ⟨rfl,rfl⟩).post ?_;rintro e1 s3 ⟨rfl,rfl⟩;exact⟨_,hw.2 X n A' (by rw[h.1];exact hA),hΨ⟩
section
variable {X:Cx} {R:Type} {call:Ed R} {ext:EU} (hP:BN X.P=true) (hmo:X.P.follows .mixedOrders=true) (hc:JK X call) (he:Ig X ext)
theorem qF {c:Code} {n:Nat} {sh:SSh} {A0:Key->Option O} {body:S->KE R->Option R} {K:KE R} {r:R} (hb:∀s (K:KE R),body s K=some r->MJ X n c s r K):
  ∀(N:Nat) (ds:List C) (ms:List Es),BO N (fun rec ds ms=>body (HM sh A0 ds ms) fun e s1=>match e with| .normal=>JR sh s1 rec|e=>K e s1) ds ms=some r->∃e s',K e s'=some r/\s'.A=A0/\∀A',leA A0 A'->∀Ψ:Exit->S->Prop,Ψ e (s'.wA A')->∀(Γ0:G) (a:Act) (w:World),At X n Γ0 ((HM sh A0 ds ms).wA A') a w->Code.rounds X.P c (fun e a w=>∃s',Ψ e s'/\At X n Γ0 s' a w) N a w
 |0,ds,ms,h=>by simp[qH]at h
 |N+1,ds,ms,h=>by
  simp only[Dl]at h;obtain⟨e0,s1,h1,hA1,hD⟩:=hb _ _ h;have z7h:∀(hne:e0≠.normal),K e0 s1=some r->∃e s',K e s'=some r/\s'.A=A0/\∀A',leA A0 A'->∀Ψ:Exit->S->Prop,Ψ e (s'.wA A')->∀(Γ0:G) (a:Act) (w:World),At X n Γ0 ((HM sh A0 ds ms).wA A') a w->Code.rounds X.P c (fun e a w=>∃s',Ψ e s'/\At X n Γ0 s' a w) (N+1) a w:=by
   intro hne h1;refine⟨e0,s1,h1,hA1,fun A' hA Ψ hΨ Γ0 a w hat=>?_⟩;rw[rounds_succ];refine wp_mono (hD A' hA (fun e1 s2=>e1=e0/\s2=s1.wA A') ⟨rfl,rfl⟩ Γ0 a w hat) ?_;rintro e1 a1 w1 ⟨s2,⟨rfl,rfl⟩,z61⟩;cases e1 with
   |normal=>exact absurd rfl hne|exit _|goto _|ret|panic _|outgrown=>exact⟨_,hΨ,z61⟩
  cases e0 with
  |normal=>
   obtain⟨ds',ms',h3,hw⟩:=Qk h1;rw[show s1.A=A0 from hA1]at hw;obtain⟨e,s',h4,h5,h6⟩:=qF hb N ds' ms' h3;refine⟨e,s',h4,h5,fun A' hA Ψ hΨ Γ0 a w hat=>?_⟩;rw[rounds_succ];refine wp_mono (hD A' hA (fun e1 s2=>e1= .normal/\s2=s1.wA A') ⟨rfl,rfl⟩ Γ0 a w hat) ?_;rintro e1 a1 w1 ⟨s2,⟨rfl,rfl⟩,z61⟩;exact h6 A' hA Ψ hΨ Γ0 a1 w1 (hw.2 X n A' (by rw[show s1.A=A0 from hA1];exact hA) Γ0 a1 w1 z61)
  |exit _|goto _|ret|panic _|outgrown=>exact z7h (by simp) h1
theorem lL {n:Nat} {r:R} {run:List Nat->Code->S->KE R->Option R} (zc:∀p c s (K:KE R),run p c s K=some r->MJ X n c s r K):∀(as:List Code) (p:List Nat) (s:S) (k:S->Option R) (K:KE R),UU run as p s k K=some r->
  (∃s1,k s1=some r/\s1.A=s.A/\∀c l rest,Iu c=some (as,l,rest)->∀A',leA s.A A'->∀Ψ:Exit->S->Prop,DC X n rest (s1.wA A') Ψ->DC X n c (s.wA A') Ψ)\/
  (∃e s1,e≠.normal/\K e s1=some r/\s1.A=s.A/\∀c l rest,Iu c=some (as,l,rest)->∀A',leA s.A A'->∀Ψ:Exit->S->Prop,Ψ e (s1.wA A')->DC X n c (s.wA A') Ψ)
 | [],p,s,k,K,h=>by refine .inl ⟨s,h,rfl,fun c l rest hc A' hA Ψ hd=>?_⟩;cases c <;> simp only[Iu,reduceCtorEq]at hc;rename_i a b;split at hc;{cases hc;exact CX (jH hd)};{split at hc;{cases hc};{cases hc}}
 |a::as,p,s,k,K,h=>by
  simp only[UU]at h;obtain⟨e,s1,h1,a1,d1⟩:=zc _ _ _ _ h;have inv:∀c l rest,Iu c=some (a::as,l,rest)->∃b,c= .seq a b/\Iu b=some (as,l,rest):=by intro c l rest hc;cases c <;> simp only[Iu,reduceCtorEq]at hc;split at hc;{cases hc};{split at hc;{rename_i x hx;obtain⟨x1,x2⟩:=x;cases hc;exact⟨_,rfl,hx⟩};{cases hc}}
  cases e with
  |normal=>
   rcases lL zc as (1::p) s1 k K (by dsimp only at h1;rw[Yk]at h1;exact h1)with⟨s2,h2,a2,d2⟩|⟨e,s2,hne,h2,a2,d2⟩;{refine .inl ⟨s2,h2,a2.trans a1,fun c l rest hc A' hA Ψ hd=>?_⟩;obtain⟨b,rfl,hb⟩:=inv c l rest hc;exact CX (d1 A' hA _ (d2 b l rest hb A' (by rw[a1];exact hA) Ψ hd))};{refine .inr ⟨e,s2,hne,h2,a2.trans a1,fun c l rest hc A' hA Ψ hd=>?_⟩;obtain⟨b,rfl,hb⟩:=inv c l rest hc;exact CX (d1 A' hA _ (d2 b l rest hb A' (by rw[a1];exact hA) Ψ hd))}
  |exit _|goto _|ret|panic _|outgrown=>
   refine .inr ⟨_,s1,by simp,h1,a1,fun c l rest hc A' hA Ψ hd=>?_⟩;obtain⟨b,rfl,hb⟩:=inv c l rest hc;exact CX (d1 A' hA _ hd)
def Ends (X:Cx) (n:Nat) (l:Nat) (rest:Code) (sh:SSh) (A0:Key->Option O) (e:Exit) (s':S):Nat->List C->List Es->Prop
 |0,_,_=>False|m+1,ds,ms=>∃e2 s2,Way X n rest (HM sh A0 ds ms) e2 s2/\((e2= .goto l/\∃ds' ms',WkA s2 (HM sh A0 ds' ms')/\Ends X n l rest sh A0 e s' m ds' ms')\/((∀l',e2≠.goto l')/\e2=e/\s2=s'))
theorem wK {n l:Nat} {rest:Code} {sh:SSh} {A0:Key->Option O} {body:S->KE R->Option R} {K:KE R} {r:R} (hb:∀s (K:KE R),body s K=some r->MJ X n rest s r K):
  ∀(N:Nat) (ds:List C) (ms:List Es),BO N (fun rec ds ms=>body (HM sh A0 ds ms) fun e s2=>match e with| .goto l'=>if l'=l then JR sh s2 rec else none|e=>K e s2) ds ms=some r->∃e s',K e s'=some r/\s'.A=A0/\(∀l',e≠.goto l')/\Ends X n l rest sh A0 e s' N ds ms
 |0,ds,ms,h=>by simp[qH]at h
 |N+1,ds,ms,h=>by
  rw[Dl]at h;obtain⟨e0,s1,h1,a1,d1⟩:=hb _ _ h;have a1:s1.A=A0:=a1;cases e0 with
  |goto l'=>
   dsimp only at h1;by_cases hl:l'=l;{rw[if_pos hl]at h1;subst hl;obtain⟨ds',ms',h2,hw⟩:=Qk h1;rw[a1]at hw;obtain⟨e,s',h3,h4,h5,h6⟩:=wK hb N ds' ms' h2;exact⟨e,s',h3,h4,h5,_,s1,⟨a1,d1⟩,.inl ⟨rfl,ds',ms',hw,h6⟩⟩};{rw[if_neg hl]at h1;cases h1}
  |normal|exit _|ret|panic _|outgrown=>
   exact⟨_,s1,h1,a1,by simp,_,s1,⟨a1,d1⟩,.inr ⟨by simp,rfl,rfl⟩⟩
theorem q7o {n l:Nat} {c rest:Code} {sh:SSh} {A0:Key->Option O} {e:Exit} {s':S} (hf:findLabel c l=some (.seq .skip rest)) {N:Nat} {ds:List C} {ms:List Es} (hE:Ends X n l rest sh A0 e s' N ds ms) {A':Key->Option O} (hA:leA A0 A') {s0:S}
  (first:∀Ψ:Exit->S->Prop,DC X n rest ((HM sh A0 ds ms).wA A') Ψ->DC X n c s0 Ψ) {Ψ:Exit->S->Prop} (hΨ:Ψ e (s'.wA A')):DC X n (.scope c) s0 Ψ:=by
 have pass:∀i:{x:Nat × List C × List Es // Ends X n l rest sh A0 e s' x.1 x.2.1 x.2.2},DC X n rest ((HM sh A0 i.1.2.1 i.1.2.2).wA A') fun e2 s2=>match e2 with| .goto l'=>l'=l/\∃j:{x:Nat × List C × List Es // Ends X n l rest sh A0 e s' x.1 x.2.1 x.2.2},EE X n s2 ((HM sh A0 j.1.2.1 j.1.2.2).wA A')/\j.1.1<i.1.1|e2=>Ψ e2 s2:=by
  rintro⟨⟨m,ds,ms⟩,h⟩;cases m with
  |zero=>exact h.elim|succ m=>
   obtain⟨e2,s2,hw,h1⟩:=h;refine hw.2 A' hA _ ?_;rcases h1 with⟨rfl,ds',ms',hwk,hE'⟩|⟨hne,rfl,rfl⟩;{exact⟨rfl,⟨⟨m,ds',ms'⟩,hE'⟩,hwk.2 X n A' (by rw[hw.1];exact hA),Nat.lt_succ_self m⟩};{cases e2 with|goto l'=>exact absurd rfl (hne l')|normal|exit _|ret|panic _|outgrown=>exact hΨ}
 refine J1 l hf (fun i=>(HM sh A0 i.1.2.1 i.1.2.2).wA A') (fun i=>i.1.1) ?_ (fun i=>CX (Gp (pass i)));refine first _ ((pass ⟨⟨N,ds,ms⟩,hE⟩).post ?_)
 intro e2 s2 h;refine⟨s2,EE.refl _,?_⟩;cases e2 with
 |goto l'=>exact⟨h.1,h.2.choose,h.2.choose_spec.1⟩|normal|exit _|ret|panic _|outgrown=>exact h
include hP hmo hc he
theorem lK {tbl:Nat->List (Nat × Nat)} {hs:Hints} {N n:Nat} {r:R}:∀(f:Nat) (p:List Nat) (c:Code) (s:S) (K:KE R),exC X call ext tbl hs N n f p c s K=some r->MJ X n c s r K
 |0,p,c,s,K,h=>by simp[exC]at h
 |f+1,p,c,s,K,h=>by
  have IH:=lK (tbl:=tbl) (hs:=hs) (N:=N) (n:=n) (r:=r) f;cases c with
  |skip=>exact⟨_,_,h,rfl,fun A' hA Ψ hΨ=>Gp hΨ⟩|region id ops draw=>
   simp only[exC]at h;have hw:=RQ (tbl id) s;have:=UT (P:=fun s1=>Way X n (.region id ops draw) (Ov (tbl id) s) .normal s1) (G:=False) (fun s1 s2 h1 h2=>h1.MG h2) (fun s1 h=>h.1) h fun k hk=>by obtain⟨s',h1,h2,h3⟩:=q0E hP hmo hc he (id:=id) hk;refine .inl ⟨s',h1,h2,fun A' hA Ψ hΨ=>?_⟩;have:=h3 A' hA Ψ hΨ;simpa using this
   rcases this with⟨s2,h1,h2⟩|h;{exact⟨_,s2,h1,h2.1.trans hw.1,fun A' hA Ψ hΨ=>DC.MG (hw.2 X n A' hA) (h2.2 A' (by rw[hw.1];exact hA) Ψ hΨ)⟩};{exact h.elim}
  |seq c1 c2=>
   simp only[exC]at h;obtain⟨e0,s1,h1,a1,d1⟩:=IH _ c1 s _ h;cases e0 with
   |normal=>
    obtain⟨e2,s2,h2,a2,d2⟩:=IH (1::p) c2 s1 K (by dsimp only at h1;rw[Yk]at h1;exact h1);exact⟨e2,s2,h2,a2.trans a1,fun A' hA Ψ hΨ=>CX (d1 A' hA _ (d2 A' (by rw[a1];exact hA) Ψ hΨ))⟩
   |exit _|goto _|ret|panic _|outgrown=>exact⟨_,s1,h1,a1,fun A' hA Ψ hΨ=>CX (d1 A' hA _ hΨ)⟩
  |cond t c1 c2=>
   cases t with
   |tmp t=>
    simp only[exC]at h;have:=UT (P:=fun s1=>Way X n (.cond (.tmp t) c1 c2) s .normal s1) (G:=MJ X n (.cond (.tmp t) c1 c2) s r K) (fun s1 s2 h1 h2=>h1.MG h2) (fun s1 h=>h.1) h fun k hk=>by
     split at hk
     ·rename_i v hv;cases hb:v.toBool with
      |true=>
       rw[hb]at hk;simp only[cond_true]at hk;rw[ZT hv hb]at hk;obtain⟨e2,s2,h2,a2,d2⟩:=IH _ c1 s _ hk;have w2:Way X n (.cond (.tmp t) c1 c2) s e2 s2:=⟨a2,fun A' hA Ψ hΨ=>jG hv (fun _=>d2 A' hA Ψ hΨ) (fun h=>by rw[hb]at h;cases h)⟩;cases e2 with
       |normal=>exact .inl ⟨s2,h2,w2⟩|exit _|goto _|ret|panic _|outgrown=>exact .inr ⟨_,s2,h2,w2⟩
      |false=>
       rw[hb]at hk;simp only[cond_false]at hk;rw[ZT hv hb]at hk;obtain⟨e2,s2,h2,a2,d2⟩:=IH _ c2 s _ hk;have w2:Way X n (.cond (.tmp t) c1 c2) s e2 s2:=⟨a2,fun A' hA Ψ hΨ=>jG hv (fun h=>by rw[hb]at h;cases h) (fun _=>d2 A' hA Ψ hΨ)⟩;cases e2 with
       |normal=>exact .inl ⟨s2,h2,w2⟩|exit _|goto _|ret|panic _|outgrown=>exact .inr ⟨_,s2,h2,w2⟩
     ·cases hk
    rcases this with⟨s2,h1,h2⟩|h;{exact⟨_,s2,h1,h2⟩};{exact h}
   |const _|global _|func _=>simp[exC]at h
  |block id c1=>
   simp only[exC]at h;have:=UT (P:=fun s1=>Way X n (.block id c1) s .normal s1) (G:=MJ X n (.block id c1) s r K) (fun s1 s2 h1 h2=>h1.MG h2) (fun s1 h=>h.1) h fun k hk=>by
    obtain⟨e0,s1,h1,a1,d1⟩:=IH _ c1 s _ hk;cases e0 with
    |exit i=>
     dsimp only at h1;by_cases hi:i=id;{rw[if_pos hi]at h1;refine .inl ⟨s1,h1,a1,fun A' hA Ψ hΨ=>Tz (d1 A' hA _ ?_)⟩;simp only;rw[if_pos hi];exact hΨ};{rw[if_neg hi]at h1;refine .inr ⟨_,s1,h1,a1,fun A' hA Ψ hΨ=>Tz (d1 A' hA _ ?_)⟩;simp only;rw[if_neg hi];exact hΨ}
    |normal=>exact .inl ⟨s1,h1,a1,fun A' hA Ψ hΨ=>Tz (d1 A' hA _ hΨ)⟩|goto _|ret|panic _|outgrown=>exact .inr ⟨_,s1,h1,a1,fun A' hA Ψ hΨ=>Tz (d1 A' hA _ hΨ)⟩
   rcases this with⟨s2,h1,h2⟩|h;{exact⟨_,s2,h1,h2⟩};{exact h}
  |loop c1=>
   simp only[exC]at h;split at h;{obtain⟨e,s',h1,h2,h3⟩:=kJ (fun s K h=>IH _ c1 s K h) f s K h;exact⟨e,s',h1,h2,fun A' hA Ψ hΨ Γ0 a w hat=>wp_loop_rounds f (h3 A' hA Ψ hΨ Γ0 a w hat)⟩};{rename_i hh;rw[Yh]at h;obtain⟨ds,ms,h1,hw⟩:=Qk h;obtain⟨e,s',h4,h5,h6⟩:=qF (c:=c1) (body:=exC X call ext tbl hs N n f (5::p) c1) (fun s K h=>IH _ c1 s K h) N ds ms h1;exact⟨e,s',h4,h5,fun A' hA Ψ hΨ Γ0 a w hat=>wp_loop_rounds N (h6 A' hA Ψ hΨ Γ0 a w (hw.2 X n A' hA Γ0 a w hat))⟩}
  |exit id=>exact⟨_,_,h,rfl,fun A' hA Ψ hΨ=>U8 hΨ⟩|scope c1=>
   simp only[exC]at h;split at h
   ·obtain⟨e0,s1,h1,a1,d1⟩:=IH _ c1 s _ h;cases e0 with
    |goto i=>cases h1
    |normal|exit _|ret|panic _|outgrown=>exact⟨_,s1,h1,a1,fun A' hA Ψ hΨ=>jI (d1 A' hA _ hΨ)⟩
   ·rename_i hh _;split at h
    ·rename_i as l rest hd;simp only[ba]at h;obtain⟨hnl,h⟩:=h;rcases lL (fun p c s K h=>IH p c s K h) as _ s _ _ h with⟨s1,h1,a1,d1⟩|⟨e,s1,hne,h1,a1,d1⟩;{rw[Yh]at h1;obtain⟨ds,ms,h2,hw⟩:=Qk h1;obtain⟨e,s',h3,h4,h5,h6⟩:=wK (rest:=rest) (body:=exC X call ext tbl hs N n f (7::p) rest) (fun s K h=>IH _ rest s K h) N ds ms h2;refine⟨e,s',h3,h4.trans a1,fun A' hA Ψ hΨ=>?_⟩;exact q7o (mZ _ hd hnl) h6 (by rw[a1];exact hA) (fun Ψ' hd'=>d1 c1 l rest hd A' hA Ψ' (DC.MG (hw.2 X n A' (by rw[a1];exact hA)) hd')) hΨ}
     ·cases e with
      |goto i=>cases h1
      |normal|exit _|ret|panic _|outgrown=>exact⟨_,s1,h1,a1,fun A' hA Ψ hΨ=>jI (d1 c1 l rest hd A' hA _ hΨ)⟩
    ·cases h
  |label _=>exact⟨_,_,h,rfl,fun A' hA Ψ hΨ=>jH hΨ⟩|goto _=>exact⟨_,_,h,rfl,fun A' hA Ψ hΨ=>U9 hΨ⟩|ret=>exact⟨_,_,h,rfl,fun A' hA Ψ hΨ=>FM hΨ⟩|rangeFunc _ _ _ _=>simp[exC]at h|refuse _=>simp[exC]at h
end
def exF {R:Type} (X:Cx) (ov:OvK R) (ext:EU) (tbl:FuncId->Nat->List (Nat × Nat)) (hs:FuncId->Hints) (N fuel:Nat):Nat->Ed R
 |0,_,_,_,_=>none|d+1,f,xs,A,K=>match ov f with
  |some g=>g xs A K|none=>(match X.P.funcs[f]? with|some fn=>(match fn.body with|some c=>if xs.length<=fn.ntmps then exJ (Mq (hs f) [9]) (mh xs A) (fun s=>kL X fn s K) fun k=>exC X (exF X ov ext tbl hs N fuel d) ext (tbl f) (hs f) N fn.ntmps fuel [] c (nbS (mh xs A)) fun e s=>(match e with| .normal=>k s| .ret=>k s|_=>none)else none|none=>none)|none=>none)
section
variable {X:Cx} {R:Type} {ov:OvK R} {ext:EU} (hP:BN X.P=true) (hmo:X.P.follows .mixedOrders=true) (hov:XH X ov) (he:Ig X ext)
include hP hmo hov he
theorem UR {tbl:FuncId->Nat->List (Nat × Nat)} {hs:FuncId->Hints} {N fuel:Nat}:∀d,JK X (exF X ov ext tbl hs N fuel d)
 |0=>by intro f xs A K r h;simp[exF]at h
 |d+1=>by
  intro f xs A K r h;simp only[exF]at h;split at h;{rename_i g hg;exact hov f g hg xs A K r h};split at h
  ·rename_i fn hf;split at h
   ·rename_i c hb;simp only[ba]at h;obtain⟨hl,h⟩:=h;have:=UT (P:=fun s1=>∃e:Exit,(e= .normal\/e= .ret)/\Way X fn.ntmps c (mh xs A) e s1) (G:=False) (fun s1 s2 ⟨e,h1,h2⟩ h3=>⟨e,h1,h2.MG h3⟩) (fun s1 ⟨e,_,h⟩=>h.1) h fun k hk=>by
     obtain⟨e,s',h1,h2⟩:=lK hP hmo (UR d) he fuel [] c (nbS (mh xs A)) _ hk;have h2:Way X fn.ntmps c (mh xs A) e s':=⟨h2.1,fun A' hA Ψ hΨ=>DC.MG ((qW (mh xs A)).2 X fn.ntmps A' hA) (h2.2 A' hA Ψ hΨ)⟩;cases e with
     |normal=>exact .inl ⟨s',h1,_,.inl rfl,h2⟩|ret=>exact .inl ⟨s',h1,_,.inr rfl,h2⟩|exit _|goto _|panic _|outgrown=>cases h1
    rcases this with⟨s',h1,e,he',h2,h3⟩|h;{obtain⟨v,L,h4,h5⟩:=q0F h1;refine⟨v,L,Jw hP hf hb rfl hl fun A' hA=>?_,h4⟩;exact h3 A' hA (fun e s'=>(e= .normal\/e= .ret)/\Eu X fn A' v L s') ⟨he',h5 A' (by rw[h2];exact hA)⟩};{exact h.elim}
   ·cases h
  ·cases h
end
end
def Ic (a b k:Key):Key:=if k=a then b else if k=b then a else k
theorem QR (a b k:Key):Ic a b (Ic a b k)=k:=by unfold Ic;by_cases h1:k=a;{subst h1;rw[if_pos rfl];by_cases h2:b=k;{rw[if_pos h2];exact h2};{rw[if_neg h2,if_pos rfl]}};{rw[if_neg h1];by_cases h2:k=b;{subst h2;rw[if_pos rfl,if_pos rfl]};{rw[if_neg h2,if_neg h1,if_neg h2]}}
def swU (a b:Key):Key->Key
 | .g k=>.g (Ic a b k)| .l n=>.l n
theorem Jk (a b k:Key):swU a b (swU a b k)=k:=by cases k <;> simp[swU,QR]
def Tip.cJ (ρ:Key->Key):Tip->Tip
 | .tok t=>.tok t| .home k p=>.home (ρ k) p
def G.perm (Γ:G) (ρ:Key->Key):G:={Γ with ι:=fun k=>Γ.ι (ρ k),κ:=fun b=>(Γ.κ b).map fun p=>(p.1.cJ ρ,p.2)}
def GI (a b:Key) (A:Key->Option O):Key->Option O:=fun k=>(A (Ic a b k)).map (xw (swU a b))
theorem q41 (a b:Key) (A:Key->Option O):GI a b (GI a b A)=A:=by
 funext k;unfold GI;rw[QR];cases A k with
 |none=>rfl|some o=>simp[O.Kb _ _ (Jk a b)]
def Pl (a b:Key) (L:List (Key × O)):List (Key × O):=L.map fun p=>(swU a b p.1,p.2.ren (swU a b))
theorem qA (a b:Key):∀(L:List (Key × O)) (k:Key),AY (Pl a b L) k=(AY L (swU a b k)).map (xw (swU a b))
 | [],_=>rfl|(j,o)::L,k=>by
  show(if swU a b j=k then some (o.ren (swU a b))else AY (Pl a b L) k)=(if j=swU a b k then some o else AY L (swU a b k)).map (xw (swU a b));by_cases h:j=swU a b k
  ·have:swU a b j=k:=by rw[h,Jk]
   rw[if_pos this,if_pos h];rfl
  ·have:swU a b j≠k:=fun e=>h (by rw[<-e,Jk]);rw[if_neg this,if_neg h];exact qA a b L k
theorem AX.perm {Γ:G} {w:World} {s s':S} {ρ:Key->Key} (c:AX Γ w s) (hρ:∀k,ρ (ρ k)=k) (ho:∀k,s'.obj k=(s.obj (ρ k)).map (xw ρ)) (hl:∀t,s'.live t=s.live t) (hk:∀t,s.known t=true->s'.known t=true):AX (Γ.perm ρ) w s':=by
 have pr:∀hm,HG Γ (Γ.perm ρ) ρ hm:=fun hm=>⟨ic _,fun k x h=>by simp[G.perm,hρ,h],fun _ _ h=>h,fun k b p sz _ h=>⟨by simp[G.perm,h,Tip.cJ],rfl⟩⟩;have hd:∀k,s.CY (ρ k)=true->s'.CY k=true:=fun k h=>by
  unfold S.CY at h ⊢;rw[ho];cases hs:s.obj (ρ k)with
  |none=>rw[hs]at h;cases h
  |some o=>rw[hs]at h;simpa[OT,O.Sk]using h
 refine⟨c.hH,c.hZ,fun b o sz h=>?_,fun k o h=>?_,fun k h=>?_,fun k k' b τ τ' h1 h2=>?_,fun t L h=>?_,fun t ht=>hk t (c.yv t ht),c.hgl,c.hoo,c.hσ⟩
 ·cases hb:Γ.κ b with
  |none=>simp[G.perm,hb]at h|some p=>
   obtain⟨t,sz'⟩:=p;simp[G.perm,hb]at h;obtain⟨rfl,rfl⟩:=h;obtain⟨a1,a2,arr,T,a3,a4,a5⟩:=c.hκ b t sz' hb;exact⟨a1,a2,arr,T,a3,a4,by cases t with|tok=>trivial|home _ p=>cases p <;> exact a5⟩
 ·rw[ho]at h;cases hs:s.obj (ρ k)with
  |none=>rw[hs]at h;cases h
  |some o0=>
   rw[hs]at h;cases h;refine(c.obj (ρ k) o0 hs).imp (fun h=>⟨h.1,O.Ww h.2⟩) fun yq=>?_
   have:=Own.ren (pr _) (w':=w) (fun hd b τ hb=>by
    obtain⟨e1,e2,_⟩:=c.FK hb hs hd;exact⟨rfl,e1,e2⟩) (Nat.le_refl _) yq
   rw[hρ]at this;exact this
 ·rw[ho];have:=c.dom (ρ k) h;cases hs:s.obj (ρ k)with|none=>exact absurd hs this|some o=>simp
 ·refine(c.inj (ρ k) (ρ k') b τ τ' h1 h2).imp (fun e=>by rw[<-hρ k,e,hρ]) (And.imp (Or.imp (hd k) (hd k')) id)
 ·rw[hl]at h;obtain⟨x,h1,h2⟩:=c.tok t L h;refine⟨x,h1,fun b pos sz hx=>?_⟩;obtain⟨h3,h4⟩:=h2 b pos sz hx;exact⟨h3,by simp[G.perm,h4,Tip.cJ]⟩
def DL (a b:Key) (x:V):V:=x.ren (swU a b) id
theorem cK (a b:Key) (x:V):DL a b (DL a b x)=x:=V.Kb _ _ (Jk a b) x
theorem q6H (a b:Key) (n:Nat) (x:V):(DL a b x).ED n=x.ED n:=by cases x <;> simp[DL,si,V.ED]
theorem q6F (a b:Key) (n:Nat) (x:V):(DL a b x).slot n=DL a b (x.slot n):=by cases x <;> simp[DL,si,V.slot]
theorem Wo (a b:Key):∀(n:Nat) (xs:List V),Gj n (xs.map (DL a b))=Gj n xs
 |_,[]=>rfl|n,x::xs=>by simp only[dt,Gj,q6H,Wo a b (n+1) xs]
theorem dS (a b:Key):∀(n:Nat) (xs:List V),DW n (xs.map (DL a b))=(DW n xs).map (DL a b)
 |_,[]=>rfl|n,x::xs=>by simp only[dt,DW,q6F,dS a b (n+1) xs]
theorem uY (a b:Key):∀(xs:List V),V.Dn (swU a b) id xs=xs.map (DL a b)
 | []=>rfl|x::xs=>by simp only[V.Dn,dt,uY a b xs];rfl
theorem cL (a b:Key) (xs:List V):DL a b (.tup xs)= .tup (xs.map (DL a b)):=by simp only[DL,si,uY]
theorem q6G (a b:Key) (n:Nat) (x:V):(DL a b x).DV n=DL a b (x.DV n):=by
 cases x with
 |tup xs=>rw[cL];simp only[V.DV];rw[dS,cL]|yf=>rfl|d|sl|ts|emp|ptr|yg|sr|mp|agg|fn|top|any=>simp[DL,si,V.DV,V.slot]
theorem uW (a b:Key) (n:Nat) (x:V):(DL a b x).tkR n=x.tkR n:=by
 cases x with
 |tup xs=>rw[cL];simp only[V.tkR];exact Wo a b n xs|yf=>rfl|d|sl|ts|emp|ptr|yg|sr|mp|agg|fn|top|any=>simp[DL,si,V.tkR,V.ED]
theorem O.q4I (a b:Key) {o:O} (h:o.ok CP CP=true):(o.ren (swU a b)).ok CP CP=true:=by
 have key:(∀x:V,x.ok CP CP=true->(x.ren (swU a b) id).ok CP CP=true):=by
  intro x
  induction x using V.rec (motive_2:=fun xs=>V.oks CP CP xs=true->V.oks CP CP (V.Dn (swU a b) id xs)=true)with
  |ptr k q τ=>intro h;cases k <;> simp[V.ok,si,swU,CP]at h ⊢
  |sr k q lo n cp eb e=>intro h;cases k <;> simp[V.ok,si,swU,CP]at h ⊢
  |mp k=>intro h;cases k <;> simp[V.ok,si,swU,CP]at h ⊢
  |sl=>intro h;simp[V.ok,CP]at h|agg τ vs ih=>intro h;simp only[V.ok,si]at h ⊢;exact ih h|fn f vs ih=>intro h;simp only[V.ok,si]at h ⊢;exact ih h|tup vs ih=>intro h;simp only[V.ok,si]at h ⊢;exact ih h|nil=>simp only[V.Dn,V.oks]|cons x xs ih1 ih2 h=>
   simp only[V.oks,bg]at h;simp only[V.Dn,V.oks,bg];exact⟨ih1 h.1,ih2 h.2⟩
  |_=>intro _;simp only[si,V.ok]
 cases o with
 |box x=>exact key x h|map kτ vτ es=>
  simp only[xw,O.ok]at h ⊢;cases vτ.FC
  case true=>exact h
  simp only[cond_false]
  induction es with
  |nil=>rfl|cons c es ih=>
   simp only[V.Dm,bg]at h;simp only[dt,V.Dm,bg];exact⟨key _ h.1,ih h.2⟩
 |it=>rfl|dead=>rfl
theorem Cc.swap {X:Cx} {f:FuncId} {xs:List V} {A:Key->Option O} {v:V} {L:List (Key × O)} (a b:Key) (D:Cc X f xs A v L):
  Cc X f (xs.map (DL a b)) (GI a b A) (DL a b v) (Pl a b L):=by
 intro A' Γ w args hA hgl ⟨c,hok⟩ hlen hr;have hxs:(xs.map (DL a b)).map (DL a b)=xs:=by rw[px];exact(pw (g:=id) fun x _=>cK a b x).trans (List.map_id _)
 have hA':∀k o,A k=some o->GI a b A' k=some o:=by
  intro k o h;have h1:GI a b A (Ic a b k)=some (o.ren (swU a b)):=by simp[GI,QR,h]
  have h2:=hA _ _ h1;simp[GI,h2,O.Kb _ _ (Jk a b)]
 have yj:∀k,S.obj (mh xs (GI a b A')) k=(S.obj (mh (xs.map (DL a b)) A') (swU a b k)).map (xw (swU a b)):=by
  intro k;cases k with
  |l n=>rfl|g k=>simp[mh,S.obj,Cs,AY,swU,GI]
 have c1:=c.perm (s':=mh xs (GI a b A')) (Jk a b) yj (fun t=>by simp only[mh,S.live,Wo]) (fun t h=>by simpa only[mh,S.known,Wo]using h);have z9d:AOk (GI a b A'):=by
  intro k o h;unfold GI at h;cases hk:A' (Ic a b k)with
  |none=>rw[hk]at h;cases h
  |some o0=>rw[hk]at h;cases h;exact O.q4I a b (hok _ _ hk)
 have pr:HG Γ (Γ.perm (swU a b)) (swU a b) none:=⟨ic _,fun k x h=>by simp[G.perm,Jk,h],fun _ _ h=>h,fun k _ _ _ h=>by cases h⟩;refine(D (GI a b A') (Γ.perm (swU a b)) w args hA' hgl ⟨c1,z9d⟩ (by simpa using hlen) fun i x u hx hu=>?_).mono ?_
 ·have h1:(DW 1000 (xs.map (DL a b)))[i]? =some (DL a b x):=by rw[dS,List.getElem?_map,hx];rfl
  have:=(hr i _ u h1 hu).ren (θ:=id) pr (fun _ _ h=>h);have e:si (swU a b) id (DL a b x)=x:=cK a b x
  rwa [e]at this
 ·rintro e w' ⟨u,Γ',rfl,gle,c',hu⟩;have z63:∀k,S.obj (S.fin (DL a b v) (Pl a b L) A') k=(S.obj (S.fin v L (GI a b A')) (swU a b k)).map (xw (swU a b)):=by
   intro k;simp only[S.fin,S.obj,Cs,qA];cases hl:AY L (swU a b k)with
   |some o=>rfl|none=>
    cases k with
    |l n=>rfl|g k=>
     simp only[Option.map_none,swU,GI,QR];cases A' k with
     |none=>rfl|some o=>simp[O.Kb _ _ (Jk a b)]
  have c2:=c'.perm (s':=S.fin (DL a b v) (Pl a b L) A') (Jk a b) z63 (fun t=>by simp only[S.fin,S.live,uW]) (fun t h=>by simpa only[S.fin,S.known,uW]using h);have pr':HG Γ' (Γ'.perm (swU a b)) (swU a b) none:=⟨ic _,fun k x h=>by simp[G.perm,Jk,h],fun _ _ h=>h,fun k _ _ _ h=>by cases h⟩;refine⟨u,Γ'.perm (swU a b),rfl,⟨gle.H,gle.Z,gle.ZH,fun k x h=>?_,gle.gl,gle.oo,gle.σ,fun k h=>?_⟩,c2,?_⟩;{refine gle.g (Ic a b k) x ?_;show Γ.ι (swU a b (.g (Ic a b k)))=some x;simp[swU,QR,h]};{refine gle.gn (Ic a b k) ?_;show Γ.ι (swU a b (.g (Ic a b k)))=none;simp[swU,QR,h]};{rw[q6G];exact hu.ren (θ:=id) pr' (fun _ _ h=>h)}
mutual
def Sh.fit {R:Type}:Sh->V->(List C->Option R)->Option R
 | .d τ,x,K=>(match x with| .d τ' c=>if τ'=τ then K [c]else none|_=>none)| .sl _ _ _,_,_=>none| .ts eb e,x,K=>(match x with| .ts eb' e' cs=>if eb'=eb/\e'=e then K [.slice cs]else none|_=>none)| .sr k q cp eb e,x,K=>(match x with| .sr k' q' lo n cp' eb' e'=>if k'=k/\q'=q/\eb'=eb/\e'=e then(match cp,cp' with|false,none=>K [.int lo,.int n]|true,some c=>K [.int lo,.int n,.int c]|_,_=>none)else none|_=>none)| .yg τ,x,K=>(match x with| .yg τ' c=>if τ'=τ then K [c]else none|_=>none)| .arr e,x,K=>(match x with| .d (.arr n e') c=>if e'=e then(if n=c.elems.length then K [c]else none)else none|_=>none)| .agg τ l,x,K=>(match x with| .agg τ' vs=>if τ'=τ then Sh.fits l vs K else none|_=>none)| .as v,x,K=>if V.same x v=true then K []else none| .vec k eb e,x,K=>(match x with| .sr k' q' lo n cp' eb' e'=>if k'=k/\q'=[]/\lo=0/\cp'.isNone=true/\eb'=eb/\e'=e then K [.int n]else none|_=>none)| .fnc f l,x,K=>(match x with| .fn f' vs=>if f'=f then Im l vs K else none|_=>none)
def Sh.fits {R:Type}:List Sh->List V->(List C->Option R)->Option R
 | [],[],K=>K []|s::l,x::xs,K=>s.fit x fun d1=>Sh.fits l xs fun d2=>K (d1++d2)|_,_,_=>none
end
mutual
theorem Sh.mB {R:Type} {r:R}:∀(s:Sh) (x:V) {K:List C->Option R},s.fit x K=some r->∃ds,K ds=some r/\ds.length=s.many/\s.fill 0 ds=x
 | .d τ,x,K,h=>by cases x <;> simp only[Sh.fit,reduceCtorEq,ba]at h;obtain⟨rfl,h⟩:=h;exact⟨_,h,by simp[pj],by simp[pe,dk]⟩
 | .sl _ _ _,x,K,h=>by simp[Sh.fit]at h
 | .ts eb e,x,K,h=>by cases x <;> simp only[Sh.fit,reduceCtorEq,ba]at h;obtain⟨⟨rfl,rfl⟩,h⟩:=h;exact⟨_,h,by simp[pj],by simp[pe,dk,C.elems]⟩
 | .sr k q cp eb e,x,K,h=>by cases x <;> simp only[Sh.fit,reduceCtorEq,ba]at h;obtain⟨⟨rfl,rfl,rfl,rfl⟩,h⟩:=h;split at h;{exact⟨_,h,by simp[pj],by simp[pe,dk,C.toInt]⟩};{exact⟨_,h,by simp[pj],by simp[pe,dk,C.toInt]⟩};{cases h}
 | .yg τ,x,K,h=>by cases x <;> simp only[Sh.fit,reduceCtorEq,ba]at h;obtain⟨rfl,h⟩:=h;exact⟨_,h,by simp[pj],by simp[pe,dk]⟩
 | .arr e,x,K,h=>by simp only[Sh.fit]at h;split at h;{simp only[ba]at h;obtain⟨rfl,h1,h⟩:=h;subst h1;exact⟨_,h,by simp[pj],by simp[pe,dk]⟩};{cases h}
 | .agg τ l,x,K,h=>by cases x <;> simp only[Sh.fit,reduceCtorEq,ba]at h;obtain⟨rfl,h⟩:=h;obtain⟨ds,h1,h2,h3⟩:=Sh.Yb l _ h;exact⟨ds,h1,by simpa only[pj]using h2,by simp only[pe];rw[h3]⟩
 | .as v,x,K,h=>by simp only[Sh.fit,ba]at h;obtain⟨h1,h⟩:=h;have:=V.WX _ _ h1;subst this;exact⟨_,h,by simp[pj],by simp only[pe]⟩
 | .vec k eb e,x,K,h=>by
  cases x <;> simp only[Sh.fit,reduceCtorEq,ba]at h;obtain⟨⟨rfl,rfl,rfl,hc,rfl,rfl⟩,h⟩:=h;rename_i cp _ _;cases cp with
  |some c=>cases hc
  |none=>exact⟨_,h,by simp[pj],by simp[pe,dk,C.toInt]⟩
 | .fnc f l,x,K,h=>by cases x <;> simp only[Sh.fit,reduceCtorEq,ba]at h;obtain⟨rfl,h⟩:=h;obtain⟨ds,h1,h2,h3⟩:=Tl l _ h;exact⟨ds,h1,by simpa only[pj]using h2,by simp only[pe,h3]⟩
theorem Sh.Yb {R:Type} {r:R}:∀(l:List Sh) (xs:List V) {K:List C->Option R},Sh.fits l xs K=some r->∃ds,K ds=some r/\ds.length=Sh.Hq l/\Sh.Ej l 0 ds=xs
 | [],xs,K,h=>by cases xs <;> simp only[Sh.fits,reduceCtorEq]at h;exact⟨_,h,by simp[Sh.Hq],by simp[Sh.Ej]⟩
 |s::l,[],K,h=>by simp[Sh.fits]at h
 |s::l,x::xs,K,h=>by
  simp only[Sh.fits]at h;obtain⟨d1,h1,h2,h3⟩:=Sh.mB s x h;obtain⟨d2,h5,h6,h7⟩:=Sh.Yb l xs h1;refine⟨_,h5,by simp[Sh.Hq,h2,h6],?_⟩;have e1:s.fill 0 (d1++d2)=s.fill 0 d1:=Sh.LG s 0 0 _ _ fun j hj=>Jy (by omega);have e2:Sh.Ej l s.many (d1++d2)=Sh.Ej l 0 d2:=Sh.RP l _ 0 _ _ fun j hj=>by rw[Md (by omega),h2];congr 1;omega
  simp only[Sh.Ej,Nat.zero_add,e1,e2];rw[h3,h7]
end
def LH {R:Type} (A:Key->Option O):List (Key × OSh)->(List C->List Es->Option R)->Option R
 | [],K=>K [] []|(k,.box sh)::l,K=>(match A k with|some (.box x)=>sh.fit x fun d1=>LH A l fun d2 m2=>K (d1++d2) m2|_=>none)|(k,.map kτ vτ)::l,K=>(match A k with|some (.map kτ' vτ' es)=>if kτ'=kτ/\vτ'=vτ then(if HK vτ es=true then LH A l fun d2 m2=>K d2 (unE es::m2)else none)else none|_=>none)|_::_,_=>none
theorem Ya {R:Type} {r:R} {A:Key->Option O}:∀(l:List (Key × OSh)) {K:List C->List Es->Option R},LH A l K=some r->
  ∃ds ms,K ds ms=some r/\ds.length=Ft l/\∀k o,AY (CW l 0 0 ds ms) k=some o->A k=some o
 | [],K,h=>⟨[],[],h,rfl,fun k o h=>by simp[CW,AY]at h⟩|(j,.box sh)::l,K,h=>by
  simp only[LH]at h;split at h
  ·rename_i x hx;obtain⟨d1,h1,h2,h3⟩:=Sh.mB sh x h;obtain⟨d2,ms,h4,h5,h6⟩:=Ya l h1;refine⟨_,ms,h4,by simp[Ft,h2,h5],fun k o hk=>?_⟩;have e1:sh.fill 0 (d1++d2)=sh.fill 0 d1:=Sh.LG sh 0 0 _ _ fun j hj=>Jy (by omega);have e2:CW l sh.many 0 (d1++d2) ms=CW l 0 0 d2 ms:=Jd l _ 0 0 _ _ _ fun j hj=>by rw[Md (by omega),h2];congr 1;omega
   simp only[CW,Nat.zero_add,e1,e2,h3,AY]at hk;split at hk;{rename_i e;subst e;cases hk;exact hx};{exact h6 k o hk}
  ·cases h
 |(j,.map kτ vτ)::l,K,h=>by simp only[LH]at h;split at h;{rename_i kτ' vτ' es hx;simp only[ba]at h;obtain⟨⟨rfl,rfl⟩,hd,h⟩:=h;obtain⟨d2,ms,h4,h5,h6⟩:=Ya l h;refine⟨_,_,h4,by simp[Ft,h5],fun k o hk=>?_⟩;simp only[CW,Rk,AY]at hk;split at hk;{rename_i e;subst e;cases hk;rw[show dm (unE es::ms) 0=unE es from rfl,Xx hd];exact hx};{exact h6 k o hk}};{cases h}
 |(_,.dead _)::l,K,h=>by simp[LH]at h
 |(_,.it)::l,K,h=>by simp[LH]at h
mutual
def Sh.unP:Sh->V->List (Key × Key)
 | .as (.ptr (.g a) _ _),.ptr (.g b) _ _=>[(a,b)]| .as (.mp (.g a)),.mp (.g b)=>[(a,b)]| .sr (.g a) _ _ _ _,.sr (.g b) _ _ _ _ _ _=>[(a,b)]| .vec (.g a) _ _,.sr (.g b) _ _ _ _ _ _=>[(a,b)]| .agg _ l,.agg _ xs=>Sh.Wr l xs|_,_=>[]
def Sh.Wr:List Sh->List V->List (Key × Key)
 |s::l,x::xs=>s.unP x++Sh.Wr l xs|_,_=>[]
end
def vQ:List (Key × Key)->Key->Key
 | [],k=>k|(a,b)::l,k=>vQ l (Ic a b k)
def Wj (zo:List (Key × OSh)) (A:Key->Option O):Nat->List (Key × Key)->List (Key × Key)->List Key->List (Key × Key)
 |0,_,sw,_=>sw|_,[],sw,_=>sw
 |f+1,(a,b)::todo,sw,seen=>if VF a seen=true then Wj zo A f todo sw seen else
   (match vQ sw b with
   |b'=>Wj zo A f ((match Zd zo a,A b with|some (.box sh),some (.box x)=>sh.unP x|_,_=>[])++todo) (if a=b' then sw else sw++[(a,b')]) (a::seen))
def dW:List (Key × Key)->List V->List V
 | [],xs=>xs|(a,b)::l,xs=>dW l (xs.map (DL a b))
def swA:List (Key × Key)->(Key->Option O)->Key->Option O
 | [],A=>A|(a,b)::l,A=>swA l (GI a b A)
def eR:List (Key × Key)->V->V
 | [],x=>x|(a,b)::l,x=>DL a b (eR l x)
def eQ:List (Key × Key)->List (Key × O)->List (Key × O)
 | [],x=>x|(a,b)::l,x=>Pl a b (eQ l x)
theorem Cc.sws {X:Cx} {f:FuncId}:∀(sw:List (Key × Key)) {xs:List V} {A:Key->Option O} {v:V} {L:List (Key × O)},Cc X f (dW sw xs) (swA sw A) v L->Cc X f xs A (eR sw v) (eQ sw L)
 | [],xs,A,v,L,h=>h|(a,b)::l,xs,A,v,L,h=>by
  have h1:=(Cc.sws l h).swap a b;have hxs:(xs.map (DL a b)).map (DL a b)=xs:=by rw[px];exact(pw (g:=id) fun x _=>cK a b x).trans (List.map_id _)
  rw[hxs,q41]at h1;exact h1
def Vn (args:List Sh) (zo:List (Key × OSh)) {R:Type} (p:List C->List Es->(V->List (Key × O)->Option R)->Option R):OvG R:=fun xs A K=>
 match Wj zo A 1000 (Sh.Wr args xs) [] []with
 |sw=>Sh.fits args (dW sw xs) fun d1=>LH (swA sw A) zo fun d2 ms=>p (d1++d2) ms fun v L=>K (eR sw v) (eQ sw L)
theorem tG {X:Cx} {f:FuncId} {args:List Sh} {zo:List (Key × OSh)} {R:Type} {p:List C->List Es->(V->List (Key × O)->Option R)->Option R}
  (hp:∀ds ms (K:V->List (Key × O)->Option R) r,p ds ms K=some r->∃v L,Cc X f (Sh.Ej args 0 ds) (AY (CW zo (Sh.Hq args) 0 ds ms)) v L/\K v L=some r):GOk X f (Vn args zo p):=by
 intro xs A Kr r hr;unfold Vn at hr;dsimp only at hr;generalize Wj zo A 1000 (Sh.Wr args xs) [] []=sw at hr;obtain⟨d1,h1,h2,h3⟩:=Sh.Yb args _ hr;obtain⟨d2,ms,h4,h5,h6⟩:=Ya zo h1;obtain⟨v,L,h7,h8⟩:=hp _ _ _ _ h4;refine⟨_,_,Cc.sws sw (v:=v) (L:=L) ?_,h8⟩;have e1:Sh.Ej args 0 (d1++d2)=Sh.Ej args 0 d1:=Sh.RP args 0 0 _ _ fun j hj=>Jy (by omega);have e2:CW zo (Sh.Hq args) 0 (d1++d2) ms=CW zo 0 0 d2 ms:=Jd zo _ 0 0 _ _ _ fun j hj=>by rw[Md (by omega),h2];congr 1;omega
 rw[e1,h3,e2]at h7;exact h7.mono h6
def UW:List (Nat × (List V->Option V))->EU
 | [],_=>none|(i,g)::l,f=>bif Nat.beq f i then some g else UW l f
def Kq (X:Cx):List (Nat × (List V->Option V))->Prop
 | []=>True|p::l=>(∀xs v,p.2 xs=some v->Nu X p.1 xs v)/\Kq X l
theorem lP {X:Cx}:∀{l:List (Nat × (List V->Option V))},Kq X l->Ig X (UW l)
 | [],_=>fun f g xs v h _=>by cases h
 |(i,g0)::l,h=>fun f g xs v hf hv=>by
  simp only[UW]at hf;cases hb:Nat.beq f i with
  |true=>
   rw[hb,cond_true]at hf;cases hf;obtain rfl:=Nat.eq_of_beq_eq_true hb;exact h.1 xs v hv
  |false=>
   rw[hb,cond_false]at hf;exact lP h.2 f g xs v hf hv
theorem Kq.append {X:Cx}:∀{l m:List (Nat × (List V->Option V))},Kq X l->Kq X m->Kq X (l++m)
 | [],_,_,h=>h|_::_,_,h,h'=>⟨h.1,h.2.append h'⟩
@[go_sem] theorem AF {a0:C} {l:List C}:dk (a0::l) 0=a0:=rfl
@[go_sem] theorem AJ {a0 a1:C} {l:List C}:dk (a0::a1::l) 1=a1:=rfl
@[go_sem] theorem AL {a0 a1 a2:C} {l:List C}:dk (a0::a1::a2::l) 2=a2:=rfl
@[go_sem] theorem AP {a0 a1 a2 a3:C} {l:List C}:dk (a0::a1::a2::a3::l) 3=a3:=rfl
@[go_sem] theorem AV {a0 a1 a2 a3 a4:C} {l:List C}:dk (a0::a1::a2::a3::a4::l) 4=a4:=rfl
@[go_sem] theorem Ab {a0 a1 a2 a3 a4 a5:C} {l:List C}:dk (a0::a1::a2::a3::a4::a5::l) 5=a5:=rfl
@[go_sem] theorem Af {a0 a1 a2 a3 a4 a5 a6:C} {l:List C}:dk (a0::a1::a2::a3::a4::a5::a6::l) 6=a6:=rfl
@[go_sem] theorem Ak {a0 a1 a2 a3 a4 a5 a6 a7:C} {l:List C}:dk (a0::a1::a2::a3::a4::a5::a6::a7::l) 7=a7:=rfl
@[go_sem] theorem Ao {a0 a1 a2 a3 a4 a5 a6 a7 a8:C} {l:List C}:dk (a0::a1::a2::a3::a4::a5::a6::a7::a8::l) 8=a8:=rfl
@[go_sem] theorem BC {a0 a1 a2 a3 a4 a5 a6 a7 a8 a9:C} {l:List C}:dk (a0::a1::a2::a3::a4::a5::a6::a7::a8::a9::l) 9=a9:=rfl
@[go_sem] theorem Aq {a0 a1 a2 a3 a4 a5 a6 a7 a8 a9 a10:C} {l:List C}:dk (a0::a1::a2::a3::a4::a5::a6::a7::a8::a9::a10::l) 10=a10:=rfl
@[go_sem] theorem Ar {a0 a1 a2 a3 a4 a5 a6 a7 a8 a9 a10 a11:C} {l:List C}:dk (a0::a1::a2::a3::a4::a5::a6::a7::a8::a9::a10::a11::l) 11=a11:=rfl
@[go_sem] theorem Au {a0 a1 a2 a3 a4 a5 a6 a7 a8 a9 a10 a11 a12:C} {l:List C}:dk (a0::a1::a2::a3::a4::a5::a6::a7::a8::a9::a10::a11::a12::l) 12=a12:=rfl
@[go_sem] theorem Av {a0 a1 a2 a3 a4 a5 a6 a7 a8 a9 a10 a11 a12 a13:C} {l:List C}:dk (a0::a1::a2::a3::a4::a5::a6::a7::a8::a9::a10::a11::a12::a13::l) 13=a13:=rfl
@[go_sem] theorem Aw {a0 a1 a2 a3 a4 a5 a6 a7 a8 a9 a10 a11 a12 a13 a14:C} {l:List C}:dk (a0::a1::a2::a3::a4::a5::a6::a7::a8::a9::a10::a11::a12::a13::a14::l) 14=a14:=rfl
@[go_sem] theorem Ax {a0 a1 a2 a3 a4 a5 a6 a7 a8 a9 a10 a11 a12 a13 a14 a15:C} {l:List C}:dk (a0::a1::a2::a3::a4::a5::a6::a7::a8::a9::a10::a11::a12::a13::a14::a15::l) 15=a15:=rfl
@[go_sem] theorem Ay {a0 a1 a2 a3 a4 a5 a6 a7 a8 a9 a10 a11 a12 a13 a14 a15 a16:C} {l:List C}:dk (a0::a1::a2::a3::a4::a5::a6::a7::a8::a9::a10::a11::a12::a13::a14::a15::a16::l) 16=a16:=rfl
@[go_sem] theorem Az {a0 a1 a2 a3 a4 a5 a6 a7 a8 a9 a10 a11 a12 a13 a14 a15 a16 a17:C} {l:List C}:dk (a0::a1::a2::a3::a4::a5::a6::a7::a8::a9::a10::a11::a12::a13::a14::a15::a16::a17::l) 17=a17:=rfl
@[go_sem] theorem BA {a0 a1 a2 a3 a4 a5 a6 a7 a8 a9 a10 a11 a12 a13 a14 a15 a16 a17 a18:C} {l:List C}:dk (a0::a1::a2::a3::a4::a5::a6::a7::a8::a9::a10::a11::a12::a13::a14::a15::a16::a17::a18::l) 18=a18:=rfl
@[go_sem] theorem BB {a0 a1 a2 a3 a4 a5 a6 a7 a8 a9 a10 a11 a12 a13 a14 a15 a16 a17 a18 a19:C} {l:List C}:dk (a0::a1::a2::a3::a4::a5::a6::a7::a8::a9::a10::a11::a12::a13::a14::a15::a16::a17::a18::a19::l) 19=a19:=rfl
@[go_sem] theorem BG {a0 a1 a2 a3 a4 a5 a6 a7 a8 a9 a10 a11 a12 a13 a14 a15 a16 a17 a18 a19 a20:C} {l:List C}:dk (a0::a1::a2::a3::a4::a5::a6::a7::a8::a9::a10::a11::a12::a13::a14::a15::a16::a17::a18::a19::a20::l) 20=a20:=rfl
@[go_sem] theorem BH {a0 a1 a2 a3 a4 a5 a6 a7 a8 a9 a10 a11 a12 a13 a14 a15 a16 a17 a18 a19 a20 a21:C} {l:List C}:dk (a0::a1::a2::a3::a4::a5::a6::a7::a8::a9::a10::a11::a12::a13::a14::a15::a16::a17::a18::a19::a20::a21::l) 21=a21:=rfl
@[go_sem] theorem BI {a0 a1 a2 a3 a4 a5 a6 a7 a8 a9 a10 a11 a12 a13 a14 a15 a16 a17 a18 a19 a20 a21 a22:C} {l:List C}:dk (a0::a1::a2::a3::a4::a5::a6::a7::a8::a9::a10::a11::a12::a13::a14::a15::a16::a17::a18::a19::a20::a21::a22::l) 22=a22:=rfl
@[go_sem] theorem BJ {a0 a1 a2 a3 a4 a5 a6 a7 a8 a9 a10 a11 a12 a13 a14 a15 a16 a17 a18 a19 a20 a21 a22 a23:C} {l:List C}:dk (a0::a1::a2::a3::a4::a5::a6::a7::a8::a9::a10::a11::a12::a13::a14::a15::a16::a17::a18::a19::a20::a21::a22::a23::l) 23=a23:=rfl
@[go_sem] theorem BK {a0 a1 a2 a3 a4 a5 a6 a7 a8 a9 a10 a11 a12 a13 a14 a15 a16 a17 a18 a19 a20 a21 a22 a23 a24:C} {l:List C}:dk (a0::a1::a2::a3::a4::a5::a6::a7::a8::a9::a10::a11::a12::a13::a14::a15::a16::a17::a18::a19::a20::a21::a22::a23::a24::l) 24=a24:=rfl
@[go_sem] theorem BL {a0 a1 a2 a3 a4 a5 a6 a7 a8 a9 a10 a11 a12 a13 a14 a15 a16 a17 a18 a19 a20 a21 a22 a23 a24 a25:C} {l:List C}:dk (a0::a1::a2::a3::a4::a5::a6::a7::a8::a9::a10::a11::a12::a13::a14::a15::a16::a17::a18::a19::a20::a21::a22::a23::a24::a25::l) 25=a25:=rfl
@[go_sem] theorem JZ {a0:C} {l:List C}:bj (.agg (a0::l)) 0=a0:=rfl
@[go_sem] theorem Mn {a0 a1:C} {l:List C}:bj (.agg (a0::a1::l)) 1=a1:=rfl
@[go_sem] theorem PB {a0 a1 a2:C} {l:List C}:bj (.agg (a0::a1::a2::l)) 2=a2:=rfl
@[go_sem] theorem q9F {a0 a1 a2 a3:C} {l:List C}:bj (.agg (a0::a1::a2::a3::l)) 3=a3:=rfl
@[go_sem] theorem q1r {a0 a1 a2 a3 a4:C} {l:List C}:bj (.agg (a0::a1::a2::a3::a4::l)) 4=a4:=rfl
@[go_sem] theorem q9G {a0 a1 a2 a3 a4 a5:C} {l:List C}:bj (.agg (a0::a1::a2::a3::a4::a5::l)) 5=a5:=rfl
@[go_sem] theorem q9H {a0 a1 a2 a3 a4 a5 a6:C} {l:List C}:bj (.agg (a0::a1::a2::a3::a4::a5::a6::l)) 6=a6:=rfl
@[go_sem] theorem q9I {a0 a1 a2 a3 a4 a5 a6 a7:C} {l:List C}:bj (.agg (a0::a1::a2::a3::a4::a5::a6::a7::l)) 7=a7:=rfl
@[go_sem] theorem q9J {a0 a1 a2 a3 a4 a5 a6 a7 a8:C} {l:List C}:bj (.agg (a0::a1::a2::a3::a4::a5::a6::a7::a8::l)) 8=a8:=rfl
@[go_sem] theorem q9K {a0 a1 a2 a3 a4 a5 a6 a7 a8 a9:C} {l:List C}:bj (.agg (a0::a1::a2::a3::a4::a5::a6::a7::a8::a9::l)) 9=a9:=rfl
@[go_sem] theorem q9z {a0 a1 a2 a3 a4 a5 a6 a7 a8 a9 a10:C} {l:List C}:bj (.agg (a0::a1::a2::a3::a4::a5::a6::a7::a8::a9::a10::l)) 10=a10:=rfl
@[go_sem] theorem q9A {a0 a1 a2 a3 a4 a5 a6 a7 a8 a9 a10 a11:C} {l:List C}:bj (.agg (a0::a1::a2::a3::a4::a5::a6::a7::a8::a9::a10::a11::l)) 11=a11:=rfl
@[go_sem] theorem q9B {a0 a1 a2 a3 a4 a5 a6 a7 a8 a9 a10 a11 a12:C} {l:List C}:bj (.agg (a0::a1::a2::a3::a4::a5::a6::a7::a8::a9::a10::a11::a12::l)) 12=a12:=rfl
@[go_sem] theorem q9C {a0 a1 a2 a3 a4 a5 a6 a7 a8 a9 a10 a11 a12 a13:C} {l:List C}:bj (.agg (a0::a1::a2::a3::a4::a5::a6::a7::a8::a9::a10::a11::a12::a13::l)) 13=a13:=rfl
@[go_sem] theorem q9D {a0 a1 a2 a3 a4 a5 a6 a7 a8 a9 a10 a11 a12 a13 a14:C} {l:List C}:bj (.agg (a0::a1::a2::a3::a4::a5::a6::a7::a8::a9::a10::a11::a12::a13::a14::l)) 14=a14:=rfl
@[go_sem] theorem q9E {a0 a1 a2 a3 a4 a5 a6 a7 a8 a9 a10 a11 a12 a13 a14 a15:C} {l:List C}:bj (.agg (a0::a1::a2::a3::a4::a5::a6::a7::a8::a9::a10::a11::a12::a13::a14::a15::l)) 15=a15:=rfl
@[go_sem] theorem Kg {a0 b:C} {l:List C}:cm (.agg (a0::l)) 0 b= .agg (b::l):=rfl
@[go_sem] theorem QM {a0 a1 b:C} {l:List C}:cm (.agg (a0::a1::l)) 1 b= .agg (a0::b::l):=rfl
@[go_sem] theorem QN {a0 a1 a2 b:C} {l:List C}:cm (.agg (a0::a1::a2::l)) 2 b= .agg (a0::a1::b::l):=rfl
@[go_sem] theorem wN {a0 a1 a2 a3 b:C} {l:List C}:cm (.agg (a0::a1::a2::a3::l)) 3 b= .agg (a0::a1::a2::b::l):=rfl
@[go_sem] theorem wO {a0 a1 a2 a3 a4 b:C} {l:List C}:cm (.agg (a0::a1::a2::a3::a4::l)) 4 b= .agg (a0::a1::a2::a3::b::l):=rfl
@[go_sem] theorem q9N {a0 a1 a2 a3 a4 a5 b:C} {l:List C}:cm (.agg (a0::a1::a2::a3::a4::a5::l)) 5 b= .agg (a0::a1::a2::a3::a4::b::l):=rfl
@[go_sem] theorem q9O {a0 a1 a2 a3 a4 a5 a6 b:C} {l:List C}:cm (.agg (a0::a1::a2::a3::a4::a5::a6::l)) 6 b= .agg (a0::a1::a2::a3::a4::a5::b::l):=rfl
@[go_sem] theorem q9P {a0 a1 a2 a3 a4 a5 a6 a7 b:C} {l:List C}:cm (.agg (a0::a1::a2::a3::a4::a5::a6::a7::l)) 7 b= .agg (a0::a1::a2::a3::a4::a5::a6::b::l):=rfl
attribute [go_sem] AW Nat.beq_refl Bool.and_true qt Bool.not_true Bool.not_false beq_self_eq_true Int.toNat_natCast decide_true decide_false Bool.cond_decide Int.toNat_zero Int.toNat_one
attribute [go_sem 500] Int.ofNat_eq_natCast
attribute [go_sem] Int.cast_ofNat_Int
@[go_sem] theorem q9M (n:Nat):Int.ofNat (@rr Nat n (instOfNatNat n))=@rr Int n instOfNat:=rfl
@[go_sem] theorem q9L (n:Nat):((@rr Nat n (instOfNatNat n):Nat):Int)=@rr Int n instOfNat:=rfl
@[go_sem] theorem BM (a b:Bool):HQ (.bool a) b= .bool b:=rfl
theorem gR (a b:C):C.beq a b=decide (a=b):=by rw[Bool.eq_iff_iff,C.beq_iff,decide_eq_true_eq]
theorem LX {R:Type} {ι:Type} {F:KD R->List C->List Es->Option R} (st:ι->List C) (sm:ι->List Es) (μ:ι->Nat) (P:ι->Prop) (spec:ι->Option R)
  (h:∀i,P i->∀rec:KD R,(∀j,P j->μ j<μ i->rec (st j) (sm j)=spec j)->F rec (st i) (sm i)=spec i):∀(N:Nat) (i:ι),P i->μ i<N->BO N F (st i) (sm i)=spec i
 |0,_,_,h2=>absurd h2 (Nat.not_lt_zero _)|N+1,i,h1,h2=>by rw[Dl];exact h i h1 _ fun j hj hlt=>LX st sm μ P spec h N j hj (by omega)
theorem Fw {R:Type} {F:KD R->List C->List Es->Option R} (st:Nat->List C) (sm:Nat->List Es) (m:Nat) (r:Option R) (step:∀i,i<m->∀rec:KD R,F rec (st i) (sm i)=rec (st (i+1)) (sm (i+1))) (stop:∀rec:KD R,F rec (st m) (sm m)=r) {N:Nat} (hN:m<N):
  BO N F (st 0) (sm 0)=r:=by
 refine LX (F:=F) st sm (fun i=>m-i) (fun i=>i<=m) (fun _=>r) (fun i hi rec zp=>?_) N 0 (Nat.zero_le _) (by omega);by_cases e:i=m;{subst e;exact stop rec};{rw[step i (by omega) rec];exact zp (i+1) (by omega) (by omega)}
theorem Xy {X:Cx} {f:FuncId} {ts:List Ty} {cs:List C} {A:Key->Option O} {v:V} {L:List (Key × O)} (h:(∀(i:Nat) (t:Ty) (c:C),ts[i]? =some t->cs[i]? =some c->C.wf t c)->Cc X f (jz V.d ts cs) A v L):Cc X f (jz V.d ts cs) A v L:=by
 intro A' Γ w args hA hg hc hn hr;refine h (fun i t c ht hcs=>?_) A' Γ w args hA hg hc hn hr;have hx:(jz V.d ts cs)[i]? =some (.d t c):=by simp[List.getElem?_zipWith,ht,hcs]
 have hs:(DW 1000 (jz V.d ts cs))[i]? =some (.d t c):=by rw[TB,hx];rfl
 have hl:i<args.size:=by rw[<-hn];exact(ca.1 hx).1
 exact(hr i _ _ hs (Array.getElem?_eq_getElem hl)).wf
theorem q1B {w:World} {gl gl':Nat->Option (Ty × C)} (h:Nw w gl) (hs:∀g x,gl' g=some x->gl g=some x):Nw w gl':=fun g τ c hg=>h g τ c (hs g (τ,c) hg)
theorem aK {X:Cx} {f:FuncId} {g:OvG (V × List (Key × O))} (h:GOk X f g) {xs:List V} {A:Key->Option O} {v:V} {L:List (Key × O)} (hr:g xs A kR=some (v,L)):Cc X f xs A v L:=by obtain⟨v',L',h1,h2⟩:=h xs A kR (v,L) hr;simp only[kR,Option.some.injEq,Prod.mk.injEq]at h2;obtain⟨rfl,rfl⟩:=h2;exact h1
def CQ {α σ ε:Type} (f:Nat->σ->α->σ ⊕ ε):Nat->σ->List α->σ ⊕ ε
 |_,s,[]=>.inl s|i,s,c::l=>match f i s c with| .inl s'=>CQ f (i+1) s' l| .inr e=>.inr e
def IB {R σ ε:Type} (fin:σ->Option R) (err:ε->Option R):σ ⊕ ε->Option R
 | .inl s=>fin s| .inr e=>err e
theorem q28 {α R σ ε:Type} {F:KD R->List C->List Es->Option R} (st:Nat->σ->List C) (sm:Nat->σ->List Es) (l:List α) (f:Nat->σ->α->σ ⊕ ε) (fin:σ->Option R) (err:ε->Option R) (P:Nat->σ->Prop) {s0:σ} {N:Nat}
  (h0:P 0 s0) (step:∀i s c,l[i]? =some c->P i s->(∀rec:KD R,F rec (st i s) (sm i s)=match f i s c with| .inl s'=>rec (st (i+1) s') (sm (i+1) s')| .inr e=>err e)/\(∀s',f i s c= .inl s'->P (i+1) s'))
  (stop:∀s,P l.length s->∀rec:KD R,F rec (st l.length s) (sm l.length s)=fin s) (hN:l.length<N):
  BO N F (st 0 s0) (sm 0 s0)=IB fin err (CQ f 0 s0 l):=by
 have key:=LX (R:=R) (ι:=Nat × σ) (F:=F) (fun x=>st x.1 x.2) (fun x=>sm x.1 x.2) (fun x=>l.length-x.1) (fun x=>x.1<=l.length/\P x.1 x.2) (fun x=>IB fin err (CQ f x.1 x.2 (l.drop x.1)))
  (fun x hx rec zp=>?_) N (0,s0) ⟨Nat.zero_le _,h0⟩ (by show l.length-0<N;omega)
 ·simpa using key
 ·obtain⟨i,s⟩:=x;obtain⟨h1,h2⟩:=hx;dsimp only at h1 h2 zp ⊢;by_cases h:i=l.length;{subst h;rw[stop s h2,List.drop_length];rfl}
  ·have hi:i<l.length:=by omega
   obtain⟨h3,h4⟩:=step i s l[i] (List.getElem?_eq_getElem hi) h2;rw[h3,List.drop_eq_getElem_cons hi];simp only[CQ];cases hf:f i s l[i]with
   |inl s'=>exact zp (i+1,s') ⟨hi,h4 s' hf⟩ (by dsimp only;omega)|inr e=>rfl
theorem LY {α R σ ε:Type} {F:KD R->List C->List Es->Option R} (st:Nat->σ->List C) (sm:Nat->σ->List Es) (l:List α) (f:Nat->σ->α->σ ⊕ ε) (fin:σ->Option R) (err:ε->Option R) {s0:σ} {N:Nat}
  (step:∀i s c,l[i]? =some c->i<l.length->∀rec:KD R,F rec (st i s) (sm i s)=match f i s c with| .inl s'=>rec (st (i+1) s') (sm (i+1) s')| .inr e=>err e)
  (stop:∀s,∀rec:KD R,F rec (st l.length s) (sm l.length s)=fin s) (hN:l.length<N):
  BO N F (st 0 s0) (sm 0 s0)=IB fin err (CQ f 0 s0 l):=
 q28 st sm l f fin err (fun _ _=>True) trivial (fun i s c hc _=>⟨step i s c hc (ca.1 hc).1,fun _ _=>trivial⟩) (fun s _=>stop s) hN
theorem Fo {l:List C} {i:Nat} {c:C} (h:l[i]? =some c):l.getD i .nil=c:=by rw[List.getD_eq_getElem?_getD,h];rfl
theorem CV {i:Nat} (h:i<4611686018427387904):IntKind.i64.wrap ((i:Int)+1)=((i+1:Nat):Int):=by rw[IntWalk.i64_in _ (by omega)];omega
theorem wrap_u64 {n:Int} (h:0<=n) (h2:n<18446744073709551616):IntKind.u64.wrap n=n:=by
 have hm1:IntKind.u64.min=0:=by decide
 have hm2:IntKind.u64.max=18446744073709551615:=by decide
 exact Nm (by omega) (by omega)
@[go_sem] theorem Bb (g:Key->Key) (τ:Ty) (m:Es):List.map (fun c=>(Prod.fst c,si g id (Prod.snd c))) (dE τ m)=dE τ m:=by unfold dE;rw[px];exact pw fun _ _=>rfl
attribute [go_sem] Ah Ag
@[go_sem] theorem BU (τ:Ty):∀m:Es,EF τ (dE τ m)=true
 | []=>rfl|_::m=>by have:=BU τ m;have h:Ty.beq τ τ=true:=(Ty.beq_iff τ τ).2 rfl;simp only[dE,dt,EF,h,qt]at this ⊢;exact this
def FY:Es->C->Bool
 | [],_=>false|(k,_)::l,c=>bif C.beq c k then true else FY l c
def getM:Es->C->C
 | [],_=>.nil|(k,v)::l,c=>bif C.beq c k then v else getM l c
@[go_sem] theorem PE (τ:Ty) (c:C):∀m:Es,Ir (dE τ m) c=FY m c
 | []=>rfl|(k,v)::m=>by have:=PE τ c m;simp only[dE,dt,Ir,FY]at this ⊢;rw[this]
@[go_sem] theorem mP (τ:Ty) (c:C):∀m:Es,LK (dE τ m) c=getM m c
 | []=>rfl|(k,v)::m=>by have:=mP τ c m;simp only[dE,dt,LK,getM]at this ⊢;rw[this]
@[go_sem] theorem Bc:unE []=[]:=rfl
@[go_sem] theorem q9p (τ:Ty):dE τ []=[]:=rfl
def Dd:Ty:=.struct 65 [0,64] [(.arr 2 (.arr 32 (.int .u8))),(.int .i64)]
@[go_sem] theorem z3F:Dd.known=true:=rfl
@[go_sem] theorem z3C:Dd.DE=true:=rfl
@[go_sem] theorem z3B:Dd.isAgg=true:=rfl
@[go_sem] theorem z3G:Dd.size=65:=rfl
@[go_sem] theorem z3D:Dd.DI=[(.arr 2 (.arr 32 (.int .u8))),(.int .i64)]:=rfl
@[go_sem] theorem z3E:Dd.kids=2:=rfl
@[go_sem] theorem z3y:Dd.CT=true:=by kernel_rfl
@[go_sem] theorem z3z:Dd.get 0=(.arr 2 (.arr 32 (.int .u8))):=rfl
@[go_sem] theorem z3w:Dd.child 0=some (0,(.arr 2 (.arr 32 (.int .u8)))):=rfl
@[go_sem] theorem z3A:Dd.get 1=(.int .i64):=rfl
@[go_sem] theorem z3x:Dd.child 1=some (64,(.int .i64)):=rfl
@[go_sem] theorem z3I:AH Dd= .agg [(AH (.arr 2 (.arr 32 (.int .u8)))),(.int 0)]:=rfl
@[go_sem] theorem z3H:Al Dd= .d Dd (AH Dd):=rfl
def Cl:Ty:=.struct 36 [0,1,2,3,35] [(.int .u64),(.int .i64),(.int .u64),(.arr 32 (.int .u8)),(.int .u64)]
@[go_sem] theorem z0w:Cl.known=true:=rfl
@[go_sem] theorem z0t:Cl.DE=true:=rfl
@[go_sem] theorem z0s:Cl.isAgg=true:=rfl
@[go_sem] theorem z0x:Cl.size=36:=rfl
@[go_sem] theorem z0u:Cl.DI=[(.int .u64),(.int .i64),(.int .u64),(.arr 32 (.int .u8)),(.int .u64)]:=rfl
@[go_sem] theorem z0v:Cl.kids=5:=rfl
@[go_sem] theorem z0m:Cl.CT=true:=by kernel_rfl
@[go_sem] theorem z0n:Cl.get 0=(.int .u64):=rfl
@[go_sem] theorem z0h:Cl.child 0=some (0,(.int .u64)):=rfl
@[go_sem] theorem z0o:Cl.get 1=(.int .i64):=rfl
@[go_sem] theorem z0i:Cl.child 1=some (1,(.int .i64)):=rfl
@[go_sem] theorem z0p:Cl.get 2=(.int .u64):=rfl
@[go_sem] theorem z0j:Cl.child 2=some (2,(.int .u64)):=rfl
@[go_sem] theorem z0q:Cl.get 3=(.arr 32 (.int .u8)):=rfl
@[go_sem] theorem z0k:Cl.child 3=some (3,(.arr 32 (.int .u8))):=rfl
@[go_sem] theorem z0r:Cl.get 4=(.int .u64):=rfl
@[go_sem] theorem z0l:Cl.child 4=some (35,(.int .u64)):=rfl
@[go_sem] theorem z0z:AH Cl= .agg [(.int 0),(.int 0),(.int 0),(AH (.arr 32 (.int .u8))),(.int 0)]:=rfl
@[go_sem] theorem z0y:Al Cl= .d Cl (AH Cl):=rfl
def Bp:Ty:=.struct 7 [0,1,2,4,6] [(.int .u32),(.int .u64),(.arr 2 (.int .u64)),(.arr 2 (.int .u64)),(.slice 64 Cl)]
@[go_sem] theorem z4I:Bp.known=true:=rfl
@[go_sem] theorem z4F:Bp.DE=true:=rfl
@[go_sem] theorem z4E:Bp.isAgg=true:=rfl
@[go_sem] theorem z4J:Bp.size=7:=rfl
@[go_sem] theorem z4G:Bp.DI=[(.int .u32),(.int .u64),(.arr 2 (.int .u64)),(.arr 2 (.int .u64)),(.slice 64 Cl)]:=rfl
@[go_sem] theorem z4H:Bp.kids=5:=rfl
@[go_sem] theorem z4y:Bp.CT=true:=by kernel_rfl
@[go_sem] theorem z4z:Bp.get 0=(.int .u32):=rfl
@[go_sem] theorem z4t:Bp.child 0=some (0,(.int .u32)):=rfl
@[go_sem] theorem z4A:Bp.get 1=(.int .u64):=rfl
@[go_sem] theorem z4u:Bp.child 1=some (1,(.int .u64)):=rfl
@[go_sem] theorem z4B:Bp.get 2=(.arr 2 (.int .u64)):=rfl
@[go_sem] theorem z4v:Bp.child 2=some (2,(.arr 2 (.int .u64))):=rfl
@[go_sem] theorem z4C:Bp.get 3=(.arr 2 (.int .u64)):=rfl
@[go_sem] theorem z4w:Bp.child 3=some (4,(.arr 2 (.int .u64))):=rfl
@[go_sem] theorem z4D:Bp.get 4=(.slice 64 Cl):=rfl
@[go_sem] theorem z4x:Bp.child 4=some (6,(.slice 64 Cl)):=rfl
@[go_sem] theorem z4L:AH Bp= .agg [(.int 0),(.int 0),(AH (.arr 2 (.int .u64))),(AH (.arr 2 (.int .u64))),(.slice [])]:=rfl
@[go_sem] theorem z4K:Al Bp= .agg Bp [Al (.int .u32),Al (.int .u64),Al (.arr 2 (.int .u64)),Al (.arr 2 (.int .u64)),Al (.slice 64 Cl)]:=rfl
def FD:Ty:=.struct 1024 [0,512] [(.arr 32 (.arr 16 (.int .u8))),(.arr 32 (.arr 16 (.int .u8)))]
@[go_sem] theorem z4p:FD.known=true:=rfl
@[go_sem] theorem z4m:FD.DE=true:=rfl
@[go_sem] theorem z4l:FD.isAgg=true:=rfl
@[go_sem] theorem z4q:FD.size=1024:=rfl
@[go_sem] theorem z4n:FD.DI=[(.arr 32 (.arr 16 (.int .u8))),(.arr 32 (.arr 16 (.int .u8)))]:=rfl
@[go_sem] theorem z4o:FD.kids=2:=rfl
@[go_sem] theorem z4i:FD.CT=true:=by kernel_rfl
@[go_sem] theorem z4j:FD.get 0=(.arr 32 (.arr 16 (.int .u8))):=rfl
@[go_sem] theorem z4g:FD.child 0=some (0,(.arr 32 (.arr 16 (.int .u8)))):=rfl
@[go_sem] theorem z4k:FD.get 1=(.arr 32 (.arr 16 (.int .u8))):=rfl
@[go_sem] theorem z4h:FD.child 1=some (512,(.arr 32 (.arr 16 (.int .u8)))):=rfl
@[go_sem] theorem z4s:AH FD= .agg [(AH (.arr 32 (.arr 16 (.int .u8)))),(AH (.arr 32 (.arr 16 (.int .u8))))]:=rfl
@[go_sem] theorem z4r:Al FD= .d FD (AH FD):=rfl
def DX:Ty:=.struct 1026 [0,1024,1025] [FD,(.int .u32),(.slice 32 (.arr 32 (.int .u8)))]
@[go_sem] theorem z4c:DX.known=true:=rfl
@[go_sem] theorem z39:DX.DE=true:=rfl
@[go_sem] theorem z38:DX.isAgg=true:=rfl
@[go_sem] theorem z4d:DX.size=1026:=rfl
@[go_sem] theorem z4a:DX.DI=[FD,(.int .u32),(.slice 32 (.arr 32 (.int .u8)))]:=rfl
@[go_sem] theorem z4b:DX.kids=3:=rfl
@[go_sem] theorem z34:DX.CT=true:=by kernel_rfl
@[go_sem] theorem z35:DX.get 0=FD:=rfl
@[go_sem] theorem z30:DX.child 0=some (0,FD):=rfl
@[go_sem] theorem z36:DX.get 1=(.int .u32):=rfl
@[go_sem] theorem z31:DX.child 1=some (1024,(.int .u32)):=rfl
@[go_sem] theorem z37:DX.get 2=(.slice 32 (.arr 32 (.int .u8))):=rfl
@[go_sem] theorem z33:DX.child 2=some (1025,(.slice 32 (.arr 32 (.int .u8)))):=rfl
@[go_sem] theorem z4f:AH DX= .agg [(AH FD),(.int 0),(.slice [])]:=rfl
@[go_sem] theorem z4e:Al DX= .agg DX [Al FD,Al (.int .u32),Al (.slice 32 (.arr 32 (.int .u8)))]:=rfl
def ER:Ty:=.struct 2059 [0,7] [Bp,(.arr 2 DX)]
@[go_sem] theorem z06:ER.known=true:=rfl
@[go_sem] theorem z03:ER.DE=true:=rfl
@[go_sem] theorem z02:ER.isAgg=true:=rfl
@[go_sem] theorem z07:ER.size=2059:=rfl
@[go_sem] theorem z04:ER.DI=[Bp,(.arr 2 DX)]:=rfl
@[go_sem] theorem z05:ER.kids=2:=rfl
@[go_sem] theorem z0Z:ER.CT=true:=by kernel_rfl
@[go_sem] theorem z00:ER.get 0=Bp:=rfl
@[go_sem] theorem z0X:ER.child 0=some (0,Bp):=rfl
@[go_sem] theorem z01:ER.get 1=(.arr 2 DX):=rfl
@[go_sem] theorem z0Y:ER.child 1=some (7,(.arr 2 DX)):=rfl
@[go_sem] theorem z09:AH ER= .agg [(AH Bp),(AH (.arr 2 DX))]:=rfl
@[go_sem] theorem z08:Al ER= .agg ER [Al Bp,Al (.arr 2 DX)]:=rfl
def tTx:Ty:=.struct 2164 [0,1,2,3,4,5,6,7,39,104,105] [(.int .i64),(.int .i64),(.int .u64),(.int .u64),(.int .i64),(.int .u64),(.int .u32),(.arr 32 (.int .u8)),Dd,(.slice 1 (.int .u8)),ER]
@[go_sem] theorem z5F:tTx.known=true:=rfl
@[go_sem] theorem z5C:tTx.DE=true:=rfl
@[go_sem] theorem z5B:tTx.isAgg=true:=rfl
@[go_sem] theorem z5G:tTx.size=2164:=rfl
@[go_sem] theorem z5D:tTx.DI=[(.int .i64),(.int .i64),(.int .u64),(.int .u64),(.int .i64),(.int .u64),(.int .u32),(.arr 32 (.int .u8)),Dd,(.slice 1 (.int .u8)),ER]:=rfl
@[go_sem] theorem z5E:tTx.kids=11:=rfl
@[go_sem] theorem z5p:tTx.CT=true:=by kernel_rfl
@[go_sem] theorem z5q:tTx.get 0=(.int .i64):=rfl
@[go_sem] theorem z5e:tTx.child 0=some (0,(.int .i64)):=rfl
@[go_sem] theorem z5r:tTx.get 1=(.int .i64):=rfl
@[go_sem] theorem z5f:tTx.child 1=some (1,(.int .i64)):=rfl
@[go_sem] theorem z5t:tTx.get 2=(.int .u64):=rfl
@[go_sem] theorem z5h:tTx.child 2=some (2,(.int .u64)):=rfl
@[go_sem] theorem z5u:tTx.get 3=(.int .u64):=rfl
@[go_sem] theorem z5i:tTx.child 3=some (3,(.int .u64)):=rfl
@[go_sem] theorem z5v:tTx.get 4=(.int .i64):=rfl
@[go_sem] theorem z5j:tTx.child 4=some (4,(.int .i64)):=rfl
@[go_sem] theorem z5w:tTx.get 5=(.int .u64):=rfl
@[go_sem] theorem z5k:tTx.child 5=some (5,(.int .u64)):=rfl
@[go_sem] theorem z5x:tTx.get 6=(.int .u32):=rfl
@[go_sem] theorem z5l:tTx.child 6=some (6,(.int .u32)):=rfl
@[go_sem] theorem z5y:tTx.get 7=(.arr 32 (.int .u8)):=rfl
@[go_sem] theorem z5m:tTx.child 7=some (7,(.arr 32 (.int .u8))):=rfl
@[go_sem] theorem z5z:tTx.get 8=Dd:=rfl
@[go_sem] theorem z5n:tTx.child 8=some (39,Dd):=rfl
@[go_sem] theorem z5A:tTx.get 9=(.slice 1 (.int .u8)):=rfl
@[go_sem] theorem z5o:tTx.child 9=some (104,(.slice 1 (.int .u8))):=rfl
@[go_sem] theorem z5s:tTx.get 10=ER:=rfl
@[go_sem] theorem z5g:tTx.child 10=some (105,ER):=rfl
@[go_sem] theorem z5I:AH tTx= .agg [(.int 0),(.int 0),(.int 0),(.int 0),(.int 0),(.int 0),(.int 0),(AH (.arr 32 (.int .u8))),(AH Dd),(.slice []),(AH ER)]:=rfl
@[go_sem] theorem z5H:Al tTx= .agg tTx [Al (.int .i64),Al (.int .i64),Al (.int .u64),Al (.int .u64),Al (.int .i64),Al (.int .u64),Al (.int .u32),Al (.arr 32 (.int .u8)),Al Dd,Al (.slice 1 (.int .u8)),Al ER]:=rfl
def Bf:Ty:=.struct 2 [0,1] [.str,.str]
@[go_sem] theorem z4V:Bf.known=true:=rfl
@[go_sem] theorem z4S:Bf.DE=true:=rfl
@[go_sem] theorem z4R:Bf.isAgg=true:=rfl
@[go_sem] theorem z4W:Bf.size=2:=rfl
@[go_sem] theorem z4T:Bf.DI=[.str,.str]:=rfl
@[go_sem] theorem z4U:Bf.kids=2:=rfl
@[go_sem] theorem z4O:Bf.CT=true:=by kernel_rfl
@[go_sem] theorem z4P:Bf.get 0= .str:=rfl
@[go_sem] theorem z4M:Bf.child 0=some (0,.str):=rfl
@[go_sem] theorem z4Q:Bf.get 1= .str:=rfl
@[go_sem] theorem z4N:Bf.child 1=some (1,.str):=rfl
@[go_sem] theorem z4Y:AH Bf= .agg [(.str []),(.str [])]:=rfl
@[go_sem] theorem z4X:Al Bf= .d Bf (AH Bf):=rfl
def AR:Ty:=.struct 82 [0,1,3,68,69,71,73,74,75] [(.int .u32),(.arr 2 (.int .i64)),Dd,(.slice 1 (.int .u8)),(.arr 2 (.int .u64)),(.arr 2 (.int .u64)),(.int .i64),(.int .u64),Bp]
@[go_sem] theorem z0d:AR.known=true:=rfl
@[go_sem] theorem z0a:AR.DE=true:=rfl
@[go_sem] theorem q99:AR.isAgg=true:=rfl
@[go_sem] theorem z0e:AR.size=82:=rfl
@[go_sem] theorem z0b:AR.DI=[(.int .u32),(.arr 2 (.int .i64)),Dd,(.slice 1 (.int .u8)),(.arr 2 (.int .u64)),(.arr 2 (.int .u64)),(.int .i64),(.int .u64),Bp]:=rfl
@[go_sem] theorem z0c:AR.kids=9:=rfl
@[go_sem] theorem q9Z:AR.CT=true:=by kernel_rfl
@[go_sem] theorem q90:AR.get 0=(.int .u32):=rfl
@[go_sem] theorem q9Q:AR.child 0=some (0,(.int .u32)):=rfl
@[go_sem] theorem q91:AR.get 1=(.arr 2 (.int .i64)):=rfl
@[go_sem] theorem q9R:AR.child 1=some (1,(.arr 2 (.int .i64))):=rfl
@[go_sem] theorem q92:AR.get 2=Dd:=rfl
@[go_sem] theorem q9S:AR.child 2=some (3,Dd):=rfl
@[go_sem] theorem q93:AR.get 3=(.slice 1 (.int .u8)):=rfl
@[go_sem] theorem q9T:AR.child 3=some (68,(.slice 1 (.int .u8))):=rfl
@[go_sem] theorem q94:AR.get 4=(.arr 2 (.int .u64)):=rfl
@[go_sem] theorem q9U:AR.child 4=some (69,(.arr 2 (.int .u64))):=rfl
@[go_sem] theorem q95:AR.get 5=(.arr 2 (.int .u64)):=rfl
@[go_sem] theorem q9V:AR.child 5=some (71,(.arr 2 (.int .u64))):=rfl
@[go_sem] theorem q96:AR.get 6=(.int .i64):=rfl
@[go_sem] theorem q9W:AR.child 6=some (73,(.int .i64)):=rfl
@[go_sem] theorem q97:AR.get 7=(.int .u64):=rfl
@[go_sem] theorem q9X:AR.child 7=some (74,(.int .u64)):=rfl
@[go_sem] theorem q98:AR.get 8=Bp:=rfl
@[go_sem] theorem q9Y:AR.child 8=some (75,Bp):=rfl
@[go_sem] theorem z0g:AH AR= .agg [(.int 0),(AH (.arr 2 (.int .i64))),(AH Dd),(.slice []),(AH (.arr 2 (.int .u64))),(AH (.arr 2 (.int .u64))),(.int 0),(.int 0),(AH Bp)]:=rfl
@[go_sem] theorem z0f:Al AR= .agg AR [Al (.int .u32),Al (.arr 2 (.int .i64)),Al Dd,Al (.slice 1 (.int .u8)),Al (.arr 2 (.int .u64)),Al (.arr 2 (.int .u64)),Al (.int .i64),Al (.int .u64),Al Bp]:=rfl
def AU:Ty:=.struct 5 [0,1,2,3,4] [(.int .u64),(.int .i64),(.int .i64),(.int .u32),(.int .i64)]
@[go_sem] theorem z1R:AU.known=true:=rfl
@[go_sem] theorem z1O:AU.DE=true:=rfl
@[go_sem] theorem z1N:AU.isAgg=true:=rfl
@[go_sem] theorem z1S:AU.size=5:=rfl
@[go_sem] theorem z1P:AU.DI=[(.int .u64),(.int .i64),(.int .i64),(.int .u32),(.int .i64)]:=rfl
@[go_sem] theorem z1Q:AU.kids=5:=rfl
@[go_sem] theorem z1H:AU.CT=true:=by kernel_rfl
@[go_sem] theorem z1I:AU.get 0=(.int .u64):=rfl
@[go_sem] theorem z1C:AU.child 0=some (0,(.int .u64)):=rfl
@[go_sem] theorem z1J:AU.get 1=(.int .i64):=rfl
@[go_sem] theorem z1D:AU.child 1=some (1,(.int .i64)):=rfl
@[go_sem] theorem z1K:AU.get 2=(.int .i64):=rfl
@[go_sem] theorem z1E:AU.child 2=some (2,(.int .i64)):=rfl
@[go_sem] theorem z1L:AU.get 3=(.int .u32):=rfl
@[go_sem] theorem z1F:AU.child 3=some (3,(.int .u32)):=rfl
@[go_sem] theorem z1M:AU.get 4=(.int .i64):=rfl
@[go_sem] theorem z1G:AU.child 4=some (4,(.int .i64)):=rfl
@[go_sem] theorem z1U:AH AU= .agg [(.int 0),(.int 0),(.int 0),(.int 0),(.int 0)]:=rfl
@[go_sem] theorem z1T:Al AU= .d AU (AH AU):=rfl
def Ba:Ty:=.struct 7 [0,1,2,3,4,5,6] [.ptr,.ptr,(.int .u64),(.int .u64),(.slice 240 AR),(.slice 2368 tTx),(.slice 40 AU)]
@[go_sem] theorem z0T:Ba.known=true:=rfl
@[go_sem] theorem z0Q:Ba.DE=true:=rfl
@[go_sem] theorem z0P:Ba.isAgg=true:=rfl
@[go_sem] theorem z0U:Ba.size=7:=rfl
@[go_sem] theorem z0R:Ba.DI=[.ptr,.ptr,(.int .u64),(.int .u64),(.slice 240 AR),(.slice 2368 tTx),(.slice 40 AU)]:=rfl
@[go_sem] theorem z0S:Ba.kids=7:=rfl
@[go_sem] theorem z0H:Ba.CT=true:=by kernel_rfl
@[go_sem] theorem z0I:Ba.get 0= .ptr:=rfl
@[go_sem] theorem z0A:Ba.child 0=some (0,.ptr):=rfl
@[go_sem] theorem z0J:Ba.get 1= .ptr:=rfl
@[go_sem] theorem z0B:Ba.child 1=some (1,.ptr):=rfl
@[go_sem] theorem z0K:Ba.get 2=(.int .u64):=rfl
@[go_sem] theorem z0C:Ba.child 2=some (2,(.int .u64)):=rfl
@[go_sem] theorem z0L:Ba.get 3=(.int .u64):=rfl
@[go_sem] theorem z0D:Ba.child 3=some (3,(.int .u64)):=rfl
@[go_sem] theorem z0M:Ba.get 4=(.slice 240 AR):=rfl
@[go_sem] theorem z0E:Ba.child 4=some (4,(.slice 240 AR)):=rfl
@[go_sem] theorem z0N:Ba.get 5=(.slice 2368 tTx):=rfl
@[go_sem] theorem z0F:Ba.child 5=some (5,(.slice 2368 tTx)):=rfl
@[go_sem] theorem z0O:Ba.get 6=(.slice 40 AU):=rfl
@[go_sem] theorem z0G:Ba.child 6=some (6,(.slice 40 AU)):=rfl
@[go_sem] theorem z0W:AH Ba= .agg [.nil,.nil,(.int 0),(.int 0),(.slice []),(.slice []),(.slice [])]:=rfl
@[go_sem] theorem z0V:Al Ba= .agg Ba [Al .ptr,Al .ptr,Al (.int .u64),Al (.int .u64),Al (.slice 240 AR),Al (.slice 2368 tTx),Al (.slice 40 AU)]:=rfl
def Bv:Ty:=.struct 65 [0,32,64] [(.arr 32 (.int .u8)),(.arr 32 (.int .u8)),(.int .u64)]
@[go_sem] theorem z1y:Bv.known=true:=rfl
@[go_sem] theorem z1v:Bv.DE=true:=rfl
@[go_sem] theorem z1u:Bv.isAgg=true:=rfl
@[go_sem] theorem z1z:Bv.size=65:=rfl
@[go_sem] theorem z1w:Bv.DI=[(.arr 32 (.int .u8)),(.arr 32 (.int .u8)),(.int .u64)]:=rfl
@[go_sem] theorem z1x:Bv.kids=3:=rfl
@[go_sem] theorem z1q:Bv.CT=true:=by kernel_rfl
@[go_sem] theorem z1r:Bv.get 0=(.arr 32 (.int .u8)):=rfl
@[go_sem] theorem z1n:Bv.child 0=some (0,(.arr 32 (.int .u8))):=rfl
@[go_sem] theorem z1s:Bv.get 1=(.arr 32 (.int .u8)):=rfl
@[go_sem] theorem z1o:Bv.child 1=some (32,(.arr 32 (.int .u8))):=rfl
@[go_sem] theorem z1t:Bv.get 2=(.int .u64):=rfl
@[go_sem] theorem z1p:Bv.child 2=some (64,(.int .u64)):=rfl
@[go_sem] theorem z1B:AH Bv= .agg [(AH (.arr 32 (.int .u8))),(AH (.arr 32 (.int .u8))),(.int 0)]:=rfl
@[go_sem] theorem z1A:Al Bv= .d Bv (AH Bv):=rfl
def Bo:Ty:=.struct 3 [0,2] [Bf,(.slice 72 Bv)]
@[go_sem] theorem z3b:Bo.known=true:=rfl
@[go_sem] theorem z28:Bo.DE=true:=rfl
@[go_sem] theorem z27:Bo.isAgg=true:=rfl
@[go_sem] theorem z3c:Bo.size=3:=rfl
@[go_sem] theorem z29:Bo.DI=[Bf,(.slice 72 Bv)]:=rfl
@[go_sem] theorem z3a:Bo.kids=2:=rfl
@[go_sem] theorem z24:Bo.CT=true:=by kernel_rfl
@[go_sem] theorem z25:Bo.get 0=Bf:=rfl
@[go_sem] theorem z22:Bo.child 0=some (0,Bf):=rfl
@[go_sem] theorem z26:Bo.get 1=(.slice 72 Bv):=rfl
@[go_sem] theorem z23:Bo.child 1=some (2,(.slice 72 Bv)):=rfl
@[go_sem] theorem z3e:AH Bo= .agg [(AH Bf),(.slice [])]:=rfl
@[go_sem] theorem z3d:Al Bo= .agg Bo [Al Bf,Al (.slice 72 Bv)]:=rfl
def BF:Ty:=.struct 3 [0,1,2] [(.slice 8 (.int .u64)),(.slice 8 (.int .u64)),(.int .u64)]
@[go_sem] theorem z5a:BF.known=true:=rfl
@[go_sem] theorem z47:BF.DE=true:=rfl
@[go_sem] theorem z46:BF.isAgg=true:=rfl
@[go_sem] theorem z5b:BF.size=3:=rfl
@[go_sem] theorem z48:BF.DI=[(.slice 8 (.int .u64)),(.slice 8 (.int .u64)),(.int .u64)]:=rfl
@[go_sem] theorem z49:BF.kids=3:=rfl
@[go_sem] theorem z42:BF.CT=true:=by kernel_rfl
@[go_sem] theorem z43:BF.get 0=(.slice 8 (.int .u64)):=rfl
@[go_sem] theorem z4Z:BF.child 0=some (0,(.slice 8 (.int .u64))):=rfl
@[go_sem] theorem z44:BF.get 1=(.slice 8 (.int .u64)):=rfl
@[go_sem] theorem z40:BF.child 1=some (1,(.slice 8 (.int .u64))):=rfl
@[go_sem] theorem z45:BF.get 2=(.int .u64):=rfl
@[go_sem] theorem z41:BF.child 2=some (2,(.int .u64)):=rfl
@[go_sem] theorem z5d:AH BF= .agg [(.slice []),(.slice []),(.int 0)]:=rfl
@[go_sem] theorem z5c:Al BF= .agg BF [Al (.slice 8 (.int .u64)),Al (.slice 8 (.int .u64)),Al (.int .u64)]:=rfl
def Bx:Ty:=.struct 1 [0] [.map]
@[go_sem] theorem z2Y:Bx.known=true:=rfl
@[go_sem] theorem z2V:Bx.DE=true:=rfl
@[go_sem] theorem z2U:Bx.isAgg=true:=rfl
@[go_sem] theorem z2Z:Bx.size=1:=rfl
@[go_sem] theorem z2W:Bx.DI=[.map]:=rfl
@[go_sem] theorem z2X:Bx.kids=1:=rfl
@[go_sem] theorem z2S:Bx.CT=true:=by kernel_rfl
@[go_sem] theorem z2T:Bx.get 0= .map:=rfl
@[go_sem] theorem z2R:Bx.child 0=some (0,.map):=rfl
@[go_sem] theorem z21:AH Bx= .agg [.nil]:=rfl
@[go_sem] theorem z20:Al Bx= .d Bx (AH Bx):=rfl
def AK:Ty:=.struct 33 [0,32] [(.arr 32 (.int .u8)),(.int .u64)]
@[go_sem] theorem z1j:AK.known=true:=rfl
@[go_sem] theorem z1g:AK.DE=true:=rfl
@[go_sem] theorem z1f:AK.isAgg=true:=rfl
@[go_sem] theorem z1k:AK.size=33:=rfl
@[go_sem] theorem z1h:AK.DI=[(.arr 32 (.int .u8)),(.int .u64)]:=rfl
@[go_sem] theorem z1i:AK.kids=2:=rfl
@[go_sem] theorem z1c:AK.CT=true:=by kernel_rfl
@[go_sem] theorem z1d:AK.get 0=(.arr 32 (.int .u8)):=rfl
@[go_sem] theorem z1a:AK.child 0=some (0,(.arr 32 (.int .u8))):=rfl
@[go_sem] theorem z1e:AK.get 1=(.int .u64):=rfl
@[go_sem] theorem z1b:AK.child 1=some (32,(.int .u64)):=rfl
@[go_sem] theorem z1m:AH AK= .agg [(AH (.arr 32 (.int .u8))),(.int 0)]:=rfl
@[go_sem] theorem z1l:Al AK= .d AK (AH AK):=rfl
def DM:Ty:=.struct 73 [0,8,72] [(.arr 8 (.int .u32)),(.arr 64 (.int .u8)),(.int .u64)]
@[go_sem] theorem z2N:DM.known=true:=rfl
@[go_sem] theorem z2K:DM.DE=true:=rfl
@[go_sem] theorem z2J:DM.isAgg=true:=rfl
@[go_sem] theorem z2O:DM.size=73:=rfl
@[go_sem] theorem z2L:DM.DI=[(.arr 8 (.int .u32)),(.arr 64 (.int .u8)),(.int .u64)]:=rfl
@[go_sem] theorem z2M:DM.kids=3:=rfl
@[go_sem] theorem z2F:DM.CT=true:=by kernel_rfl
@[go_sem] theorem z2G:DM.get 0=(.arr 8 (.int .u32)):=rfl
@[go_sem] theorem z2C:DM.child 0=some (0,(.arr 8 (.int .u32))):=rfl
@[go_sem] theorem z2H:DM.get 1=(.arr 64 (.int .u8)):=rfl
@[go_sem] theorem z2D:DM.child 1=some (8,(.arr 64 (.int .u8))):=rfl
@[go_sem] theorem z2I:DM.get 2=(.int .u64):=rfl
@[go_sem] theorem z2E:DM.child 2=some (72,(.int .u64)):=rfl
@[go_sem] theorem z2Q:AH DM= .agg [(AH (.arr 8 (.int .u32))),(AH (.arr 64 (.int .u8))),(.int 0)]:=rfl
@[go_sem] theorem z2P:Al DM= .d DM (AH DM):=rfl
def Fb:Ty:=.struct 3 [0,1,2] [.str,(.int .i64),(.int .i64)]
@[go_sem] theorem z2j:Fb.known=true:=rfl
@[go_sem] theorem z2g:Fb.DE=true:=rfl
@[go_sem] theorem z2f:Fb.isAgg=true:=rfl
@[go_sem] theorem z2k:Fb.size=3:=rfl
@[go_sem] theorem z2h:Fb.DI=[.str,(.int .i64),(.int .i64)]:=rfl
@[go_sem] theorem z2i:Fb.kids=3:=rfl
@[go_sem] theorem z2b:Fb.CT=true:=by kernel_rfl
@[go_sem] theorem z2c:Fb.get 0= .str:=rfl
@[go_sem] theorem z18:Fb.child 0=some (0,.str):=rfl
@[go_sem] theorem z2d:Fb.get 1=(.int .i64):=rfl
@[go_sem] theorem z19:Fb.child 1=some (1,(.int .i64)):=rfl
@[go_sem] theorem z2e:Fb.get 2=(.int .i64):=rfl
@[go_sem] theorem z2a:Fb.child 2=some (2,(.int .i64)):=rfl
@[go_sem] theorem z2m:AH Fb= .agg [(.str []),(.int 0),(.int 0)]:=rfl
@[go_sem] theorem z2l:Al Fb= .d Fb (AH Fb):=rfl
def tOp:Ty:=.struct 39 [0,1,2,38] [(.int .i64),(.int .u64),Cl,(.int .u64)]
@[go_sem] theorem z3s:tOp.known=true:=rfl
@[go_sem] theorem z3p:tOp.DE=true:=rfl
@[go_sem] theorem z3o:tOp.isAgg=true:=rfl
@[go_sem] theorem z3t:tOp.size=39:=rfl
@[go_sem] theorem z3q:tOp.DI=[(.int .i64),(.int .u64),Cl,(.int .u64)]:=rfl
@[go_sem] theorem z3r:tOp.kids=4:=rfl
@[go_sem] theorem z3j:tOp.CT=true:=by kernel_rfl
@[go_sem] theorem z3k:tOp.get 0=(.int .i64):=rfl
@[go_sem] theorem z3f:tOp.child 0=some (0,(.int .i64)):=rfl
@[go_sem] theorem z3l:tOp.get 1=(.int .u64):=rfl
@[go_sem] theorem z3g:tOp.child 1=some (1,(.int .u64)):=rfl
@[go_sem] theorem z3m:tOp.get 2=Cl:=rfl
@[go_sem] theorem z3h:tOp.child 2=some (2,Cl):=rfl
@[go_sem] theorem z3n:tOp.get 3=(.int .u64):=rfl
@[go_sem] theorem z3i:tOp.child 3=some (38,(.int .u64)):=rfl
@[go_sem] theorem z3v:AH tOp= .agg [(.int 0),(.int 0),(AH Cl),(.int 0)]:=rfl
@[go_sem] theorem z3u:Al tOp= .d tOp (AH tOp):=rfl
def Dq:Ty:=.struct 3 [0,1,2] [(.int .u32),(.int .u64),(.int .u64)]
@[go_sem] theorem z2y:Dq.known=true:=rfl
@[go_sem] theorem z2v:Dq.DE=true:=rfl
@[go_sem] theorem z2u:Dq.isAgg=true:=rfl
@[go_sem] theorem z2z:Dq.size=3:=rfl
@[go_sem] theorem z2w:Dq.DI=[(.int .u32),(.int .u64),(.int .u64)]:=rfl
@[go_sem] theorem z2x:Dq.kids=3:=rfl
@[go_sem] theorem z2q:Dq.CT=true:=by kernel_rfl
@[go_sem] theorem z2r:Dq.get 0=(.int .u32):=rfl
@[go_sem] theorem z2n:Dq.child 0=some (0,(.int .u32)):=rfl
@[go_sem] theorem z2s:Dq.get 1=(.int .u64):=rfl
@[go_sem] theorem z2o:Dq.child 1=some (1,(.int .u64)):=rfl
@[go_sem] theorem z2t:Dq.get 2=(.int .u64):=rfl
@[go_sem] theorem z2p:Dq.child 2=some (2,(.int .u64)):=rfl
@[go_sem] theorem z2B:AH Dq= .agg [(.int 0),(.int 0),(.int 0)]:=rfl
@[go_sem] theorem z2A:Al Dq= .d Dq (AH Dq):=rfl
def Fy:Ty:=.struct 40 [0,39] [tOp,(.slice 24 Dq)]
@[go_sem] theorem z59:Fy.known=true:=rfl
@[go_sem] theorem z56:Fy.DE=true:=rfl
@[go_sem] theorem z55:Fy.isAgg=true:=rfl
@[go_sem] theorem z6a:Fy.size=40:=rfl
@[go_sem] theorem z57:Fy.DI=[tOp,(.slice 24 Dq)]:=rfl
@[go_sem] theorem z58:Fy.kids=2:=rfl
@[go_sem] theorem z52:Fy.CT=true:=by kernel_rfl
@[go_sem] theorem z53:Fy.get 0=tOp:=rfl
@[go_sem] theorem z50:Fy.child 0=some (0,tOp):=rfl
@[go_sem] theorem z54:Fy.get 1=(.slice 24 Dq):=rfl
@[go_sem] theorem z51:Fy.child 1=some (39,(.slice 24 Dq)):=rfl
@[go_sem] theorem z6c:AH Fy= .agg [(AH tOp),(.slice [])]:=rfl
@[go_sem] theorem z6b:Al Fy= .agg Fy [Al tOp,Al (.slice 24 Dq)]:=rfl
def FJ:Ty:=.struct 2 [0,1] [(.int .u64),(.int .u64)]
@[go_sem] theorem z14:FJ.known=true:=rfl
@[go_sem] theorem z11:FJ.DE=true:=rfl
@[go_sem] theorem z10:FJ.isAgg=true:=rfl
@[go_sem] theorem z15:FJ.size=2:=rfl
@[go_sem] theorem z12:FJ.DI=[(.int .u64),(.int .u64)]:=rfl
@[go_sem] theorem z13:FJ.kids=2:=rfl
@[go_sem] theorem z1X:FJ.CT=true:=by kernel_rfl
@[go_sem] theorem z1Y:FJ.get 0=(.int .u64):=rfl
@[go_sem] theorem z1V:FJ.child 0=some (0,(.int .u64)):=rfl
@[go_sem] theorem z1Z:FJ.get 1=(.int .u64):=rfl
@[go_sem] theorem z1W:FJ.child 1=some (1,(.int .u64)):=rfl
@[go_sem] theorem z17:AH FJ= .agg [(.int 0),(.int 0)]:=rfl
@[go_sem] theorem z16:Al FJ= .d FJ (AH FJ):=rfl
def De:Ty:=.struct 5 [0,2,3,4] [FJ,(.int .u64),(.int .u64),(.int .u64)]
@[go_sem] theorem z3W:De.known=true:=rfl
@[go_sem] theorem z3T:De.DE=true:=rfl
@[go_sem] theorem z3S:De.isAgg=true:=rfl
@[go_sem] theorem z3X:De.size=5:=rfl
@[go_sem] theorem z3U:De.DI=[FJ,(.int .u64),(.int .u64),(.int .u64)]:=rfl
@[go_sem] theorem z3V:De.kids=4:=rfl
@[go_sem] theorem z3N:De.CT=true:=by kernel_rfl
@[go_sem] theorem z3O:De.get 0=FJ:=rfl
@[go_sem] theorem z3J:De.child 0=some (0,FJ):=rfl
@[go_sem] theorem z3P:De.get 1=(.int .u64):=rfl
@[go_sem] theorem z3K:De.child 1=some (2,(.int .u64)):=rfl
@[go_sem] theorem z3Q:De.get 2=(.int .u64):=rfl
@[go_sem] theorem z3L:De.child 2=some (3,(.int .u64)):=rfl
@[go_sem] theorem z3R:De.get 3=(.int .u64):=rfl
@[go_sem] theorem z3M:De.child 3=some (4,(.int .u64)):=rfl
@[go_sem] theorem z3Z:AH De= .agg [(AH FJ),(.int 0),(.int 0),(.int 0)]:=rfl
@[go_sem] theorem z3Y:Al De= .d De (AH De):=rfl
def Dr:Ty:=.struct 4 [0,1,2,3] [(.int .u8),(.slice 32 (.arr 32 (.int .u8))),(.slice 1 (.int .u8)),(.slice 16 (.arr 2 (.int .i64)))]
@[go_sem] theorem z5W:Dr.known=true:=rfl
@[go_sem] theorem z5T:Dr.DE=true:=rfl
@[go_sem] theorem z5S:Dr.isAgg=true:=rfl
@[go_sem] theorem z5X:Dr.size=4:=rfl
@[go_sem] theorem z5U:Dr.DI=[(.int .u8),(.slice 32 (.arr 32 (.int .u8))),(.slice 1 (.int .u8)),(.slice 16 (.arr 2 (.int .i64)))]:=rfl
@[go_sem] theorem z5V:Dr.kids=4:=rfl
@[go_sem] theorem z5N:Dr.CT=true:=by kernel_rfl
@[go_sem] theorem z5O:Dr.get 0=(.int .u8):=rfl
@[go_sem] theorem z5J:Dr.child 0=some (0,(.int .u8)):=rfl
@[go_sem] theorem z5P:Dr.get 1=(.slice 32 (.arr 32 (.int .u8))):=rfl
@[go_sem] theorem z5K:Dr.child 1=some (1,(.slice 32 (.arr 32 (.int .u8)))):=rfl
@[go_sem] theorem z5Q:Dr.get 2=(.slice 1 (.int .u8)):=rfl
@[go_sem] theorem z5L:Dr.child 2=some (2,(.slice 1 (.int .u8))):=rfl
@[go_sem] theorem z5R:Dr.get 3=(.slice 16 (.arr 2 (.int .i64))):=rfl
@[go_sem] theorem z5M:Dr.child 3=some (3,(.slice 16 (.arr 2 (.int .i64)))):=rfl
@[go_sem] theorem z5Z:AH Dr= .agg [(.int 0),(.slice []),(.slice []),(.slice [])]:=rfl
@[go_sem] theorem z5Y:Al Dr= .agg Dr [Al (.int .u8),Al (.slice 32 (.arr 32 (.int .u8))),Al (.slice 1 (.int .u8)),Al (.slice 16 (.arr 2 (.int .i64)))]:=rfl
end Go.E
