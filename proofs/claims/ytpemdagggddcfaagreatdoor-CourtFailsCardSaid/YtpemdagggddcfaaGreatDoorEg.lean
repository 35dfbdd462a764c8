/-
 A framework for runs of Go code over abstract data: what it needs, and that it is sound, part 7.
 Conditions: none.
-/
import Derived.Test.YtpemdagggddcfaaGreatDoorEf
set_option linter.all false
set_option maxRecDepth 100000
set_option maxHeartbeats 4000000
open Bool renaming and_eq_true->bz,true_and->pn
open Go.E.C renaming toInt->bp
open Go.E.RD renaming kind->nk
open Go.E.S renaming obj->jo
open Go.E.Ty renaming beq->uk,beq_iff->qe
open Go.E.V renaming oks->th
open List renaming all_eq_true->eh,find?_some->qm,getD_eq_getElem?_getD->du,isEmpty_iff->pt,map_cons->ep,mem_append->ic,mem_cons->ja,mem_cons_of_mem->fm,mem_cons_self->fx,mem_of_find?_eq_some->rf
open Nat renaming add_assoc->fy,add_comm->pz,add_zero->ir,beq->dj,eq_of_beq_eq_true->ez,zero_add->cf
open Option renaming ite_none_right_eq_some->br,ne_none_iff_exists'->qj
namespace Go.E
open Go
section
def Ln {R:Type} (X:Cx) (call:Dx R) (ext:Dm) (ops:Array Oper) (wv:List Nat) (tbl:List (Nat × Nat)):List Oper->S->(List (Nat × Nat)->S->Option R)->Option R
 | [],s,K=>K [] s|o::rest,s,K=>
  match o.guard with
  |none=>QL X call ext (Cl wv tbl o (Ae X.gl s) s) o s fun v s1=>Ln X call ext ops wv tbl rest ((s1.wA s.A).set o.dst v) fun ml s2=>K ((AY o,Cl wv tbl o (Ae X.gl s) s)::ml) s2
  |some (j,want)=>Qb ops s j want (fun s=>QL X call ext (Cl wv tbl o (Ae X.gl s) s) o s fun v s1=>Ln X call ext ops wv tbl rest ((s1.wA s.A).set o.dst v) fun ml s2=>K ((AY o,Cl wv tbl o (Ae X.gl s) s)::ml) s2)
    (fun s=>Ln X call ext ops wv tbl rest (s.set o.dst (.tup [])) K)
theorem uR:∀(n:Nat) {loc:List (Key × O)} (ks:List Key),∀p∈JM n loc ks,AK loc p.1=some p.2
 |0,_,_,p,hp=>by simp[JM]at hp
 |n+1,loc,ks,p,hp=>by simp only[JM,List.mem_flatMap]at hp;obtain⟨k,h1,hp⟩:=hp;split at hp;{rename_i o ho;rcases ja.1 hp with rfl|hp;{exact ho};{split at hp;{exact uR n _ p hp};{simp at hp}}};{simp at hp}
def KG (base s:S) (xs:List V):S:=bif (V.GU xs).all (fun k=>(base.obj k).isSome)then base else base.see s xs
theorem Vs (base s:S) (xs:List V):KG base s xs=base\/KG base s xs=base.see s xs:=by unfold KG;cases(V.GU xs).all _;{exact .inr rfl};{exact .inl rfl}
theorem Vr (base s:S) (xs:List V):(KG base s xs).A=base.A:=by rcases Vs base s xs with h|h <;> rw[h] <;> rfl
theorem wL {base s:S} {xs:List V} (hb:∀k o,base.obj k=some o->s.obj k=some o) (k:Key) (o:O) (h:(KG base s xs).obj k=some o):s.obj k=some o:=by
 rcases Vs base s xs with e|e <;> rw[e]at h;{exact hb k o h}
 ·unfold jo S.see CR at h;simp only[Kp]at h;cases hl:AK (JM 3 s.loc (V.GU xs)) k with
  |some o'=>
   rw[hl]at h;cases h;exact pO (uR 3 _ (k,o) (ZW hl))
  |none=>
   rw[hl]at h;exact hb k o h
def ekK {R:Type} (X:Cx) (call:Dx R) (ext:Dm) (m:Nat) (o:Oper) (base s:S) (K:RD->Option R):Option R:=
 if Yl o=true then
  (match QO ext o (Ae X.gl s)with
  |some r=>(match r with|some v=>K (.k0 v)|none=>none)
  |none=>if dj m 8=true then Th X call o (Ae X.gl s) s (fun v=>K (.k1 v [] []))else if dj m 7=true then Jh X call false o (Ae X.gl s) s00 fun v L=>if Ku L (v.tkR 2000)=true then K (.k0 ((v.DA 2000).ren (dn (AY o)) (rk (AY o))))else none else(match m with
   |0=>Jh X call false o (Ae X.gl s) (KG base s (Ei o (Ae X.gl s))) fun v L=>if Gt L=true then(if Eu s (dnL (AY o) L)=true/\Ke s (dnT (AY o) (v.tkR 2000))=true then K (.k1 ((v.DA 2000).ren (dn (AY o)) (rk (AY o))) (dnL (AY o) L) (dnT (AY o) (v.tkR 2000)))else none)
      else if Gh s (AY o) L=true/\Ii s (AY o) (v.tkR 2000)=true then K (.k2 ((v.DA 2000).ren (dn (AY o)) (rk (AY o))) (s.ret false (Ei o (Ae X.gl s)) (AY o) v L))else none
   |m=>Jh X call (m==1) o (Ae X.gl s) s fun v L=>if Gh s (AY o) L=true/\Ii s (AY o) (v.tkR 2000)=true then K (.k2 ((v.DA 2000).ren (dn (AY o)) (rk (AY o))) (s.Vk (m==1) (Ei o (Ae X.gl s)) (AY o) v L))else none))
 else if nN m o (Ae X.gl s)=true then ekT X m (AY o) o (Ae X.gl s) s fun v s1=>K (.k2 v s1)
 else if nJ o (Ae X.gl s)=true then Tf X o (Ae X.gl s) (fun v=>K (.k0 v)) (ekI X m (AY o) o (Ae X.gl s) s00 fun v lo tn=>if Ku lo tn=true then K (.k0 v)else none)
 else if(q2y o (Ae X.gl s)&& !(dj m 4||dj m 20))=true then ekI X m (AY o) o (Ae X.gl s) s00 fun v lo tn=>if Ku lo tn=true then K (.k0 v)else none
 else ekI X m (AY o) o (Ae X.gl s) s fun v lo tn=>if Eu s lo=true/\Ke s tn=true then K (.k1 v lo tn)else none
def Ge {R:Type} (X:Cx) (call:Dx R) (ext:Dm) (ops:Array Oper) (wv:List Nat) (tbl:List (Nat × Nat)):List Oper->S->S->(List (Nat × Nat)->List Nat->S->Option R)->Option R
 | [],_,s,K=>K [] [] s|o::rest,base,s,K=>
  match o.guard with
  |none=>ekK X call ext (Cl wv tbl o (Ae X.gl s) s) o base s fun r=>match r with| .k0 v=>Ge X call ext ops wv tbl rest base (s.set o.dst v) fun ml ts s2=>K ((AY o,Cl wv tbl o (Ae X.gl s) s)::ml) (0::ts) s2| .k1 v lo tn=>Ge X call ext ops wv tbl rest base ((s.add lo tn).set o.dst v) fun ml ts s2=>K ((AY o,Cl wv tbl o (Ae X.gl s) s)::ml) (1::ts) s2| .k2 v s1=>Ge X call ext ops wv tbl rest ((s1.wA s.A).set o.dst v) ((s1.wA s.A).set o.dst v) fun ml ts s2=>K ((AY o,Cl wv tbl o (Ae X.gl s) s)::ml) (2::ts) s2
  |some (j,want)=>Qb ops s j want (fun s=>ekK X call ext (Cl wv tbl o (Ae X.gl s) s) o base s fun r=>match r with
    | .k0 v=>Ge X call ext ops wv tbl rest base (s.set o.dst v) fun ml ts s2=>K ((AY o,Cl wv tbl o (Ae X.gl s) s)::ml) (0::ts) s2| .k1 v lo tn=>Ge X call ext ops wv tbl rest base ((s.add lo tn).set o.dst v) fun ml ts s2=>K ((AY o,Cl wv tbl o (Ae X.gl s) s)::ml) (1::ts) s2| .k2 v s1=>Ge X call ext ops wv tbl rest ((s1.wA s.A).set o.dst v) ((s1.wA s.A).set o.dst v) fun ml ts s2=>K ((AY o,Cl wv tbl o (Ae X.gl s) s)::ml) (2::ts) s2)
    (fun s=>Ge X call ext ops wv tbl rest base (s.set o.dst (.tup [])) fun ml ts s2=>K ml (0::ts) s2)
section
variable {X:Cx} {R:Type} {call:Dx R} {ext:Dm} (hc:Il X call) (he:Hy X ext)
include hc he
theorem Xq {ops:Array Oper} {wv:List Nat} {tbl:List (Nat × Nat)} {r:R}:∀(l:List Oper) (s:S) {K:List (Nat × Nat)->S->Option R},Ln X call ext ops wv tbl l s K=some r->
  ∃ml s2,K ml s2=some r/\s2.A=s.A/\∀A',leA s.A A'->∀md:List (Nat × Nat),(∀p∈ml,CD md p.1=p.2)->∀Φ:S->Prop,Φ (s2.wA A')->vc X md ops Φ l (s.wA A')
 | [],s,K,h=>⟨_,_,h,rfl,fun A' hA md hm Φ hΦ=>hΦ⟩|o::rest,s,K,h=>by
  have go:(QL X call ext (Cl wv tbl o (Ae X.gl s) s) o s fun v s1=>Ln X call ext ops wv tbl rest ((s1.wA s.A).set o.dst v) fun ml s2=>K ((AY o,Cl wv tbl o (Ae X.gl s) s)::ml) s2)=some r->
    ∃ml s2,K ml s2=some r/\s2.A=s.A/\∀A',leA s.A A'->∀md:List (Nat × Nat),(∀p∈ml,CD md p.1=p.2)->∀Φ:S->Prop,Φ (s2.wA A')->sop X md (AY o) o (s.wA A') fun v s'=>vc X md ops Φ rest (s'.set o.dst v):=by
   intro h;obtain⟨v,s1,h1,h2⟩:=q1m hc he h;obtain⟨ml,s2,h3,h4,h5⟩:=Xq rest _ h1;refine⟨_,s2,h3,by rw[h4,DF];rfl,fun A' hA md hm Φ hΦ=>h2 A' hA md (hm (AY o,_) (fx ..)) _ ?_⟩;have:=h5 A' (by rw[DF];exact hA) md (fun p hp=>hm p (fm _ hp)) Φ hΦ;rw[<-Ig]at this;exact this
  simp only[Ln]at h;simp only[vc];cases hg:o.guard with
  |none=>
   rw[hg]at h;exact go h
  |some jw=>
   obtain⟨j,want⟩:=jw;rw[hg]at h;dsimp only at h ⊢;simp only[Yf];rcases YZ h with⟨h1,h2⟩|⟨h1,h2⟩;{obtain⟨ml,s2,h3,h4,h5⟩:=go h1;exact⟨ml,s2,h3,h4,fun A' hA md hm Φ hΦ=>h2 _ _ (h5 A' hA md hm Φ hΦ)⟩};{obtain⟨ml,s2,h3,h4,h5⟩:=Xq rest _ h1;refine⟨ml,s2,h3,by rw[h4,DF],fun A' hA md hm Φ hΦ=>h2 _ _ ?_⟩;rw[Ig];exact h5 A' (by rw[DF];exact hA) md hm Φ hΦ}
theorem kB {m:Nat} {o:Oper} {base s:S} (hb:∀k o,base.obj k=some o->s.obj k=some o) (hAb:base.A=s.A) {Kr:RD->Option R} {r:R} (h:ekK X call ext m o base s Kr=some r):
  ∃rd,Kr rd=some r/\(∀v lo tn,rd= .k1 v lo tn->Eu s lo=true)/\∀A',leA s.A A'->∀md:List (Nat × Nat),CD md (AY o)=m->∀(K0:V->Prop) (K1:V->List (Key × O)->List (Nat × Option Nat)->Prop) (K2:V->S->Prop),RD.post s A' K0 K1 K2 rd->kop X md (some rd.kind) (base.wA A') (s.wA A') o K0 K1 K2:=by
 have zu:∀A',leA s.A A'->leA base.A A':=fun A' hA=>by rw[hAb];exact hA
 unfold ekK at h;split at h
 ·split at h;{rename_i x e0;split at h;{refine⟨_,h,fun _ _ _ e=>(by cases e),fun A' hA md hm K0 K1 K2 hK=>?_⟩;simp only[kop,nk];rw[Eo];exact .inl (lK he e0 ⟨rfl,rfl,hK⟩)};{cases h}}
  ·split at h;{obtain⟨v,h1,h2⟩:=kH hc h;refine⟨_,h1,fun v' lo' tn' e=>(by cases e;rfl),fun A' hA md hm K0 K1 K2 hK=>?_⟩;simp only[kop,nk];rw[Eo];exact h2 A' hA md _ _ _ (hK trivial trivial rfl)};split at h;{obtain⟨v,L,h1,h2⟩:=Xp (dst:=AY o) (s:=s00) (base:=s00) hc (.inl rfl) h;simp only[br]at h1;obtain⟨h3,h1⟩:=h1;simp only[Ku,bz,pt]at h3;refine⟨_,h1,fun _ _ _ e=>(by cases e),fun A' hA md hm K0 K1 K2 hK=>?_⟩;simp only[kop,nk];rw[Eo];have:=(h2 s00.A (fun _ _ h=>h) md fun v lo tn=>lo=[]/\tn=[]/\K0 v).1 (by rw[h3.1];rfl) ⟨by rw[h3.1];rfl,by rw[h3.2];rfl,hK⟩;exact .inl this};split at h
   ·obtain⟨v,L,h1,h2⟩:∃v L,(if Gt L=true then(if Eu s (dnL (AY o) L)=true/\Ke s (dnT (AY o) (v.tkR 2000))=true then Kr (.k1 ((v.DA 2000).ren (dn (AY o)) (rk (AY o))) (dnL (AY o) L) (dnT (AY o) (v.tkR 2000)))else none)
      else if Gh s (AY o) L=true/\Ii s (AY o) (v.tkR 2000)=true then Kr (.k2 ((v.DA 2000).ren (dn (AY o)) (rk (AY o))) (s.ret false (Ei o (Ae X.gl s)) (AY o) v L))else none)=some r/\∀A',leA (KG base s (Ei o (Ae X.gl s))).A A'->∀(md:List (Nat × Nat)) (K:V->List (Key × O)->List (Nat × Option Nat)->Prop),(Gt L=true->K ((v.DA 2000).ren (dn (AY o)) (rk (AY o))) (dnL (AY o) L) (dnT (AY o) (v.tkR 2000))->iop X md (base.wA A') (AY o) o (Ae X.gl s) (s.wA A') K)/\
   (CD md (AY o)=0->(∀k o',(KG base s (Ei o (Ae X.gl s))).obj k=some o'->s.obj k=some o')->leA s.A A'->Gh s (AY o) L=true->Ii s (AY o) (v.tkR 2000)=true->∀K2:V->S->Prop,K2 ((v.DA 2000).ren (dn (AY o)) (rk (AY o))) ((s.ret false (Ei o (Ae X.gl s)) (AY o) v L).wA A')->top X md (AY o) o (Ae X.gl s) (s.wA A') K2):=
     Xp hc (Vs base s _) h
    split at h1;{rename_i hl;simp only[br]at h1;obtain⟨h3,h1⟩:=h1;refine⟨_,h1,fun v' lo' tn' e=>(by cases e;exact h3.1),fun A' hA md hm K0 K1 K2 hK=>?_⟩;simp only[kop,nk];rw[Eo];exact(h2 A' (by rw[Vr];exact zu A' hA) md K1).1 hl (hK (QZ h3.1) (Qa h3.2) h3.1)};{simp only[br]at h1;obtain⟨h3,h1⟩:=h1;refine⟨_,h1,fun _ _ _ e=>(by cases e),fun A' hA md hm K0 K1 K2 hK=>?_⟩;simp only[kop,nk];rw[Eo];exact(h2 A' (by rw[Vr];exact zu A' hA) md (fun _ _ _=>True)).2 hm (wL hb) hA h3.1 h3.2 K2 hK}
   ·obtain⟨v,L,h1,hq,h2⟩:=jZ (dst:=AY o) hc h;rw[hq]at h1;simp only[br]at h1;obtain⟨h3,h1⟩:=h1;refine⟨_,h1,fun _ _ _ e=>(by cases e),fun A' hA md hm K0 K1 K2 hK=>?_⟩;simp only[kop,nk];rw[Eo];exact h2 h3.1 h3.2 A' hA md (by rw[hm]) K2 hK
 ·split at h;{obtain⟨v,s1,h1,h2⟩:=Xu h;refine⟨_,h1,fun _ _ _ e=>(by cases e),fun A' hA md hm K0 K1 K2 hK=>?_⟩;simp only[kop,nk];rw[Eo];exact h2 A' hA md hm K2 hK}
  ·have z4F:(ekI X m (AY o) o (Ae X.gl s) s00 fun v lo tn=>if Ku lo tn=true then Kr (.k0 v)else none)=some r->
     ∃rd,Kr rd=some r/\(∀v lo tn,rd= .k1 v lo tn->Eu s lo=true)/\∀A',leA s.A A'->∀md:List (Nat × Nat),CD md (AY o)=m->∀(K0:V->Prop) (K1:V->List (Key × O)->List (Nat × Option Nat)->Prop) (K2:V->S->Prop),RD.post s A' K0 K1 K2 rd->kop X md (some rd.kind) (base.wA A') (s.wA A') o K0 K1 K2:=by
    intro h;obtain⟨v,lo,tn,h1,h2⟩:=Tg h;simp only[br]at h1;obtain⟨h3,h1⟩:=h1;refine⟨_,h1,fun _ _ _ e=>(by cases e),fun A' hA md hm K0 K1 K2 hK=>?_⟩;simp only[kop,nk];rw[Eo];simp only[Ku,bz,pt]at h3;exact .inl (h2 s00.A (fun _ _ h=>h) md s00 hm _ ⟨h3.1,h3.2,hK⟩)
   split at h;{rcases kA h with⟨v,h1,h2⟩|h;{refine⟨_,h1,fun _ _ _ e=>(by cases e),fun A' hA md hm K0 K1 K2 hK=>?_⟩;simp only[kop,nk];rw[Eo];exact .inr (h2 _ hK)};{exact z4F h}};split at h;{exact z4F h};{obtain⟨v,lo,tn,h1,h2⟩:=Tg h;simp only[br]at h1;obtain⟨h3,h1⟩:=h1;refine⟨_,h1,fun v' lo' tn' e=>(by cases e;exact h3.1),fun A' hA md hm K0 K1 K2 hK=>?_⟩;simp only[kop,nk];rw[Eo];exact h2 A' hA md _ hm _ (hK (QZ h3.1) (Qa h3.2) h3.1)}
theorem QM {ops:Array Oper} {wv:List Nat} {tbl:List (Nat × Nat)} {r:R}:∀(l:List Oper) (base s:S) {K:List (Nat × Nat)->List Nat->S->Option R},base.A=s.A->(∀k o,base.obj k=some o->s.obj k=some o)->Ge X call ext ops wv tbl l base s K=some r->
  ∃ml ts s2,K ml ts s2=some r/\s2.A=s.A/\∀A',leA s.A A'->∀md:List (Nat × Nat),(∀p∈ml,CD md p.1=p.2)->∀Φ:S->Prop,Φ (s2.wA A')->vd X md ops Φ l ts (base.wA A') (s.wA A')
 | [],base,s,K,hAb,hb,h=>⟨_,_,_,h,rfl,fun A' hA md hm Φ hΦ=>hΦ⟩|o::rest,base,s,K,hAb,hb,h=>by
  have go:(ekK X call ext (Cl wv tbl o (Ae X.gl s) s) o base s fun r=>match r with
    | .k0 v=>Ge X call ext ops wv tbl rest base (s.set o.dst v) fun ml ts s2=>K ((AY o,Cl wv tbl o (Ae X.gl s) s)::ml) (0::ts) s2| .k1 v lo tn=>Ge X call ext ops wv tbl rest base ((s.add lo tn).set o.dst v) fun ml ts s2=>K ((AY o,Cl wv tbl o (Ae X.gl s) s)::ml) (1::ts) s2| .k2 v s1=>Ge X call ext ops wv tbl rest ((s1.wA s.A).set o.dst v) ((s1.wA s.A).set o.dst v) fun ml ts s2=>K ((AY o,Cl wv tbl o (Ae X.gl s) s)::ml) (2::ts) s2)=some r->
    ∃ml ts s2,K ml ts s2=some r/\s2.A=s.A/\∀A',leA s.A A'->∀md:List (Nat × Nat),(∀p∈ml,CD md p.1=p.2)->∀Φ:S->Prop,Φ (s2.wA A')->kop X md ts.head? (base.wA A') (s.wA A') o (fun v=>vd X md ops Φ rest ts.tail (base.wA A') ((s.wA A').set o.dst v))
    (fun v lo tn=>FG (s.wA A') lo/\FH (s.wA A') tn/\vd X md ops Φ rest ts.tail (base.wA A') (((s.wA A').add lo tn).set o.dst v))
    (fun v s'=>vd X md ops Φ rest ts.tail (s'.set o.dst v) (s'.set o.dst v)):=by
   intro h;obtain⟨rd,h1,hf,h2⟩:=kB hc he hb hAb h;cases rd with
   |k0 v=>
    obtain⟨ml,ts,s2,h3,h4,h5⟩:=QM rest base _ (by rw[DF];exact hAb) (fun k o' hk=>by rw[Hk];exact hb k o' hk) h1;refine⟨_,_,s2,h3,by rw[h4,DF],fun A' hA md hm Φ hΦ=>h2 A' hA md (hm (AY o,_) (fx ..)) _ _ _ ?_⟩;have:=h5 A' (by rw[DF];exact hA) md (fun p hp=>hm p (fm _ hp)) Φ hΦ;rw[<-Ig]at this;exact this
   |k1 v lo tn=>
    have hfr:=hf v lo tn rfl;obtain⟨ml,ts,s2,h3,h4,h5⟩:=QM rest base _ (by rw[DF];exact hAb) (fun k o' hk=>by rw[Hk];exact aI hfr (hb k o' hk)) h1;refine⟨_,_,s2,h3,by rw[h4,DF];rfl,fun A' hA md hm Φ hΦ=>h2 A' hA md (hm (AY o,_) (fx ..)) _ _ _ ?_⟩;intro f1 f2 f3;refine⟨f1,f2,?_⟩;have:=h5 A' (by rw[DF];exact hA) md (fun p hp=>hm p (fm _ hp)) Φ hΦ;rw[<-Ig]at this;exact this
   |k2 v s1=>
    obtain⟨ml,ts,s2,h3,h4,h5⟩:=QM rest ((s1.wA s.A).set o.dst v) ((s1.wA s.A).set o.dst v) rfl (fun _ _ h=>h) h1;refine⟨_,_,s2,h3,by rw[h4,DF];rfl,fun A' hA md hm Φ hΦ=>h2 A' hA md (hm (AY o,_) (fx ..)) _ _ _ ?_⟩;have:=h5 A' (by rw[DF];exact hA) md (fun p hp=>hm p (fm _ hp)) Φ hΦ;rw[<-Ig]at this;exact this
  simp only[Ge]at h;simp only[vd];cases hg:o.guard with
  |none=>
   rw[hg]at h;exact go h
  |some jw=>
   obtain⟨j,want⟩:=jw;rw[hg]at h;dsimp only at h ⊢;simp only[Yf];rcases YZ h with⟨h1,h2⟩|⟨h1,h2⟩;{obtain⟨ml,ts,s2,h3,h4,h5⟩:=go h1;exact⟨ml,ts,s2,h3,h4,fun A' hA md hm Φ hΦ=>h2 _ _ (h5 A' hA md hm Φ hΦ)⟩};{obtain⟨ml,ts,s2,h3,h4,h5⟩:=QM rest base _ (by rw[DF];exact hAb) (fun k o' hk=>by rw[Hk];exact hb k o' hk) h1;refine⟨ml,_,s2,h3,by rw[h4,DF],fun A' hA md hm Φ hΦ=>h2 _ _ ?_⟩;rw[Ig];exact h5 A' (by rw[DF];exact hA) md hm Φ hΦ}
end
end
section
theorem nS:∀(σ:List (Nat × List Nat)) (s:S) (k:Key),(EH σ s).obj k=s.obj k
 | [],_,_=>rfl|(_,_)::σ,s,k=>(nS σ _ k).trans rfl
theorem q1r {R:Type} {X:Cx} {m dst:Nat} {o:Oper} {ρ:Operand->V} {s:S} {T:TypeId} {p y:Operand} {k:Key} {q:List Nat} {τ:Ty} (ho:o.op= .store T p y) (hp:ρ p= .ptr k q τ) {K:KS R} {r:R} (h:ekT X m dst o ρ s K=some r):
  ∃v s1,ekT X m dst o ρ s (fun v s1=>some (v,s1))=some (v,s1)/\K v s1=some r/\∀A' j,j≠k->(s1.wA A').obj j=(s.wA A').obj j:=by
 unfold ekT at h ⊢;generalize o.op=op at ho h ⊢;subst ho;dsimp only at h ⊢;generalize ρ p=pv at hp h ⊢;subst hp;dsimp only at h ⊢;have xa:∀(ob:O) (A':Key->Option O) (j:Key),j≠k->((s.put k ob).wA A').obj j=(s.wA A').obj j:=fun ob A' j hj=>by show((s.wA A').put k ob).obj j=_;rw[Db,if_neg (fun e=>hj e.symm)]
 have z5e:∀(ob:O) (t:Nat) (A':Key->Option O) (j:Key),j≠k->(((s.put k ob).tok t none).wA A').obj j=(s.wA A').obj j:=fun ob t A' j hj=>(xa ob A' j hj);generalize s.obj k=ok at h ⊢;cases ok with
 |none=>cases h
 |some ob=>
  cases ob with
  |box x=>
   dsimp only at h ⊢;simp only[br]at h;obtain⟨h1,h⟩:=h;rw[if_pos h1];generalize CC τ (ρ y)=z at h ⊢;cases z with
   |sl eb e cs t=>
    dsimp only at h ⊢;generalize Kn s t cs.length=lv at h ⊢;cases lv with
    |none=>exact⟨_,_,rfl,h,fun A' j hj=>xa _ A' j hj⟩|some b=>
     cases b;{cases h};{exact⟨_,_,rfl,h,fun A' j hj=>z5e _ _ A' j hj⟩}
   |_=>
    dsimp only at h ⊢;generalize V.GR _ _=nb at h ⊢;cases nb;{cases h};{exact⟨_,_,rfl,h,fun A' j hj=>by rw[<-UM];exact(nS _ _ _).trans (xa _ A' j hj)⟩}
  |_=>cases h
inductive RF where
 |k0 (v:V)|k1 (v:V) (lo:List (Key × O)) (tn:List (Nat × Option Nat))|k3 (v:V) (s:S)|k4 (v:V)
def RF.kind:RF->Nat
 | .k0 _=>0| .k1 _ _ _=>1| .k3 _ _=>3| .k4 _=>4
def RF.post (s:S) (A':Key->Option O) (K0:V->Prop) (K1:V->List (Key × O)->List (Nat × Option Nat)->Prop) (K2:V->S->Prop):RF->Prop
 | .k0 v=>K0 v| .k1 v lo tn=>FG (s.wA A') lo->FH (s.wA A') tn->Eu s lo=true->K1 v lo tn| .k3 v s1=>K2 v (s1.wA A')| .k4 v=>K0 v
def sY (F:List Key) (L:List (Key × O)):Bool:=F.all fun k=>(AK L k).isNone
def noF (F:List Key) (k:Key):Bool:=F.all fun j=>decide (j≠k)
def xD (o:Oper) (ρ:Operand->V):Option Key:=match o.op with| .store _ p _=>(match ρ p with| .ptr k _ _=>some k|_=>none)|_=>none
def QE {R:Type} (X:Cx) (call:Dx R) (ext:Dm) (F:List Key) (m:Nat) (o:Oper) (base s:S) (K:RF->Option R):Option R:=
 if dj m 19=true then ekI X m (AY o) o (Ae X.gl s) (sF F s) fun v lo tn=>if Ku lo tn=true then K (.k4 v)else none
 else match xD o (Ae X.gl s)with
 |some k=>if noF F k=true then ekT X m (AY o) o (Ae X.gl s) s fun v s1=>K (.k3 v s1)else none
 |none=>if Yl o=true/\dj m 0=true/\(QO ext o (Ae X.gl s)).isNone=true then
    Jh X call false o (Ae X.gl s) (KG base s (Ei o (Ae X.gl s))) fun v L=>if Gt L=true then(if Eu s (dnL (AY o) L)=true/\Ke s (dnT (AY o) (v.tkR 2000))=true then K (.k1 ((v.DA 2000).ren (dn (AY o)) (rk (AY o))) (dnL (AY o) L) (dnT (AY o) (v.tkR 2000)))else none)
      else if sY F (dnL (AY o) L)=true/\Gh s (AY o) L=true/\Ii s (AY o) (v.tkR 2000)=true then K (.k3 ((v.DA 2000).ren (dn (AY o)) (rk (AY o))) (s.ret false (Ei o (Ae X.gl s)) (AY o) v L))else none
   else ekK X call ext m o base s fun r=>match r with| .k0 v=>K (.k0 v)| .k1 v lo tn=>K (.k1 v lo tn)| .k2 _ _=>none
theorem q6H {F:List Key} {s:S} {A':Key->Option O} (hF:∀k∈F,s.obj k≠none) (hA:leA s.A A'):sF F (s.wA A')=sF F s:=by
 have:∀(G:List Key),(∀k∈G,s.obj k≠none)->G.filterMap (fun k=>((s.wA A').obj k).map fun o=>(k,o))=G.filterMap fun k=>(s.obj k).map fun o=>(k,o):=by
  intro G
  induction G with
  |nil=>intro _;rfl|cons k G ih=>
   intro h;simp only[List.filterMap_cons];have hk:=h k (fx ..);cases ho:s.obj k with
   |none=>exact absurd ho hk|some ob=>
    rw[DT hA ho,ih fun j hj=>h j (fm _ hj)]
 unfold sF;rw[this F hF]
section
variable {X:Cx} {R:Type} {call:Dx R} {ext:Dm} (hc:Il X call) (he:Hy X ext)
include hc he
theorem q09 {F:List Key} {m:Nat} {o:Oper} {base s:S} (hb:∀k o,base.obj k=some o->s.obj k=some o) (hAb:base.A=s.A) (hF:∀k∈F,s.obj k≠none) {Kr:RF->Option R} {r:R} (h:QE X call ext F m o base s Kr=some r):
  ∃rd,Kr rd=some r/\(∀v lo tn,rd= .k1 v lo tn->Eu s lo=true)/\(∀v s1,rd= .k3 v s1->∀A',∀k∈F,(s1.wA A').obj k=(s.wA A').obj k)/\
   ∀A',leA s.A A'->∀md:List (Nat × Nat),CD md (AY o)=m->∀(K0:V->Prop) (K1:V->List (Key × O)->List (Nat × Option Nat)->Prop) (K2:V->S->Prop),RF.post s A' K0 K1 K2 rd->JD X F md (some rd.kind) (base.wA A') (s.wA A') o K0 K1 K2:=by
 have zu:∀A',leA s.A A'->leA base.A A':=fun A' hA=>by rw[hAb];exact hA
 unfold QE at h;split at h;{obtain⟨v,lo,tn,h1,h2⟩:=Tg h;simp only[br]at h1;obtain⟨h3,h1⟩:=h1;refine⟨_,h1,fun _ _ _ e=>(by cases e),fun _ _ e=>(by cases e),fun A' hA md hm K0 K1 K2 hK=>?_⟩;simp only[Ku,bz,pt]at h3;simp only[JD,RF.kind];rw[Eo,q6H hF hA];exact h2 (sF F s).A (fun _ _ h=>h) md (sF F s) hm _ ⟨h3.1,h3.2,hK⟩}
 ·split at h
  ·rename_i k hk;simp only[br]at h;obtain⟨hn,h⟩:=h;have hn':∀j∈F,j≠k:=by simpa[noF]using hn
   unfold xD at hk;split at hk;{rename_i T p y ho;split at hk;{rename_i k' q τ hp;cases hk;obtain⟨v,s1,g1,g2,g3⟩:=q1r ho hp h;obtain⟨v',s1',e1,h2⟩:=Xu g1;cases e1;refine⟨_,g2,fun _ _ _ e=>(by cases e),fun _ _ e=>(by cases e;exact fun A' j hj=>g3 A' j (hn' j hj)),fun A' hA md hm K0 K1 K2 hK=>?_⟩;simp only[JD,RF.kind];rw[Eo];exact h2 A' hA md hm _ ⟨fun j hj=>g3 A' j (hn' j hj),hK⟩};{cases hk}};{cases hk}
  ·split at h
   ·rename_i hcl;obtain⟨v,L,h1,h2⟩:=Xp (dst:=AY o) hc (Vs base s _) h;split at h1;{rename_i hl;simp only[br]at h1;obtain⟨h3,h1⟩:=h1;refine⟨_,h1,fun v' lo' tn' e=>(by cases e;exact h3.1),fun _ _ e=>(by cases e),fun A' hA md hm K0 K1 K2 hK=>?_⟩;simp only[JD,kop,RF.kind];rw[Eo];exact(h2 A' (by rw[Vr];exact zu A' hA) md K1).1 hl (hK (QZ h3.1) (Qa h3.2) h3.1)}
    ·simp only[br]at h1;obtain⟨⟨ho,h3⟩,h1⟩:=h1;have ho':∀k∈F,AK (dnL (AY o) L) k=none:=by simpa[sY,Option.isNone_iff_eq_none]using ho
     have kp:∀A',∀k∈F,((s.ret false (Ei o (Ae X.gl s)) (AY o) v L).wA A').obj k=(s.wA A').obj k:=fun A' k hk=>by rw[<-cG,vO];unfold S.back jo CR;simp only[Kp,ho' k hk]
     refine⟨_,h1,fun _ _ _ e=>(by cases e),fun _ _ e=>(by cases e;exact kp),fun A' hA md hm K0 K1 K2 hK=>?_⟩;simp only[JD,RF.kind];rw[Eo];exact(h2 A' (by rw[Vr];exact zu A' hA) md (fun _ _ _=>True)).2 (hm.trans (ez hcl.2.1)) (wL hb) hA h3.1 h3.2 _ ⟨kp A',hK⟩
   ·obtain⟨rd,h1,hf,h2⟩:=kB hc he hb hAb h;cases rd with|k0 v=>exact⟨_,h1,fun _ _ _ e=>(by cases e),fun _ _ e=>(by cases e),fun A' hA md hm K0 K1 K2 hK=>h2 A' hA md hm K0 K1 K2 hK⟩|k1 v lo tn=>exact⟨_,h1,fun _ _ _ e=>(by cases e;exact hf v lo tn rfl),fun _ _ e=>(by cases e),fun A' hA md hm K0 K1 K2 hK=>h2 A' hA md hm K0 K1 K2 hK⟩|k2 v s1=>cases h1
end
def FV {R:Type} (X:Cx) (call:Dx R) (ext:Dm) (F:List Key) (ops:Array Oper) (wv:List Nat) (tbl:List (Nat × Nat)):List Oper->S->S->(List (Nat × Nat)->List Nat->S->Option R)->Option R
 | [],_,s,K=>K [] [] s|o::rest,base,s,K=>
  match o.guard with
  |none=>QE X call ext F (Cl wv tbl o (Ae X.gl s) s) o base s fun r=>match r with| .k0 v=>FV X call ext F ops wv tbl rest base (s.set o.dst v) fun ml ts s2=>K ((AY o,Cl wv tbl o (Ae X.gl s) s)::ml) (0::ts) s2| .k1 v lo tn=>FV X call ext F ops wv tbl rest base ((s.add lo tn).set o.dst v) fun ml ts s2=>K ((AY o,Cl wv tbl o (Ae X.gl s) s)::ml) (1::ts) s2| .k3 v s1=>FV X call ext F ops wv tbl rest ((s1.wA s.A).set o.dst v) ((s1.wA s.A).set o.dst v) fun ml ts s2=>K ((AY o,Cl wv tbl o (Ae X.gl s) s)::ml) (3::ts) s2| .k4 v=>FV X call ext F ops wv tbl rest base (s.set o.dst v) fun ml ts s2=>K ((AY o,Cl wv tbl o (Ae X.gl s) s)::ml) (4::ts) s2
  |some (j,want)=>Qb ops s j want (fun s=>QE X call ext F (Cl wv tbl o (Ae X.gl s) s) o base s fun r=>match r with
    | .k0 v=>FV X call ext F ops wv tbl rest base (s.set o.dst v) fun ml ts s2=>K ((AY o,Cl wv tbl o (Ae X.gl s) s)::ml) (0::ts) s2| .k1 v lo tn=>FV X call ext F ops wv tbl rest base ((s.add lo tn).set o.dst v) fun ml ts s2=>K ((AY o,Cl wv tbl o (Ae X.gl s) s)::ml) (1::ts) s2| .k3 v s1=>FV X call ext F ops wv tbl rest ((s1.wA s.A).set o.dst v) ((s1.wA s.A).set o.dst v) fun ml ts s2=>K ((AY o,Cl wv tbl o (Ae X.gl s) s)::ml) (3::ts) s2| .k4 v=>FV X call ext F ops wv tbl rest base (s.set o.dst v) fun ml ts s2=>K ((AY o,Cl wv tbl o (Ae X.gl s) s)::ml) (4::ts) s2)
    (fun s=>FV X call ext F ops wv tbl rest base (s.set o.dst (.tup [])) fun ml ts s2=>K ml (0::ts) s2)
section
variable {X:Cx} {R:Type} {call:Dx R} {ext:Dm} (hc:Il X call) (he:Hy X ext)
include hc he
theorem Nm {F:List Key} {ops:Array Oper} {wv:List Nat} {tbl:List (Nat × Nat)} {r:R}:∀(l:List Oper) (base s:S) {K:List (Nat × Nat)->List Nat->S->Option R},base.A=s.A->(∀k o,base.obj k=some o->s.obj k=some o)->(∀k∈F,s.obj k≠none)->FV X call ext F ops wv tbl l base s K=some r->
  ∃ml ts s2,K ml ts s2=some r/\s2.A=s.A/\∀A',leA s.A A'->∀md:List (Nat × Nat),(∀p∈ml,CD md p.1=p.2)->∀Φ:S->Prop,Φ (s2.wA A')->vdF X F md ops Φ l ts (base.wA A') (s.wA A')
 | [],base,s,K,hAb,hb,hF,h=>⟨_,_,_,h,rfl,fun A' hA md hm Φ hΦ=>hΦ⟩|o::rest,base,s,K,hAb,hb,hF,h=>by
  have go:(QE X call ext F (Cl wv tbl o (Ae X.gl s) s) o base s fun r=>match r with
    | .k0 v=>FV X call ext F ops wv tbl rest base (s.set o.dst v) fun ml ts s2=>K ((AY o,Cl wv tbl o (Ae X.gl s) s)::ml) (0::ts) s2| .k1 v lo tn=>FV X call ext F ops wv tbl rest base ((s.add lo tn).set o.dst v) fun ml ts s2=>K ((AY o,Cl wv tbl o (Ae X.gl s) s)::ml) (1::ts) s2| .k3 v s1=>FV X call ext F ops wv tbl rest ((s1.wA s.A).set o.dst v) ((s1.wA s.A).set o.dst v) fun ml ts s2=>K ((AY o,Cl wv tbl o (Ae X.gl s) s)::ml) (3::ts) s2| .k4 v=>FV X call ext F ops wv tbl rest base (s.set o.dst v) fun ml ts s2=>K ((AY o,Cl wv tbl o (Ae X.gl s) s)::ml) (4::ts) s2)=some r->
    ∃ml ts s2,K ml ts s2=some r/\s2.A=s.A/\∀A',leA s.A A'->∀md:List (Nat × Nat),(∀p∈ml,CD md p.1=p.2)->∀Φ:S->Prop,Φ (s2.wA A')->JD X F md ts.head? (base.wA A') (s.wA A') o (fun v=>vdF X F md ops Φ rest ts.tail (base.wA A') ((s.wA A').set o.dst v))
    (fun v lo tn=>FG (s.wA A') lo/\FH (s.wA A') tn/\vdF X F md ops Φ rest ts.tail (base.wA A') (((s.wA A').add lo tn).set o.dst v))
    (fun v s'=>vdF X F md ops Φ rest ts.tail (s'.set o.dst v) (s'.set o.dst v)):=by
   intro h;obtain⟨rd,h1,hf,hk3,h2⟩:=q09 hc he hb hAb hF h;cases rd with
   |k0 v=>
    obtain⟨ml,ts,s2,h3,h4,h5⟩:=Nm rest base _ (by rw[DF];exact hAb) (fun k o' hk=>by rw[Hk];exact hb k o' hk) (fun k hk=>by rw[Hk];exact hF k hk) h1;refine⟨_,_,s2,h3,by rw[h4,DF],fun A' hA md hm Φ hΦ=>h2 A' hA md (hm (AY o,_) (fx ..)) _ _ _ ?_⟩;have:=h5 A' (by rw[DF];exact hA) md (fun p hp=>hm p (fm _ hp)) Φ hΦ;rw[<-Ig]at this;exact this
   |k1 v lo tn=>
    have hfr:=hf v lo tn rfl
    obtain⟨ml,ts,s2,h3,h4,h5⟩:=Nm rest base _ (by rw[DF];exact hAb) (fun k o' hk=>by rw[Hk];exact aI hfr (hb k o' hk)) (fun k hk=>by
     rw[Hk];cases ho:s.obj k with
     |none=>exact absurd ho (hF k hk)|some ob=>rw[aI hfr ho];exact fun e=>by cases e) h1
    refine⟨_,_,s2,h3,by rw[h4,DF];rfl,fun A' hA md hm Φ hΦ=>h2 A' hA md (hm (AY o,_) (fx ..)) _ _ _ ?_⟩;intro f1 f2 f3;refine⟨f1,f2,?_⟩;have:=h5 A' (by rw[DF];exact hA) md (fun p hp=>hm p (fm _ hp)) Φ hΦ;rw[<-Ig]at this;exact this
   |k3 v s1=>
    obtain⟨ml,ts,s2,h3,h4,h5⟩:=Nm rest ((s1.wA s.A).set o.dst v) ((s1.wA s.A).set o.dst v) rfl (fun _ _ h=>h) (fun k hk=>by
     rw[Hk,hk3 v s1 rfl s.A k hk];exact hF k hk) h1
    refine⟨_,_,s2,h3,by rw[h4,DF];rfl,fun A' hA md hm Φ hΦ=>h2 A' hA md (hm (AY o,_) (fx ..)) _ _ _ ?_⟩;have:=h5 A' (by rw[DF];exact hA) md (fun p hp=>hm p (fm _ hp)) Φ hΦ;rw[<-Ig]at this;exact this
   |k4 v=>
    obtain⟨ml,ts,s2,h3,h4,h5⟩:=Nm rest base _ (by rw[DF];exact hAb) (fun k o' hk=>by rw[Hk];exact hb k o' hk) (fun k hk=>by rw[Hk];exact hF k hk) h1;refine⟨_,_,s2,h3,by rw[h4,DF],fun A' hA md hm Φ hΦ=>h2 A' hA md (hm (AY o,_) (fx ..)) _ _ _ ?_⟩;have:=h5 A' (by rw[DF];exact hA) md (fun p hp=>hm p (fm _ hp)) Φ hΦ;rw[<-Ig]at this;exact this
  simp only[FV]at h;simp only[vdF];cases hg:o.guard with
  |none=>
   rw[hg]at h;exact go h
  |some jw=>
   obtain⟨j,want⟩:=jw;rw[hg]at h;dsimp only at h ⊢;simp only[Yf];rcases YZ h with⟨h1,h2⟩|⟨h1,h2⟩;{obtain⟨ml,ts,s2,h3,h4,h5⟩:=go h1;exact⟨ml,ts,s2,h3,h4,fun A' hA md hm Φ hΦ=>h2 _ _ (h5 A' hA md hm Φ hΦ)⟩};{obtain⟨ml,ts,s2,h3,h4,h5⟩:=Nm rest base _ (by rw[DF];exact hAb) (fun k o' hk=>by rw[Hk];exact hb k o' hk) (fun k hk=>by rw[Hk];exact hF k hk) h1;refine⟨ml,_,s2,h3,by rw[h4,DF],fun A' hA md hm Φ hΦ=>h2 _ _ ?_⟩;rw[Ig];exact h5 A' (by rw[DF];exact hA) md hm Φ hΦ}
end
end
section
def q2B (tbl:List (Nat × Nat)):List Key:=tbl.filterMap fun p=>bif dj p.2 19 then(bif Nat.ble 3000000 p.1 then some (.g (.l (p.1-3000000)))else bif Nat.ble 2000000 p.1 then some (.l (p.1-2000000))else none)else none
def Xr {R:Type} (X:Cx) (call:Dx R) (ext:Dm) (tbl:List (Nat × Nat)) (n:Nat) (ops:List Oper) (draw:Bool) (s:S) (K:S->Option R):Option R:=
 if ops.all (Hl n)=true then
  (match draw with
  |true=>(match q2B tbl with| []=>Ge X call ext ops.toArray (Sx ops) tbl ops s s fun ml ts s2=>if OI ml ml=true/\OP ops ts=true then K s2 else none|k::F=>if(k::F).all (fun k=>(s.obj k).isSome)=true then FV X call ext (k::F) ops.toArray (Sx ops) tbl ops s s fun ml ts s2=>if OI ml ml=true/\OP ops (ts.map tK)=true then K s2 else none else none)|false=>Ln X call ext ops.toArray (Sx ops) tbl ops s fun ml s2=>if OI ml ml=true then K s2 else none)
 else none
abbrev KE (R:Type):=Exit->S->Option R
def QH {R:Type} (body:S->KE R->Option R) (xa:List Nat):Nat->S->KE R->Option R
 |0,_,_=>none|k+1,s,K=>body s fun e s1=>match e with| .normal=>if gcB xa s1=true then QH body xa k (gcS xa s1) K else none|e=>K e s1
section
variable {X:Cx} {R:Type} {call:Dx R} {ext:Dm} (hP:Al X.P=true) (hmo:X.P.follows .mixedOrders=true) (hc:Il X call) (he:Hy X ext)
def LR (X:Cx) (n:Nat) (c:Code) (s:S) {R:Type} (r:R) (K:KE R):Prop:=
 ∃e s',K e s'=some r/\s'.A=s.A/\∀A',leA s.A A'->∀Ψ:Exit->S->Prop,Ψ e (s'.wA A')->DC X n c (s.wA A') Ψ
theorem kE {c:Code} {n:Nat} {xa:List Nat} {body:S->KE R->Option R} {r:R} (hb:∀s (K:KE R),body s K=some r->LR X n c s r K):
  ∀(k:Nat) (s:S) (K:KE R),QH body xa k s K=some r->∃e s',K e s'=some r/\s'.A=s.A/\∀A',leA s.A A'->∀Ψ:Exit->S->Prop,Ψ e (s'.wA A')->∀(Γ0:G) (a:Act) (w:World),At X n Γ0 (s.wA A') a w->Code.rounds X.P c (fun e a w=>∃s',Ψ e s'/\At X n Γ0 s' a w) k a w
 |0,s,K,h=>by simp[QH]at h
 |k+1,s,K,h=>by
  simp only[QH]at h;obtain⟨e0,s1,h1,hA1,hD⟩:=hb _ _ h;have zv:∀(hne:e0≠.normal),K e0 s1=some r->∃e s',K e s'=some r/\s'.A=s.A/\∀A',leA s.A A'->∀Ψ:Exit->S->Prop,Ψ e (s'.wA A')->∀(Γ0:G) (a:Act) (w:World),At X n Γ0 (s.wA A') a w->Code.rounds X.P c (fun e a w=>∃s',Ψ e s'/\At X n Γ0 s' a w) (k+1) a w:=by
   intro hne h1;refine⟨e0,s1,h1,hA1,fun A' hA Ψ hΨ Γ0 a w hat=>?_⟩;rw[rounds_succ];refine wp_mono (hD A' hA (fun e1 s2=>e1=e0/\s2=s1.wA A') ⟨rfl,rfl⟩ Γ0 a w hat) ?_;rintro e1 a1 w1 ⟨s2,⟨rfl,rfl⟩,zf⟩;cases e1 with
   |normal=>exact absurd rfl hne|exit _|goto _|ret|panic _|outgrown=>exact⟨_,hΨ,zf⟩
  cases e0 with
  |normal=>
   simp only[br]at h1;obtain⟨h2,h1⟩:=h1;obtain⟨e,s',h3,h4,h5⟩:=kE hb k (gcS xa s1) K h1;refine⟨e,s',h3,by rw[h4];exact hA1,fun A' hA Ψ hΨ Γ0 a w hat=>?_⟩;have hA2:leA (gcS xa s1).A A':=by show leA s1.A A';rw[hA1];exact hA
   rw[rounds_succ];refine wp_mono (hD A' hA (fun e1 s2=>e1= .normal/\s2=s1.wA A') ⟨rfl,rfl⟩ Γ0 a w hat) ?_;rintro e1 a1 w1 ⟨s2,⟨rfl,rfl⟩,zf⟩;exact h5 A' hA2 Ψ hΨ Γ0 a1 w1 (q1S A' h2 Γ0 a1 w1 zf)
  |exit _|goto _|ret|panic _|outgrown=>exact zv (by simp) h1
include hP hmo hc he
theorem q1e {tbl:List (Nat × Nat)} {n id:Nat} {ops:List Oper} {draw:Bool} {s:S} {r:R} {K:S->Option R} (h:Xr X call ext tbl n ops draw s K=some r):
  ∃s',K s'=some r/\s'.A=s.A/\∀A',leA s.A A'->∀Ψ:Exit->S->Prop,Ψ .normal (s'.wA A')->DC X n (.region id ops.toArray draw) (s.wA A') Ψ:=by
 unfold Xr at h;simp only[br]at h;obtain⟨h1,h⟩:=h;cases draw with
 |true=>
  dsimp only at h;split at h;{obtain⟨ml,ts,s2,h2,h3,h4⟩:=QM hc he ops s s rfl (fun _ _ h=>h) h;simp only[br]at h2;obtain⟨⟨h5,h6⟩,h2⟩:=h2;exact⟨s2,h2,h3,fun A' hA Ψ hΨ=>F0 hP hmo ml ts h1 h6 (h4 A' hA ml (Ut h5) _ hΨ)⟩}
  ·rename_i k F _;simp only[br]at h;obtain⟨hq,h⟩:=h;have hF:∀j∈k::F,s.obj j≠none:=fun j hj e=>by have:=eh.1 hq j hj;rw[e]at this;cases this
   obtain⟨ml,ts,s2,h2,h3,h4⟩:=Nm hc he ops s s rfl (fun _ _ h=>h) hF h;simp only[br]at h2;obtain⟨⟨h5,h6⟩,h2⟩:=h2;refine⟨s2,h2,h3,fun A' hA Ψ hΨ=>F1 hP hmo (k::F) ml ts h1 h6 (fun j hj e=>?_) (h4 A' hA ml (Ut h5) _ hΨ)⟩;cases ho:s.obj j with
   |none=>exact hF j hj ho|some ob=>rw[DT hA ho]at e;cases e
 |false=>
  obtain⟨ml,s2,h2,h3,h4⟩:=Xq hc he ops s h;simp only[br]at h2;obtain⟨h5,h2⟩:=h2;exact⟨s2,h2,h3,fun A' hA Ψ hΨ=>Da hP ml h1 (h4 A' hA ml (Ut h5) _ hΨ)⟩
end
def OQ {R:Type} (s:S):List V->(List V->Option R)->Option R
 | [],K=>K []|x::xs,K=>(match x with| .sl eb e cs t=>(match Kn s t cs.length with|some b=>bif b then OQ s xs (fun vs=>K (.ts eb e cs::vs))else none|none=>OQ s xs (fun vs=>K (.d (.slice eb e) (.slice cs)::vs)))|x=>OQ s xs (fun vs=>K (x.FJ::vs)))
theorem VM {R:Type} {s:S} {r:R}:∀{xs:List V} {K:List V->Option R},OQ s xs K=some r->K (IY s xs)=some r
 | [],K,h=>h|x::xs,K,h=>by
  simp only[OQ]at h;split at h
  ·rename_i eb e cs t;split at h
   ·rename_i b e0;cases b with
    |false=>cases h
    |true=>
     have hl:=ZP e0;have:=VM (xs:=xs) h;simp only[IY,MN,if_pos hl];exact this
   ·rename_i e0;have hl:s.live t=none:=by unfold Kn at e0;split at e0;{cases e0};{rename_i e5;exact e5}
    have:=VM (xs:=xs) h;simp only[IY,MN];rw[if_neg (by rw[hl];simp)];exact this
  ·rename_i hx;have:=VM (xs:=xs) h;simp only[IY];have e:MN s x=x.FJ:=by cases x <;> first|rfl|exact(hx _ _ _ _ rfl).elim
   rw[e];exact this
def kG {R:Type} (X:Cx) (fn:Func) (s:S) (K:V->List (Key × O)->Option R):Option R:=
 OQ s (Ed X s fn.results.toList) fun vs=>
  if SN X s fn.results.toList=true/\RZ (Ed X s fn.results.toList)=true/\Gu (Bv (Fz s.loc (reach s.loc 100000 (V.Jr vs++JB s.loc) []) s.loc)) vs=true/\GA (Ih (FP 2000 (Ed X s fn.results.toList) vs))=true/\KQ (Fz s.loc (reach s.loc 100000 (V.Jr vs++JB s.loc) []) s.loc)=true/\
   FA (Bv (Fz s.loc (reach s.loc 100000 (V.Jr vs++JB s.loc) []) s.loc)) Bk (Fz s.loc (reach s.loc 100000 (V.Jr vs++JB s.loc) []) s.loc)=true/\IC (Fz s.loc (reach s.loc 100000 (V.Jr vs++JB s.loc) []) s.loc) s.loc=true then
   K (bA vs) (Fz s.loc (reach s.loc 100000 (V.Jr vs++JB s.loc) []) s.loc)else none
theorem q1f {X:Cx} {fn:Func} {s:S} {R:Type} {r:R} {K:V->List (Key × O)->Option R} (h:kG X fn s K=some r):∃v L,K v L=some r/\∀A',leA s.A A'->Ff X fn A' v L (s.wA A'):=by have h:=VM h;simp only[br]at h;obtain⟨h1,h⟩:=h;refine⟨_,_,h,fun A' hA=>q1C hA ?_⟩;simp only[YC,if_pos h1]
abbrev OvK (R:Type):=FuncId->Option (List V->(Key->Option O)->(V->List (Key × O)->Option R)->Option R)
def WZ (X:Cx) {R:Type} (ov:OvK R):Prop:=∀f g,ov f=some g->∀xs A Kr r,g xs A Kr=some r->∃v L,Bu X f xs A v L/\Kr v L=some r
section
variable {X:Cx} {R:Type} {ov:OvK R} {ext:Dm} (hP:Al X.P=true) (hmo:X.P.follows .mixedOrders=true) (hov:WZ X ov) (he:Hy X ext)
include hP hmo hov he
end
abbrev kR:V->List (Key × O)->Option (V × List (Key × O)):=fun v L=>some (v,L)
end
section
section
variable {e:Exit} {s:S} {Q:Exit->S->Prop} {T T':Option (Exit × S)}
end
theorem DC.post {X:Cx} {n:Nat} {c:Code} {s:S} {Ψ Ψ':Exit->S->Prop} (h:DC X n c s Ψ) (hq:∀e s,Ψ e s->∃s',Dd X n s s'/\Ψ' e s'):DC X n c s Ψ':=
 fun Γ0 a w hat=>wp_mono (h Γ0 a w hat) fun e a w ⟨s1,h1,h2⟩=>by obtain⟨s2,h3,h4⟩:=hq e s1 h1;exact⟨s2,h4,h3 Γ0 a w h2⟩
abbrev OvG (R:Type):=List V->(Key->Option O)->(V->List (Key × O)->Option R)->Option R
def GOk (X:Cx) (f:FuncId) {R:Type} (g:OvG R):Prop:=∀xs A Kr r,g xs A Kr=some r->∃v L,Bu X f xs A v L/\Kr v L=some r
def Js {R:Type}:List (FuncId × OvG R)->FuncId->Option (OvG R)
 | [],_=>none|(f,g)::l,i=>bif dj f i then some g else Js l i
structure OvS (X:Cx) where
 g:(R:Type)->List (FuncId × OvG R)
 ok:∀R,∀p∈g R,GOk X p.1 p.2
theorem pM {R:Type}:∀{l:List (FuncId × OvG R)} {f:FuncId} {g:OvG R},Js l f=some g->(f,g)∈l
 |(j,y)::l,f,g,h=>by
  simp only[Js]at h;cases hb:dj j f with
  |true=>
   rw[hb]at h;cases h;rw[ez hb];exact fx ..
  |false=>
   rw[hb]at h;exact fm _ (pM h)
def OvS.ov {X:Cx} (o:OvS X) (R:Type):OvK R:=fun f=>Js (o.g R) f
theorem OvS.tI {X:Cx} (o:OvS X) (R:Type):WZ X (o.ov R):=fun f g h=>o.ok R (f,g) (pM h)
theorem F5 {X:Cx} {f:FuncId} {eb:Nat} {e:Ty} {A:Key->Option O} {v:List C->V} {L:List C->List (Key × O)} (h:∀cs,Bu X f [.d (.slice eb e) (.slice cs)] A (v cs) (L cs)) (c:C):Bu X f [.d (.slice eb e) c] A (v c.elems) (L c.elems):=by intro A' Γ w args hA hg hc hn hr;have hs:args.size=1:=hn.symm;have h0:AE Γ (.d (.slice eb e) c) args[0]:=hr 0 _ _ rfl (Array.getElem?_eq_getElem (by omega:0<args.size));obtain⟨h1,_⟩:=(Bx rfl rfl).1 h0;simp only[AA,AH]at h1;obtain⟨_,_,_,cs,rfl,_⟩:=h1;exact h cs A' Γ w args hA hg hc hn hr
def Pc {R:Type} (eb:Nat) (e:Ty):OvG R:=fun xs _ K=>match xs with| [.d (.slice eb' e') c]=>if eb'=eb/\e'=e then K (.ts eb e c.elems) []else none|_=>none
theorem XI {X:Cx} {f:FuncId} {eb:Nat} {e:Ty} (h:∀(A:Key->Option O) cs,Bu X f [.d (.slice eb e) (.slice cs)] A (.ts eb e cs) []) {R:Type}:GOk X f (Pc (R:=R) eb e):=by intro xs A Kr r hr;unfold Pc at hr;split at hr;{simp only[br]at hr;obtain⟨⟨rfl,rfl⟩,hr⟩:=hr;exact⟨_,_,F5 (v:=fun cs=>.ts _ _ cs) (L:=fun _=>[]) (h A) _,hr⟩};{cases hr}
theorem q3t {A A':Key->Option O} (h:∀k,A k=none):leA A A':=fun k o e=>by rw[h k]at e;cases e
end
def Bw (f:Nat->Nat):Key->Key
 | .l n=>.l (f n)| .g k=>.g k
def S.ren (s:S) (f g:Nat->Nat):S:=
 ⟨s.env.map fun p=>(p.1,p.2.ren (Bw f) g),s.loc.map fun p=>(Bw f p.1,p.2.ren (Bw f)),s.A,s.tk.map fun p=>(g p.1,p.2)⟩
def FZ:List (Key × O)->List Nat
 | []=>[]|(.l n,_)::l=>n::FZ l|(.g _,_)::l=>FZ l
def Fi:List (Nat × Option Nat)->List Nat
 | []=>[]|(t,_)::l=>t::Fi l
def Jo (f:Nat->Nat) (l:List Nat):Bool:=l.all fun a=>l.all fun b=> !(dj (f a) (f b))||dj a b
theorem nF {f:Nat->Nat} {l:List Nat} (h:Jo f l=true) {a b:Nat} (ha:a∈l) (hb:b∈l) (e:f a=f b):a=b:=by simp only[Jo,eh]at h;have:=h a ha b hb;rw[e,Nat.beq_refl]at this;simpa[Nat.beq_eq]using this
theorem Ql:∀{l:List (Key × O)} {n:Nat},AK l (.l n)≠none->n∈FZ l
 | [],_,h=>by simp[AK]at h
 |(.l m,o)::l,n,h=>by simp only[AK]at h;simp only[FZ,ja];by_cases e:m=n;{exact .inl e.symm};{rw[if_neg (by intro e';cases e';exact e rfl)]at h;exact .inr (Ql h)}
 |(.g m,o)::l,n,h=>by simp only[AK]at h;rw[if_neg (by intro e';cases e')]at h;exact Ql (l:=l) h
theorem ZX {f:Nat->Nat}:∀{l:List (Key × O)} {k':Key} {o':O},AK (l.map fun p=>(Bw f p.1,p.2.ren (Bw f))) k'=some o'->∃k o,Bw f k=k'/\AK l k=some o/\o'=o.ren (Bw f)
 | [],_,_,h=>by simp[AK]at h
 |(j,p)::l,k',o',h=>by simp only[ep,AK]at h;by_cases e:Bw f j=k';{rw[if_pos e]at h;cases h;exact⟨j,p,e,by simp[AK],rfl⟩};{rw[if_neg e]at h;obtain⟨k,o,h1,h2,h3⟩:=ZX h;refine⟨k,o,h1,?_,h3⟩;simp only[AK];rw[if_neg (fun e'=>e (by rw[e'];exact h1))];exact h2}
theorem Qz {f:Nat->Nat}:∀{l:List (Key × O)} {k:Key},AK (l.map fun p=>(Bw f p.1,p.2.ren (Bw f))) (.g k)=(AK l (.g k)).map fun o=>o.ren (Bw f)
 | [],_=>rfl|(.l m,p)::l,k=>by simp only[ep,AK,Bw];rw[if_neg (by intro e;cases e),if_neg (by intro e;cases e)];exact Qz
 |(.g m,p)::l,k=>by simp only[ep,AK,Bw];by_cases e:Key.g m= .g k;{rw[if_pos e,if_pos e];rfl};{rw[if_neg e,if_neg e];exact Qz}
theorem pW {g:Nat->Nat}:∀{l:List (Nat × Option Nat)} {u:Nat} {x:Option Nat},look (l.map fun p=>(g p.1,p.2)) u=some x->∃t,g t=u/\look l t=some x/\t∈Fi l
 | [],_,_,h=>by simp[look]at h
 |(j,p)::l,u,x,h=>by simp only[ep,look]at h;by_cases e:g j=u;{rw[if_pos e]at h;cases h;exact⟨j,e,by simp[look],by simp[Fi]⟩};{rw[if_neg e]at h;obtain⟨t,h1,h2,h3⟩:=pW h;refine⟨t,h1,?_,by simp[Fi,h3]⟩;simp only[look];rw[if_neg (fun e'=>e (by rw[e'];exact h1))];exact h2}
theorem nX {g:Nat->Nat}:∀{l:List (Nat × Option Nat)} {t:Nat},t∈Fi l->(look (l.map fun p=>(g p.1,p.2)) (g t)).isSome=true
 | [],_,h=>by simp[Fi]at h
 |(j,p)::l,t,h=>by simp only[Fi,ja]at h;simp only[ep,look];by_cases e:g j=g t;{rw[if_pos e];rfl};{rw[if_neg e];rcases h with h|h;{subst h;exact absurd rfl e};{exact nX h}}
theorem xH:∀{l:List (Nat × Option Nat)} {t:Nat},(look l t).isSome=true->t∈Fi l
 | [],_,h=>by simp[look]at h
 |(j,p)::l,t,h=>by simp only[look]at h;simp only[Fi,ja];by_cases e:j=t;{exact .inl e.symm};{rw[if_neg e]at h;exact .inr (xH h)}
theorem Zb {f:V->V}:∀(l:List (Nat × V)) (i:Nat),look (l.map fun p=>(p.1,f p.2)) i=(look l i).map f
 | [],_=>rfl|(j,x)::l,i=>by simp only[ep,look];by_cases e:j=i;{rw[if_pos e,if_pos e];rfl};{rw[if_neg e,if_neg e];exact Zb l i}
theorem q1Y (s:S) (f g:Nat->Nat) (i:Nat):(s.ren f g).get i=(s.get i).ren (Bw f) g:=by unfold S.get S.ren;rw[Zb];cases look s.env i <;> rfl
mutual
theorem V.SF {f g:Nat->Nat}:∀(x:V),x.ok Bk Bk=true->x.ren (Bw f) g=x
 | .sl _ _ _ t,h=>by simp[V.ok,Bk]at h
 | .ptr (.l k) _ _,h| .mp (.l k),h| .sr (.l k) _ _ _ _ _ _,h=>by simp[V.ok,Bk]at h
 | .agg _ vs,h| .fn _ vs,h| .tup vs,h=>by simp only[V.ok]at h;simp only[V.ren,V.vD vs h]
 | .ptr (.g _) _ _,_| .mp (.g _),_| .sr (.g _) _ _ _ _ _ _,_| .d _ _,_| .ts _ _ _,_| .emp _ _,_| .wk,_| .wm _ _,_| .top _,_| .any,_=>by simp[V.ren,Bw]
theorem V.vD {f g:Nat->Nat}:∀(xs:List V),th Bk Bk xs=true->V.DP (Bw f) g xs=xs
 | [],_=>rfl|x::xs,h=>by simp only[th,bz]at h;simp only[V.DP,V.SF x h.1,V.vD xs h.2]
end
theorem lE {f:Nat->Nat}:∀{es:List (C × V)},V.DM Bk Bk es=true->es.map (fun c=>(c.1,c.2.ren (Bw f) id))=es
 | [],_=>rfl|x::xs,h=>by simp only[V.DM,bz]at h;simp only[ep,V.SF x.2 h.1,lE h.2]
theorem O.SF {f:Nat->Nat} {o:O} (h:o.ok Bk Bk=true):o.ren (Bw f)=o:=by
 cases o with
 |box x=>simp only[O.ren];rw[V.SF x h]|map kτ vτ es=>
  simp only[O.ren];rw[lE h];cases vτ.ES <;> rfl
 |it=>rfl|dead=>rfl
def Tip.ren (f g:Nat->Nat):Tip->Tip
 | .tok t=>.tok (g t)| .home k p=>.home (Bw f k) p
def G.FL (Γ:G) (s:S) (f g:Nat->Nat):G:=
 {Γ with
  ι:=fun k=>match k with| .g k=>Γ.ι (.g k)| .l m=>match(FZ s.loc).find? (fun n=>decide (f n=m))with|some n=>Γ.ι (.l n)|none=>none
  τ:=fun u=>match(Fi s.tk).find? (fun t=>decide (g t=u))with|some t=>Γ.τ t|none=>none
  κ:=fun b=>(Γ.κ b).map fun p=>(p.1.ren f g,p.2)}
theorem lV {f:Nat->Nat} {l:List Nat} (h:Jo f l=true) {n:Nat} (hn:n∈l):l.find? (fun a=>decide (f a=f n))=some n:=by
 cases hf:l.find? (fun a=>decide (f a=f n))with
 |none=>
  have:=List.find?_eq_none.1 hf n hn;simp at this
 |some a=>
  have h1:=qm hf;have h2:=rf hf;rw[nF h h2 hn (by simpa using h1)]
theorem aJ {s:S} {n:Nat}:s.obj (.l n)=AK s.loc (.l n):=by unfold jo CR;cases AK s.loc (.l n) <;> rfl
theorem q8r {X:Cx} {n:Nat} {s:S} (f g:Nat->Nat) (hf:Jo f (FZ s.loc)=true) (hg:Jo g (Fi s.tk)=true):Dd X n s (s.ren f g):=by
 rintro Γ0 a w ⟨Γ,g1,g3,c,hs,hn,hfr,hA⟩
 have lin:∀m x,Γ.ι (.l m)=some x->m∈FZ s.loc:=fun m x h=>Ql (by
  have:=c.dom (.l m) (by rw[h];simp)
  rwa [aJ]at this)
 have tin:∀t x,Γ.τ t=some x->t∈Fi s.tk:=fun t x h=>xH (c.xg t (by rw[h];simp));have ιl:∀m,m∈FZ s.loc->(Γ.FL s f g).ι (.l (f m))=Γ.ι (.l m):=fun m hm=>by simp only[G.FL,lV hf hm]
 have z5f:∀k,s.obj k≠none->Γ.ι k=none->(Γ.FL s f g).ι (Bw f k)=none:=by
  intro k ho hn;cases k with
  |g k=>exact hn|l m=>
   have hm:m∈FZ s.loc:=Ql (by rw[<-aJ];exact ho);exact(ιl m hm).trans hn
 have ιk:∀k x,Γ.ι k=some x->(Γ.FL s f g).ι (Bw f k)=some x:=by
  intro k x h;cases k with
  |g k=>exact h|l m=>exact(ιl m (lin m x h)).trans h
 have τk:∀t x,Γ.τ t=some x->(Γ.FL s f g).τ (g t)=some x:=by intro t x h;simp only[G.FL,lV hg (tin t x h)];exact h
 have back:∀k' x,(Γ.FL s f g).ι k'=some x->∃k,Bw f k=k'/\Γ.ι k=some x:=by
  intro k' x h;cases k' with
  |g k=>exact⟨.g k,rfl,h⟩|l m=>
   simp only[G.FL]at h;split at h;{rename_i n' hfd;exact⟨.l n',by simp only[Bw];rw[show f n'=m by simpa using qm hfd],h⟩};{cases h}
 have pr:∀hm,GH Γ (Γ.FL s f g) (Bw f) hm:=fun hm=>⟨Hp.le_refl _,ιk,fun _ _ h=>h,fun k b p sz _ hk=>⟨by simp[G.FL,hk,Tip.ren],rfl⟩⟩;have z4Y:∀k x,Γ.ι k=some x->(s.ren f g).obj (Bw f k)≠none:=by
  intro k x h1;cases k with
  |l m=>
   have hm:=lin m x h1;show jo (s.ren f g) (.l (f m))≠none;rw[aJ];intro z5g;have key:∀{l:List (Key × O)},m∈FZ l->AK (l.map fun p=>(Bw f p.1,p.2.ren (Bw f))) (.l (f m))≠none:=by
    intro l
    induction l with
    |nil=>intro h;simp[FZ]at h|cons p l ih=>
     obtain⟨j,o⟩:=p;intro h;simp only[ep,AK];by_cases e:Bw f j= .l (f m);{rw[if_pos e];simp}
     ·rw[if_neg e];cases j with
      |g j=>exact ih (by simpa[FZ]using h)|l j=>
       simp only[FZ,ja]at h;rcases h with rfl|h;{exact absurd rfl e};{exact ih h}
   exact key hm z5g
  |g k=>
   have h2:=c.dom (.g k) (by rw[h1];simp);show jo (s.ren f g) (.g k)≠none;unfold jo CR at h2 ⊢;rw[show AK (s.ren f g).loc (.g k)=_ from Qz];cases hl:AK s.loc (.g k)with
   |none=>rw[hl]at h2;exact h2|some o=>simp
 have xj:∀k x,Γ.ι k=some x->s.Br k=true->(s.ren f g).Br (Bw f k)=true:=by
  intro k x h1 hd;cases ho':(s.ren f g).obj (Bw f k)with
  |none=>exact absurd ho' (z4Y k x h1)|some o1=>
   rw[Ea ho'];cases hl:AK (s.ren f g).loc (Bw f k)with
   |some o2=>
    have e:o2=o1:=by unfold jo CR at ho';rw[hl]at ho';exact Option.some.inj ho'
    subst e;obtain⟨k2,o,h2,h3,rfl⟩:=ZX hl;have hk:k2=k:=by
     cases k with
     |g k=>cases k2 with|g k2=>simpa[Bw]using h2|l m2=>simp[Bw]at h2
     |l m=>cases k2 with
      |g k2=>simp[Bw]at h2|l m2=>
       simp only[Bw,Key.l.injEq]at h2;rw[nF hf (Ql (by rw[h3];simp)) (lin m x h1) h2]
    subst hk;rw[O.SE];rw[Ea (VD h3)]at hd;exact hd
   |none=>
    cases k with
    |l m=>unfold jo CR at ho';rw[show Bw f (.l m)= .l (f m) from rfl]at ho' hl;rw[hl]at ho';cases ho'
    |g k=>
     have h0:AK s.loc (.g k)=none:=by
      have:=Qz (f:=f) (l:=s.loc) (k:=k);rw[show AK (s.loc.map _) (.g k)=none from hl]at this;cases hx:AK s.loc (.g k)with
      |none=>rfl|some y=>rw[hx]at this;cases this
     have e1:(s.ren f g).obj (.g k)=s.A k:=by unfold jo CR;rw[show AK (s.ren f g).loc (.g k)=none from hl];rfl
     have e2:s.obj (.g k)=s.A k:=by unfold jo CR;rw[h0]
     rw[Ea (e2.trans (e1.symm.trans ho'))]at hd;exact hd
 refine⟨Γ.FL s f g,⟨g1.H,g1.Z,g1.ZH,g1.g,g1.gl,g1.oo,g1.σ,g1.gn⟩,g3,?_,fun i=>?_,hn,hfr,hA⟩
 ·refine⟨c.hH,c.hZ,fun b o sz h=>?_,fun k' o' h=>?_,fun k' h=>?_,fun k k' b τ τ' h1 h2=>?_,fun u L h=>?_,fun u h=>?_,c.hgl,c.hoo,c.hσ⟩
  ·cases hk:Γ.κ b with
   |none=>simp[G.FL,hk]at h|some p=>
    obtain⟨t,sz'⟩:=p;simp[G.FL,hk]at h;obtain⟨a1,a2,arr,T,a3,a4,a5⟩:=c.hκ b t sz' hk;rw[<-h.2,<-h.1];exact⟨a1,a2,arr,T,a3,a4,by cases t with|tok=>trivial|home _ p=>cases p <;> exact a5⟩
  ·have own:∀k o,s.obj k=some o->((Γ.FL s f g).ι (Bw f k)=none/\(o.ren (Bw f)).JU)\/Own (Γ.FL s f g) w (Bw f k) (o.ren (Bw f)):=fun k o ho=>
    (c.obj k o ho).imp (fun h=>⟨z5f k (by rw[ho];simp) h.1,O.WQ h.2⟩) fun xb=>Own.ren (pr _) (fun hd b τ hb=>by
     obtain⟨e1,e2,_⟩:=c.EY hb ho hd;exact⟨rfl,e1,e2⟩) (Nat.le_refl _) xb
   unfold jo CR at h;cases hl:AK (s.ren f g).loc k' with
   |some o1=>
    rw[hl]at h;cases h;obtain⟨k,o,h1,h2,rfl⟩:=ZX hl;rw[<-h1];exact own k o (VD h2)
   |none=>
    rw[hl]at h;cases k' with
    |l m=>cases h
    |g k=>
     have h':s.A k=some o':=h;have h0:AK s.loc (.g k)=none:=by
      have:=Qz (f:=f) (l:=s.loc) (k:=k);rw[show AK (s.loc.map _) (.g k)=none from hl]at this;cases hx:AK s.loc (.g k)with
      |none=>rfl|some y=>rw[hx]at this;cases this
     have:=own (.g k) o' (by simp[jo,CR,h0,h']);rw[O.SF (hA k o' h')]at this;exact this
  ·obtain⟨x,hx⟩:=qj.1 h;obtain⟨k,rfl,h1⟩:=back k' x hx;exact z4Y k x h1
  ·obtain⟨k0,rfl,h3⟩:=back k _ h1;obtain⟨k1,rfl,h4⟩:=back k' _ h2;exact(c.inj _ _ _ _ _ h3 h4).imp (fun e=>by rw[e]) (And.imp (Or.imp (xj _ _ h3) (xj _ _ h4)) id)
  ·unfold S.live Dt at h;cases hl:look (s.ren f g).tk u with
   |none=>simp[hl]at h|some x=>
    cases x with
    |none=>simp[hl]at h|some M=>
     simp[hl]at h;subst h;obtain⟨t,rfl,h2,h3⟩:=pW hl;obtain⟨x,a1,a2⟩:=c.tok t M (by simp[S.live,Dt,h2]);refine⟨x,τk t _ a1,fun b pos sz hx=>?_⟩;obtain⟨a3,a4⟩:=a2 b pos sz hx;exact⟨a3,by simp[G.FL,a4,Tip.ren]⟩
  ·obtain⟨x,hx⟩:=qj.1 h;simp only[G.FL]at hx;split at hx
   ·rename_i t hfd;have e:g t=u:=by simpa using qm hfd
    rw[<-e];exact nX (rf hfd)
   ·cases hx
 ·rw[q1Y];exact AE.ren (pr none) τk (hs i)
def dk (ds:List C) (i:Nat):C:=ds.getD i .nil
abbrev Es:=List (C × C)
def dm (ms:List Es) (i:Nat):Es:=ms.getD i []
inductive Cap where
 |c (τ:Ty)|v (x:V)
 deriving Inhabited
def Iv:List Cap->Nat
 | []=>0| .c _::l=>Iv l+1| .v _::l=>Iv l
def Fp:List Cap->Nat->List C->List V
 | [],_,_=>[]| .c τ::l,i,ds=>.wm τ (dk ds i)::Fp l (i+1) ds| .v x::l,i,ds=>x::Fp l i ds
inductive Sh where
 |d (τ:Ty)|sl (eb:Nat) (e:Ty) (t:Nat)|ts (eb:Nat) (e:Ty)|sr (k:Key) (q:List Nat) (cp:Bool) (eb:Nat) (e:Ty)|wm (τ:Ty)|arr (e:Ty)|agg (τ:Ty) (l:List Sh)|as (v:V)|vec (k:Key) (eb:Nat) (e:Ty)|fnc (f:FuncId) (l:List Cap)
 deriving Inhabited
inductive OSh where
 |box (x:Sh)|map (kτ vτ:Ty)|dead (e:Ty)|it
 deriving Inhabited
structure SSh where
 env:List (Nat × Sh)
 loc:List (Key × OSh)
mutual
def Sh.many:Sh->Nat
 | .sr _ _ cp _ _=>bif cp then 3 else 2| .agg _ l=>Sh.Gq l| .as _=>0| .fnc _ l=>Iv l|_=>1
def Sh.Gq:List Sh->Nat
 | []=>0|s::l=>s.many+Sh.Gq l
end
mutual
def Sh.fill:Sh->Nat->List C->V
 | .d τ,i,ds=>.d τ (dk ds i)| .sl eb e t,i,ds=>.sl eb e (dk ds i).elems t| .ts eb e,i,ds=>.ts eb e (dk ds i).elems| .sr k q cp eb e,i,ds=>.sr k q (dk ds i).toInt.toNat (dk ds (i+1)).toInt.toNat (bif cp then some (dk ds (i+2)).toInt.toNat else none) eb e| .wm τ,i,ds=>.wm τ (dk ds i)| .arr e,i,ds=>.d (.arr (dk ds i).elems.length e) (dk ds i)| .agg τ l,i,ds=>.agg τ (Sh.EF l i ds)| .as v,_,_=>v| .vec k eb e,i,ds=>.sr k [] 0 (dk ds i).toInt.toNat none eb e| .fnc f l,i,ds=>.fn f (Fp l i ds)
def Sh.EF:List Sh->Nat->List C->List V
 | [],_,_=>[]|s::l,i,ds=>s.fill i ds::Sh.EF l (i+s.many) ds
end
mutual
def V.same:V->V->Bool
 | .emp a e,.emp b f=>decide (a=b)&&uk e f| .wk,.wk=>true| .ptr k q τ,.ptr k' q' τ'=>decide (k=k')&&decide (q=q')&&uk τ τ'| .mp k,.mp k'=>decide (k=k')| .any,.any=>true| .top τ,.top τ'=>uk τ τ'| .fn f l,.fn f' l'=>decide (f=f')&&V.MV l l'| .tup l,.tup l'=>V.MV l l'| .d τ c,.d τ' c'=>uk τ τ'&&C.beq c c'|_,_=>false
def V.MV:List V->List V->Bool
 | [],[]=>true|x::xs,y::ys=>V.same x y&&V.MV xs ys|_,_=>false
end
mutual
theorem V.Vq:∀(x y:V),V.same x y=true->x=y
 | .emp a e,y,h=>by cases y <;> simp only[V.same,bz,decide_eq_true_eq,qe,reduceCtorEq]at h;obtain⟨rfl,rfl⟩:=h;rfl
 | .wk,y,h=>by cases y <;> simp only[V.same,reduceCtorEq]at h;rfl
 | .ptr k q τ,y,h=>by cases y <;> simp only[V.same,bz,decide_eq_true_eq,qe,reduceCtorEq]at h;obtain⟨⟨rfl,rfl⟩,rfl⟩:=h;rfl
 | .mp k,y,h=>by cases y <;> simp only[V.same,decide_eq_true_eq,reduceCtorEq]at h;subst h;rfl
 | .any,y,h=>by cases y <;> simp only[V.same,reduceCtorEq]at h;rfl
 | .top τ,y,h=>by cases y <;> simp only[V.same,qe,reduceCtorEq]at h;subst h;rfl
 | .fn f l,y,h=>by cases y <;> simp only[V.same,bz,decide_eq_true_eq,reduceCtorEq]at h;obtain⟨rfl,h⟩:=h;rw[V.cQ l _ h]
 | .tup l,y,h=>by cases y <;> simp only[V.same,reduceCtorEq]at h;rw[V.cQ l _ h]
 | .d τ c,y,h=>by cases y <;> simp only[V.same,bz,qe,C.beq_iff,reduceCtorEq]at h;obtain⟨rfl,rfl⟩:=h;rfl
 | .sl _ _ _ _,y,h=>by cases y <;> simp[V.same]at h
 | .ts _ _ _,y,h=>by cases y <;> simp[V.same]at h
 | .wm _ _,y,h=>by cases y <;> simp[V.same]at h
 | .sr _ _ _ _ _ _ _,y,h=>by cases y <;> simp[V.same]at h
 | .agg _ _,y,h=>by cases y <;> simp[V.same]at h
theorem V.cQ:∀(xs ys:List V),V.MV xs ys=true->xs=ys
 | [],ys,h=>by cases ys <;> simp[V.MV]at h;rfl
 |x::xs,ys,h=>by
  cases ys with
  |nil=>simp[V.MV]at h|cons y ys=>
   simp only[V.MV,bz]at h;rw[V.Vq x y h.1,V.cQ xs ys h.2]
end
def XT {R:Type} (τ:Ty) (x:V) (K:List C->Option R):Option R:=
 match x with
 | .wk=>(match τ with| .slice _ _=>K [.slice []]|_=>none)|x=>(match CF x with|some c=>if x.ty=τ then K [c]else none|none=>none)
def II {R:Type}:List Cap->List V->(List C->Option R)->Option R
 | [],[],K=>K []| .c τ::l,x::xs,K=>(match x with| .wm τ' c=>if τ'=τ then II l xs fun ds=>K (c::ds)else none|_=>none)| .v y::l,x::xs,K=>if V.same x y=true then II l xs K else none|_,_,_=>none
theorem TM:∀(l:List Cap) (i i':Nat) (ds ds':List C),(∀j,j<Iv l->dk ds (i+j)=dk ds' (i'+j))->Fp l i ds=Fp l i' ds'
 | [],_,_,_,_,_=>by simp only[Fp]
 | .c τ::l,i,i',ds,ds',h=>by
  simp only[Fp,Iv]at h ⊢;have h0:=h 0 (by omega);simp only[ir]at h0
  rw[h0,TM l (i+1) (i'+1) ds ds' fun j hj=>by
   have:=h (1+j) (by omega)
   rwa [<-fy,<-fy]at this]
 | .v x::l,i,i',ds,ds',h=>by simp only[Fp,Iv]at h ⊢;rw[TM l i i' ds ds' h]
theorem TL {R:Type} {r:R}:∀(l:List Cap) (xs:List V) {K:List C->Option R},II l xs K=some r->∃ds,K ds=some r/\ds.length=Iv l/\Fp l 0 ds=xs
 | [],[],K,h=>⟨[],by simpa only[II]using h,by simp[Iv],by simp[Fp]⟩| [],_::_,K,h=>by simp[II]at h
 | .c _::_,[],K,h=>by simp[II]at h
 | .v _::_,[],K,h=>by simp[II]at h
 | .c τ::l,x::xs,K,h=>by simp only[II]at h;split at h;{simp only[br]at h;obtain⟨rfl,h⟩:=h;obtain⟨ds,h1,h2,h3⟩:=TL l xs h;refine⟨_,h1,by simp[Iv,h2],?_⟩;rename_i c;simp only[Fp,cf];rw[TM l 1 0 (c::ds) ds fun j _=>by unfold dk;simp[pz 1 j],h3];rfl};{cases h}
 | .v y::l,x::xs,K,h=>by simp only[II,br]at h;obtain⟨h0,h⟩:=h;have:=V.Vq _ _ h0;subst this;obtain⟨ds,h1,h2,h3⟩:=TL l xs h;exact⟨ds,h1,by simp only[Iv];exact h2,by simp only[Fp];rw[h3]⟩
mutual
def Sh.coe {R:Type}:Sh->V->(List C->Option R)->Option R
 | .d τ,x,K=>XT τ x K| .sl eb e t,x,K=>(match x with| .sl eb' e' cs t'=>if eb'=eb/\e'=e/\t'=t then K [.slice cs]else none|_=>none)| .ts eb e,x,K=>(match x with| .ts eb' e' cs=>if eb'=eb/\e'=e then K [.slice cs]else none|_=>none)| .sr k q cp eb e,x,K=>(match x with| .sr k' q' lo n cp' eb' e'=>if k'=k/\q'=q/\eb'=eb/\e'=e then(match cp,cp' with|false,none=>K [.int lo,.int n]|true,some c=>K [.int lo,.int n,.int c]|_,_=>none)else none|_=>none)| .wm τ,x,K=>(match x with| .wm τ' c=>if τ'=τ then K [c]else none|_=>none)| .arr e,x,K=>(match x with| .d (.arr n e') c=>if e'=e then(if n=c.elems.length then K [c]else none)else none|_=>none)| .agg τ l,x,K=>(match x with| .agg τ' vs=>if τ'=τ then Sh.NN l vs K else none|_=>none)| .as v,x,K=>if V.same x v=true then K []else none| .vec k eb e,x,K=>(match x with| .sr k' q' lo n cp' eb' e'=>if k'=k/\q'=[]/\lo=0/\cp'.isNone=true/\eb'=eb/\e'=e then K [.int n]else none|_=>none)| .fnc f l,x,K=>(match x with| .fn f' vs=>if f'=f then II l vs K else none|_=>none)
def Sh.NN {R:Type}:List Sh->List V->(List C->Option R)->Option R
 | [],[],K=>K []|s::l,x::xs,K=>if(match x with| .wk=>true|_=>false)=false then s.coe x fun d1=>Sh.NN l xs fun d2=>K (d1++d2)else none|_,_,_=>none
end
theorem Jf {a b:List C} {j:Nat} (h:j<a.length):dk (a++b) j=dk a j:=by unfold dk;rw[du,du,List.getElem?_append_left h]
theorem Ll {a b:List C} {j:Nat} (h:a.length<=j):dk (a++b) j=dk b (j-a.length):=by unfold dk;rw[du,du,List.getElem?_append_right h]
mutual
theorem Sh.Kb:∀(s:Sh) (i i':Nat) (ds ds':List C),(∀j,j<s.many->dk ds (i+j)=dk ds' (i'+j))->s.fill i ds=s.fill i' ds'
 | .d τ,i,i',ds,ds',h=>by simp only[Sh.fill];have:=h 0 (by simp[Sh.many]);simp only[ir]at this;rw[this]
 | .sl eb e t,i,i',ds,ds',h=>by simp only[Sh.fill];have:=h 0 (by simp[Sh.many]);simp only[ir]at this;rw[this]
 | .ts eb e,i,i',ds,ds',h=>by simp only[Sh.fill];have:=h 0 (by simp[Sh.many]);simp only[ir]at this;rw[this]
 | .sr k q cp eb e,i,i',ds,ds',h=>by
  simp only[Sh.fill];have h0:=h 0 (by cases cp <;> simp[Sh.many]);have h1:=h 1 (by cases cp <;> simp[Sh.many]);simp only[ir]at h0;rw[h0,h1];cases cp with
  |false=>rfl|true=>rw[h 2 (by simp[Sh.many])]
 | .wm τ,i,i',ds,ds',h=>by simp only[Sh.fill];have:=h 0 (by simp[Sh.many]);simp only[ir]at this;rw[this]
 | .arr e,i,i',ds,ds',h=>by simp only[Sh.fill];have:=h 0 (by simp[Sh.many]);simp only[ir]at this;rw[this]
 | .agg τ l,i,i',ds,ds',h=>by simp only[Sh.fill];rw[Sh.QQ l i i' ds ds' (by simpa only[Sh.many]using h)]
 | .as v,_,_,_,_,_=>by simp only[Sh.fill]
 | .vec k eb e,i,i',ds,ds',h=>by simp only[Sh.fill];have:=h 0 (by simp[Sh.many]);simp only[ir]at this;rw[this]
 | .fnc f l,i,i',ds,ds',h=>by simp only[Sh.fill];rw[TM l i i' ds ds' (by simpa only[Sh.many]using h)]
theorem Sh.QQ:∀(l:List Sh) (i i':Nat) (ds ds':List C),(∀j,j<Sh.Gq l->dk ds (i+j)=dk ds' (i'+j))->Sh.EF l i ds=Sh.EF l i' ds'
 | [],_,_,_,_,_=>by simp only[Sh.EF]
 |s::l,i,i',ds,ds',h=>by
  simp only[Sh.EF];simp only[Sh.Gq]at h
  rw[Sh.Kb s i i' ds ds' (fun j hj=>h j (by omega)),Sh.QQ l (i+s.many) (i'+s.many) ds ds' (fun j hj=>by
   have:=h (s.many+j) (by omega)
   rwa [<-fy,<-fy]at this)]
end
theorem X2 {R:Type} {r:R} {τ:Ty} {x:V} {K:List C->Option R} (h:XT τ x K=some r):∃c,K [c]=some r/\V.BQ x (.d τ c)/\(x≠.wk->(V.d τ c).ty=x.ty):=by
 cases x <;> simp only[XT]at h
 case wk=>
  split at h;{exact⟨_,h,by simp[V.BQ],fun h=>absurd rfl h⟩};{cases h}
 all_goals
  split at h;{rename_i c hc;simp only[br]at h;obtain⟨h1,h⟩:=h;refine⟨c,h,?_,fun _=>h1.symm⟩;simp only[V.BQ];exact⟨hc,h1⟩};{cases h}
mutual
theorem Sh.XU {R:Type} {r:R}:∀(s:Sh) (x:V) {K:List C->Option R},s.coe x K=some r->∃ds,K ds=some r/\ds.length=s.many/\V.BQ x (s.fill 0 ds)/\(x≠.wk->(s.fill 0 ds).ty=x.ty)
 | .d τ,x,K,h=>by simp only[Sh.coe]at h;obtain⟨c,h1,h2,h3⟩:=X2 h;exact⟨[c],h1,by simp[Sh.many],by simp only[Sh.fill];exact h2,by simp only[Sh.fill];exact h3⟩
 | .sl eb e t,x,K,h=>by cases x <;> simp only[Sh.coe,reduceCtorEq,br]at h;obtain⟨⟨rfl,rfl,rfl⟩,h⟩:=h;exact⟨_,h,by simp[Sh.many],by simp[Sh.fill,dk,C.elems,V.BQ],fun _=>rfl⟩
 | .ts eb e,x,K,h=>by cases x <;> simp only[Sh.coe,reduceCtorEq,br]at h;obtain⟨⟨rfl,rfl⟩,h⟩:=h;exact⟨_,h,by simp[Sh.many],by simp[Sh.fill,dk,C.elems,V.BQ],fun _=>rfl⟩
 | .sr k q cp eb e,x,K,h=>by cases x <;> simp only[Sh.coe,reduceCtorEq,br]at h;obtain⟨⟨rfl,rfl,rfl,rfl⟩,h⟩:=h;split at h;{exact⟨_,h,by simp[Sh.many],by simp[Sh.fill,dk,bp,V.BQ],fun _=>rfl⟩};{exact⟨_,h,by simp[Sh.many],by simp[Sh.fill,dk,bp,V.BQ],fun _=>rfl⟩};{cases h}
 | .wm τ,x,K,h=>by cases x <;> simp only[Sh.coe,reduceCtorEq,br]at h;obtain⟨rfl,h⟩:=h;exact⟨_,h,by simp[Sh.many],by simp[Sh.fill,dk,V.BQ],fun _=>rfl⟩
 | .arr e,x,K,h=>by simp only[Sh.coe]at h;split at h;{simp only[br]at h;obtain⟨rfl,h1,h⟩:=h;subst h1;exact⟨_,h,by simp[Sh.many],by simp[Sh.fill,dk,V.BQ,CF,V.ty],fun _=>rfl⟩};{cases h}
 | .agg τ l,x,K,h=>by cases x <;> simp only[Sh.coe,reduceCtorEq,br]at h;obtain⟨rfl,h⟩:=h;obtain⟨ds,h1,h2,h3⟩:=Sh.iO l _ h;exact⟨ds,h1,by simpa only[Sh.many]using h2,by simp only[Sh.fill,V.BQ];exact⟨trivial,h3⟩,fun _=>rfl⟩
 | .as v,x,K,h=>by simp only[Sh.coe,br]at h;obtain⟨h1,h⟩:=h;have:=V.Vq _ _ h1;subst this;exact⟨_,h,by simp[Sh.many],by simp only[Sh.fill];exact V.Lw _,fun _=>by simp only[Sh.fill]⟩
 | .vec k eb e,x,K,h=>by
  cases x <;> simp only[Sh.coe,reduceCtorEq,br]at h;obtain⟨⟨rfl,rfl,rfl,hc,rfl,rfl⟩,h⟩:=h;rename_i cp _ _;cases cp with
  |some c=>cases hc
  |none=>exact⟨_,h,by simp[Sh.many],by simp[Sh.fill,dk,bp,V.BQ],fun _=>rfl⟩
 | .fnc f l,x,K,h=>by cases x <;> simp only[Sh.coe,reduceCtorEq,br]at h;obtain⟨rfl,h⟩:=h;obtain⟨ds,h1,h2,h3⟩:=TL l _ h;exact⟨ds,h1,by simpa only[Sh.many]using h2,by simp only[Sh.fill,V.BQ,h3],fun _=>rfl⟩
theorem Sh.iO {R:Type} {r:R}:∀(l:List Sh) (xs:List V) {K:List C->Option R},Sh.NN l xs K=some r->∃ds,K ds=some r/\ds.length=Sh.Gq l/\V.FY xs (Sh.EF l 0 ds)
 | [],xs,K,h=>by cases xs <;> simp only[Sh.NN,reduceCtorEq]at h;exact⟨_,h,by simp[Sh.Gq],by simp[Sh.EF,V.FY]⟩
 |s::l,[],K,h=>by simp[Sh.NN]at h
 |s::l,x::xs,K,h=>by
  simp only[Sh.NN,br]at h;obtain⟨hn,h⟩:=h;obtain⟨d1,h1,h2,h3,h4⟩:=Sh.XU s x h;obtain⟨d2,h5,h6,h7⟩:=Sh.iO l xs h1;refine⟨_,h5,by simp[Sh.Gq,h2,h6],?_⟩;have e1:s.fill 0 (d1++d2)=s.fill 0 d1:=Sh.Kb s 0 0 _ _ fun j hj=>Jf (by omega);have e2:Sh.EF l s.many (d1++d2)=Sh.EF l 0 d2:=Sh.QQ l _ 0 _ _ fun j hj=>by rw[Ll (by omega),h2];congr 1;omega
  simp only[Sh.EF,V.FY,cf,e1,e2];exact⟨h3,h4 (by intro e;subst e;simp at hn),h7⟩
end
def Iy:List (Nat × Sh)->Nat
 | []=>0|(_,s)::l=>s.many+Iy l
def Ft:List (Nat × Sh)->Nat->List C->List (Nat × V)
 | [],_,_=>[]|(j,s)::l,i,ds=>(j,s.fill i ds)::Ft l (i+s.many) ds
def Fu:List (Nat × Sh)->Nat->List C->List (Nat × Option Nat)
 | [],_,_=>[]|(_,s)::l,i,ds=>(match s with| .sl _ _ t=>(t,some (dk ds i).elems.length)::Fu l (i+s.many) ds|_=>Fu l (i+s.many) ds)
def Ez:List (Key × OSh)->Nat
 | []=>0|(_,.box s)::l=>s.many+Ez l|(_,.map _ _)::l=>Ez l|(_,.dead _)::l=>1+Ez l|(_,.it)::l=>2+Ez l
def dE (τ:Ty) (l:Es):List (C × V):=l.map fun p=>(p.1,.d τ p.2)
def isD (τ:Ty):V->Bool
 | .d τ' _=>decide (τ'=τ)|_=>false
def unV:V->C
 | .d _ c=>c|_=>.nil
def Ab (τ:Ty):List (C × V)->Bool
 | []=>true|(_,v)::es=>isD τ v&&Ab τ es
def unE (es:List (C × V)):Es:=es.map fun p=>(p.1,unV p.2)
theorem Xe {τ:Ty}:∀{es:List (C × V)},Ab τ es=true->dE τ (unE es)=es
 | [],_=>rfl|(k,v)::es,h=>by simp only[Ab,bz]at h;have:=Xe h.2;simp only[dE,unE,ep,List.map_map]at this ⊢;rw[this];cases v <;> simp only[isD,reduceCtorEq,decide_eq_true_eq]at h <;> first|exact h.1.elim|(rw[h.1];rfl)
theorem Ao (τ:Ty):∀(l:Es),Ab τ (dE τ l)=true
 | []=>rfl|(k,v)::l=>by have:=Ao τ l;simp only[dE,ep,Ab,isD,decide_true,pn]at this ⊢;exact this
theorem Aq (τ:Ty) (l:Es):unE (dE τ l)=l:=by
 induction l with
 |nil=>rfl|cons p l ih=>simp only[dE,unE,ep,unV]at ih ⊢;rw[ih]
theorem fK (τ:Ty):∀m:Es,De τ (dE τ m)=true
 | []=>rfl|_::m=>by have:=fK τ m;have h:uk τ τ=true:=(qe τ τ).2 rfl;simp only[dE,ep,De,h,pn]at this ⊢;exact this
def Bp:List (Key × OSh)->Nat->Nat->List C->List Es->List (Key × O)
 | [],_,_,_,_=>[]|(k,.box s)::l,i,j,ds,ms=>(k,.box (s.fill i ds))::Bp l (i+s.many) j ds ms|(k,.map kτ vτ)::l,i,j,ds,ms=>(k,.map kτ vτ (dE vτ (dm ms j)))::Bp l i (j+1) ds ms|(k,.dead e)::l,i,j,ds,ms=>(k,.dead (.arr (dk ds i).toInt.toNat e))::Bp l (i+1) j ds ms|(k,.it)::l,i,j,ds,ms=>(k,.it (dk ds i).toStr (dk ds (i+1)).toInt.toNat)::Bp l (i+2) j ds ms
def Jj (sh:SSh) (A:Key->Option O) (ds:List C) (ms:List Es):S:=
 ⟨Ft sh.env 0 ds,Bp sh.loc (Iy sh.env) 0 ds ms,A,Fu sh.env 0 ds⟩
def dZ (s:S) (sh:Sh) (d:List C):Bool:=
 match sh with
 | .sl _ _ t=>(match Dt s.tk t with|some L=>dj L (dk d 0).elems.length|none=>false)|_=>true
def Tl {R:Type} (s:S):List (Nat × Sh)->(List C->Option R)->Option R
 | [],K=>K []|(j,sh)::l,K=>sh.coe (s.get j) fun d1=>if(sh.fill 0 d1).ty.isAgg=(s.get j).ty.isAgg then(bif dZ s sh d1 then Tl s l fun d2=>K (d1++d2)else none)else none
def nK:V->Bool
 | .wk=>true|_=>false
def JE {R:Type} (s:S):List (Key × OSh)->(List C->List Es->Option R)->Option R
 | [],K=>K [] []|(k,.box sh)::l,K=>(match s.obj k with|some (.box x)=>if nK x=false then sh.coe x fun d1=>if(sh.fill 0 d1).plain=true/\(sh.fill 0 d1).BJ=true then JE s l fun d2 m2=>K (d1++d2) m2 else none else none|_=>none)|(k,.map kτ vτ)::l,K=>(match s.obj k with|some (.map kτ' vτ' es)=>if kτ'=kτ/\vτ'=vτ then(if Ab vτ es=true then JE s l fun d2 m2=>K d2 (unE es::m2)else none)else none|_=>none)|(k,.dead e)::l,K=>(match s.obj k with|some o=>(match o.ty with| .arr M e'=>if e'=e then JE s l fun d2 m2=>K (.int M::d2) m2 else none|_=>none)|_=>none)|(k,.it)::l,K=>(match s.obj k with|some (.it x p)=>JE s l fun d2 m2=>K (.str x:: .int p::d2) m2|_=>none)
def NK (f g:Nat->Bool):List Cap->Bool
 | []=>true| .c _::l=>NK f g l| .v x::l=>x.ok f g&&NK f g l
theorem XA {f g:Nat->Bool}:∀(l:List Cap) (i:Nat) (ds:List C),NK f g l=true->th f g (Fp l i ds)=true
 | [],_,_,_=>rfl| .c _::l,i,ds,h=>by simp only[NK]at h;simp only[Fp,th,V.ok,pn];exact XA l _ _ h
 | .v x::l,i,ds,h=>by simp only[NK,bz]at h;simp only[Fp,th,bz];exact⟨h.1,XA l _ _ h.2⟩
mutual
def Sh.okB (f g:Nat->Bool):Sh->Bool
 | .sl _ _ t=>g t| .sr (.l k) _ _ _ _=>f k| .vec (.l k) _ _=>f k| .agg _ l=>Sh.VH f g l| .as v=>v.ok f g| .fnc _ l=>NK f g l|_=>true
def Sh.VH (f g:Nat->Bool):List Sh->Bool
 | []=>true|s::l=>s.okB f g&&Sh.VH f g l
end
mutual
theorem Sh.YH {f g:Nat->Bool}:∀(s:Sh) (i:Nat) (ds:List C),s.okB f g=true->(s.fill i ds).ok f g=true
 | .sl _ _ t,_,_,h=>by simpa only[Sh.fill,V.ok,Sh.okB]using h
 | .sr (.l k) _ _ _ _,_,_,h=>by simpa only[Sh.fill,V.ok,Sh.okB]using h
 | .sr (.g k) _ _ _ _,_,_,h=>by simp only[Sh.fill,V.ok]
 | .vec (.l k) _ _,_,_,h=>by simpa only[Sh.fill,V.ok,Sh.okB]using h
 | .vec (.g k) _ _,_,_,h=>by simp only[Sh.fill,V.ok]
 | .agg _ l,_,_,h=>by simp only[Sh.fill,V.ok,Sh.okB]at h ⊢;exact Sh.lT l _ _ h
 | .as v,_,_,h=>by simpa only[Sh.fill,Sh.okB]using h
 | .fnc _ l,i,ds,h=>by simp only[Sh.fill,V.ok,Sh.okB]at h ⊢;exact XA l i ds h
 | .d _,_,_,_| .ts _ _,_,_,_| .wm _,_,_,_| .arr _,_,_,_=>by simp only[Sh.fill,V.ok]
theorem Sh.lT {f g:Nat->Bool}:∀(l:List Sh) (i:Nat) (ds:List C),Sh.VH f g l=true->th f g (Sh.EF l i ds)=true
 | [],_,_,_=>rfl|s::l,i,ds,h=>by simp only[Sh.VH,bz]at h;simp only[Sh.EF,th,bz];exact⟨Sh.YH s _ _ h.1,Sh.lT l _ _ h.2⟩
end
def OSh.okB (f g:Nat->Bool):OSh->Bool
 | .box s=>s.okB f g| .map _ _=>true| .dead _| .it=>true
def Km:List (Key × OSh)->Key->Bool
 | [],_=>false|(j,_)::l,k=>if j=k then true else Km l k
def UF (l:List (Key × OSh)) (n:Nat):Bool:=Km l (.l n)
def Lq:List (Nat × Sh)->Nat->Bool
 | [],_=>false|(_,.sl _ _ t)::l,u=>if t=u then true else Lq l u|_::l,u=>Lq l u
def Mv (L:List (Key × OSh)):List (Key × O)->Bool
 | []=>true|(.g k,_)::l=>Km L (.g k)&&Mv L l|(.l _,_)::l=>Mv L l
def OC (f g:Nat->Bool):List (Key × OSh)->Bool
 | []=>true|(_,o)::l=>o.okB f g&&OC f g l
def Tm (f g:Nat->Bool):List (Nat × Sh)->Bool
 | []=>true|(_,s)::l=>s.okB f g&&Tm f g l
def okS (sh:SSh) (loc:List (Key × O)):Bool:=
 OC (UF sh.loc) (Lq sh.env) sh.loc&&Mv sh.loc loc&&Tm (UF sh.loc) (Lq sh.env) sh.env
theorem UL:∀(l:List (Key × OSh)) (i j:Nat) (ds:List C) (ms:List Es) (k:Key),(AK (Bp l i j ds ms) k).isSome=Km l k
 | [],_,_,_,_,_=>rfl|(n,.box s)::l,i,j,ds,ms,k=>by simp only[Bp,AK,Km];split;{rfl};{exact UL l _ _ _ _ _}
 |(n,.map _ _)::l,i,j,ds,ms,k|(n,.dead _)::l,i,j,ds,ms,k|(n,.it)::l,i,j,ds,ms,k=>by simp only[Bp,AK,Km];split;{rfl};{exact UL l _ _ _ _ _}
theorem q2a (l:List (Key × OSh)) (i j:Nat) (ds:List C) (ms:List Es):Bv (Bp l i j ds ms)=UF l:=by funext n;exact UL l i j ds ms (.l n)
theorem mU:∀(l:List (Nat × Sh)) (i:Nat) (ds:List C),Cu (Fu l i ds)=Lq l
 | [],_,_=>rfl|(_,s)::l,i,ds=>by have ih:=mU l (i+s.many) ds;funext u;have ih:=congrFun ih u;unfold Cu at ih ⊢;cases s <;> simp only[Fu,Lq,look] <;> (try exact ih);split;{rfl};{exact ih}
theorem Ud {f g:Nat->Bool}:∀(l:List (Key × OSh)) (i j:Nat) (ds:List C) (ms:List Es),OC f g l=true->FA f g (Bp l i j ds ms)=true
 | [],_,_,_,_,_=>rfl|(n,.box s)::l,i,j,ds,ms,h=>by simp only[OC,bz]at h;simp only[Bp,FA,bz,O.okB,O.ok];exact⟨Sh.YH s _ _ h.1,Ud l _ _ _ _ h.2⟩
 |(n,.map _ vτ)::l,i,j,ds,ms,h=>by simp only[OC,bz]at h;simp only[Bp,FA,bz,O.okB,O.ok];exact⟨by rw[fK vτ _,Bool.or_true],Ud l _ _ _ _ h.2⟩
 |(n,.dead _)::l,i,j,ds,ms,h|(n,.it)::l,i,j,ds,ms,h=>by simp only[OC,bz]at h;simp only[Bp,FA,bz,O.okB,O.ok];exact⟨trivial,Ud l _ _ _ _ h.2⟩
theorem kT {f g:Nat->Bool}:∀(l:List (Nat × Sh)) (i:Nat) (ds:List C),Tm f g l=true->Io f g (Ft l i ds)=true
 | [],_,_,_=>rfl|(n,s)::l,i,ds,h=>by simp only[Tm,bz]at h;simp only[Ft,Io,bz];exact⟨Sh.YH s _ _ h.1,kT l _ _ h.2⟩
theorem Wg {L:List (Key × OSh)} {i j:Nat} {ds:List C} {ms:List Es}:∀{l:List (Key × O)},Mv L l=true->IC (Bp L i j ds ms) l=true
 | [],_=>rfl|(.g k,_)::l,h=>by simp only[Mv,bz]at h;simp only[IC,bz,UL];exact⟨h.1,Wg h.2⟩
 |(.l _,_)::l,h=>by simp only[Mv]at h;simp only[IC];exact Wg h
def TU {R:Type} (sh:SSh) (s:S) (K:List C->List Es->Option R):Option R:=
 Tl s sh.env fun d1=>JE s sh.loc fun d2 ms=>if okS sh s.loc=true then K (d1++d2) ms else none
theorem Xv:∀(l:List (Nat × Sh)) (i i':Nat) (ds ds':List C),(∀j,j<Iy l->dk ds (i+j)=dk ds' (i'+j))->Ft l i ds=Ft l i' ds'
 | [],_,_,_,_,_=>rfl|(n,s)::l,i,i',ds,ds',h=>by
  simp only[Iy]at h;simp only[Ft]
  rw[Sh.Kb s i i' ds ds' (fun j hj=>h j (by omega)),Xv l (i+s.many) (i'+s.many) ds ds' (fun j hj=>by
   have:=h (s.many+j) (by omega)
   rwa [<-fy,<-fy]at this)]
theorem Xw:∀(l:List (Nat × Sh)) (i i':Nat) (ds ds':List C),(∀j,j<Iy l->dk ds (i+j)=dk ds' (i'+j))->Fu l i ds=Fu l i' ds'
 | [],_,_,_,_,_=>rfl|(n,s)::l,i,i',ds,ds',h=>by
  simp only[Iy]at h;simp only[Fu]
  have e:=Xw l (i+s.many) (i'+s.many) ds ds' (fun j hj=>by
   have:=h (s.many+j) (by omega)
   rwa [<-fy,<-fy]at this)
  cases s <;> simp only at e ⊢ <;> (try exact e);have h0:=h 0 (by simp only[Sh.many];omega);simp only[ir]at h0;rw[e,h0]
theorem JF:∀(l:List (Key × OSh)) (i i' m:Nat) (ds ds':List C) (ms:List Es),(∀j,j<Ez l->dk ds (i+j)=dk ds' (i'+j))->Bp l i m ds ms=Bp l i' m ds' ms
 | [],_,_,_,_,_,_,_=>rfl|(n,.box s)::l,i,i',m,ds,ds',ms,h=>by
  simp only[Ez]at h;simp only[Bp]
  rw[Sh.Kb s i i' ds ds' (fun j hj=>h j (by omega)),JF l (i+s.many) (i'+s.many) m ds ds' ms (fun j hj=>by
   have:=h (s.many+j) (by omega)
   rwa [<-fy,<-fy]at this)]
 |(n,.map _ _)::l,i,i',m,ds,ds',ms,h=>by simp only[Ez]at h;simp only[Bp];rw[JF l i i' (m+1) ds ds' ms h]
 |(n,.dead e)::l,i,i',m,ds,ds',ms,h=>by
  simp only[Ez]at h;simp only[Bp];have h0:=h 0 (by omega);simp only[ir]at h0
  rw[h0,JF l (i+1) (i'+1) m ds ds' ms (fun j hj=>by
   have:=h (1+j) (by omega)
   rwa [<-fy,<-fy]at this)]
 |(n,.it)::l,i,i',m,ds,ds',ms,h=>by
  simp only[Ez]at h;simp only[Bp];have h0:=h 0 (by omega);have h1:=h 1 (by omega);simp only[ir]at h0
  rw[h0,h1,JF l (i+2) (i'+2) m ds ds' ms (fun j hj=>by
   have:=h (2+j) (by omega)
   rwa [<-fy,<-fy]at this)]
theorem Qy:∀(l:List (Key × OSh)) (i m:Nat) (ds:List C) (e:Es) (ms:List Es),Bp l i (m+1) ds (e::ms)=Bp l i m ds ms
 | [],_,_,_,_,_=>rfl|(n,.box s)::l,i,m,ds,e,ms=>by simp only[Bp];rw[Qy l]
 |(n,.map _ _)::l,i,m,ds,e,ms=>by simp only[Bp];rw[Qy l];rfl
 |(n,.dead _)::l,i,m,ds,e,ms|(n,.it)::l,i,m,ds,e,ms=>by simp only[Bp];rw[Qy l]
theorem kO {R:Type} {r:R} {s:S}:∀(l:List (Nat × Sh)) {K:List C->Option R},Tl s l K=some r->
  ∃ds,K ds=some r/\ds.length=Iy l/\(∀f g,Io f g (Ft l 0 ds)=true->HY f g s (Ft l 0 ds))/\tkW s (Fu l 0 ds)
 | [],K,h=>⟨[],h,rfl,fun _ _ _=>trivial,trivial⟩|(n,sh)::l,K,h=>by
  simp only[Tl]at h;obtain⟨d1,h1,h2,h3,h4⟩:=Sh.XU sh _ h;simp only[br]at h1;obtain⟨h5,h1⟩:=h1;cases htk:dZ s sh d1 with
  |false=>rw[htk]at h1;cases h1
  |true=>
   rw[htk,cond_true]at h1;obtain⟨d2,h6,h7,h8,h9⟩:=kO l h1;have e1:sh.fill 0 (d1++d2)=sh.fill 0 d1:=Sh.Kb sh 0 0 _ _ fun j hj=>Jf (by omega);have sft:∀j,dk (d1++d2) (sh.many+j)=dk d2 (0+j):=fun j=>by rw[Ll (by omega),h2];congr 1;omega
   have e2:Ft l sh.many (d1++d2)=Ft l 0 d2:=Xv l _ 0 _ _ fun j hj=>sft j;have e3:Fu l sh.many (d1++d2)=Fu l 0 d2:=Xw l _ 0 _ _ fun j hj=>sft j;refine⟨_,h6,by simp[Iy,h2,h7],fun f g hok=>?_,?_⟩;{simp only[Ft,cf,e1,e2,Io,bz]at hok ⊢;exact⟨h3,hok.1,.inr h5,h8 f g hok.2⟩};{simp only[Fu,cf];cases sh <;> simp only[e3] <;> (try exact h9);simp only[dZ]at htk;simp only[Sh.many]at h2;rw[Jf (by omega)];refine⟨?_,h9⟩;split at htk;{rename_i L hL;have:=ez htk;show s.live _=some _;rw[<-this];exact hL};{cases htk}}
theorem xY {s:S} {A':Key->Option O}:∀{l:List (Nat × Option Nat)},tkW s l->tkW (s.wA A') l
 | [],_=>trivial|(_,_)::_,h=>⟨h.1,xY h.2⟩
theorem kW {f g:Nat->Bool} {s:S} {A':Key->Option O}:∀{l:List (Nat × V)},HY f g s l->HY f g (s.wA A') l
 | [],_=>trivial|(_,_)::_,h=>⟨h.1,h.2.1,h.2.2.1,kW h.2.2.2⟩
theorem X4 {R:Type} {r:R} {sh:SSh} {s:S} {K:List C->List Es->Option R} (h:TU sh s K=some r):
  ∃ds ms,K ds ms=some r/\∀(X:Cx) (n:Nat) (A':Key->Option O),leA s.A A'->Dd X n (s.wA A') ((Jj sh s.A ds ms).wA A'):=by
 unfold TU at h;obtain⟨d1,h1,h2,h3,h4⟩:=kO _ h;have det:∃d2 ms,K (d1++d2) ms=some r/\okS sh s.loc=true/\d2.length=Ez sh.loc/\∀A',leA s.A A'->Fb (s.wA A') (Bp sh.loc 0 0 d2 ms):=by
  -- what is read does not lean on A'
  have gen:∀(l:List (Key × OSh)) {K:List C->List Es->Option R},JE s l K=some r->∃ds ms,K ds ms=some r/\ds.length=Ez l/\∀A',leA s.A A'->Fb (s.wA A') (Bp l 0 0 ds ms):=by
   intro l
   induction l with
   |nil=>intro K h;exact⟨[],[],h,rfl,fun _ _=>trivial⟩|cons p l ih=>
    obtain⟨k,o⟩:=p;intro K h;cases o with
    |box sh=>
     simp only[JE]at h;split at h
     ·rename_i x hx;simp only[br]at h;obtain⟨h0,h⟩:=h;obtain⟨d1,h1,h2,h3,h4⟩:=Sh.XU sh _ h;simp only[br]at h1;obtain⟨h5,h1⟩:=h1;obtain⟨d2,ms,h6,h7,h8⟩:=ih h1;have e1:sh.fill 0 (d1++d2)=sh.fill 0 d1:=Sh.Kb sh 0 0 _ _ fun j hj=>Jf (by omega);have e2:Bp l sh.many 0 (d1++d2) ms=Bp l 0 0 d2 ms:=JF l _ 0 0 _ _ _ fun j hj=>by rw[Ll (by omega),h2];congr 1;omega
      refine⟨_,_,h6,by simp[Ez,h2,h7],fun A' hA=>?_⟩;simp only[Bp,cf,e1,e2,Fb];rw[DT hA hx];exact⟨⟨h3,h4 (by intro e;subst e;simp[nK]at h0),h5.1,h5.2⟩,h8 A' hA⟩
     ·cases h
    |map kτ vτ=>
     simp only[JE]at h;split at h;{rename_i kτ' vτ' es hx;simp only[br]at h;obtain⟨⟨rfl,rfl⟩,hd,h⟩:=h;obtain⟨d2,ms,h6,h7,h8⟩:=ih h;refine⟨_,_,h6,by simp[Ez,h7],fun A' hA=>?_⟩;simp only[Bp,Fb,Qy];rw[DT hA hx];exact⟨⟨rfl,rfl,(Xe hd).symm⟩,h8 A' hA⟩};{cases h}
    |dead e=>
     simp only[JE]at h;split at h
     ·rename_i o hx;split at h
      ·rename_i M e' ht;simp only[br]at h;obtain⟨rfl,h⟩:=h;obtain⟨d2,ms,h6,h7,h8⟩:=ih h;have e2:Bp l 1 0 (.int M::d2) ms=Bp l 0 0 d2 ms:=JF l _ 0 0 _ _ _ fun j hj=>by unfold dk;simp[pz 1 j]
       refine⟨_,_,h6,by simp[Ez,h7,pz],fun A' hA=>?_⟩;simp only[Bp,cf,e2,Fb];rw[DT hA hx];refine⟨?_,h8 A' hA⟩;have:(dk (C.int M::d2) 0).toInt.toNat=M:=by simp[dk,bp]
       rw[this];cases o <;> exact ht.symm
      ·cases h
     ·cases h
    |it=>
     simp only[JE]at h;split at h
     ·rename_i x p hx;obtain⟨d2,ms,h6,h7,h8⟩:=ih h;have e2:Bp l 2 0 (.str x:: .int p::d2) ms=Bp l 0 0 d2 ms:=JF l _ 0 0 _ _ _ fun j hj=>by unfold dk;simp[pz 2 j]
      refine⟨_,_,h6,by simp[Ez,h7];omega,fun A' hA=>?_⟩;simp only[Bp,cf,e2,Fb];rw[DT hA hx];refine⟨?_,h8 A' hA⟩;have e3:(dk (C.str x::C.int p::d2) 0).toStr=x:=by simp[dk,C.toStr]
      have e4:(dk (C.str x::C.int p::d2) 1).toInt.toNat=p:=by simp[dk,bp]
      rw[e3,e4];exact⟨rfl,rfl⟩
     ·cases h
  obtain⟨d2,ms,h5,h6,h7⟩:=gen _ h1;simp only[br]at h5;exact⟨d2,ms,h5.2,h5.1,h6,h7⟩
 obtain⟨d2,ms,h5,h6,h7,h8⟩:=det;refine⟨d1++d2,ms,h5,fun X n A' hA=>?_⟩;have e1:Ft sh.env 0 (d1++d2)=Ft sh.env 0 d1:=Xv _ 0 0 _ _ fun j hj=>Jf (by omega);have e2:Fu sh.env 0 (d1++d2)=Fu sh.env 0 d1:=Xw _ 0 0 _ _ fun j hj=>Jf (by omega);have e3:Bp sh.loc (Iy sh.env) 0 (d1++d2) ms=Bp sh.loc 0 0 d2 ms:=JF _ _ 0 0 _ _ _ fun j hj=>by rw[Ll (by omega),h2];congr 1;omega
 simp only[okS,bz]at h6;have hL:Bv (Jj sh s.A (d1++d2) ms).loc=UF sh.loc:=q2a ..;have hT:Cu (Jj sh s.A (d1++d2) ms).tk=Lq sh.env:=mU ..;refine yZ rfl ?_ ?_ (Mu (Wg h6.1.2)) ?_ ?_;{show Fb (s.wA A') (Bp sh.loc (Iy sh.env) 0 (d1++d2) ms);rw[e3];exact h8 A' hA};{show FA (Bv (Jj sh s.A (d1++d2) ms).loc) (Cu (Jj sh s.A (d1++d2) ms).tk) _=true;rw[hL,hT];exact Ud _ _ _ _ _ h6.1.1};{show tkW (s.wA A') (Fu sh.env 0 (d1++d2));rw[e2];exact xY h4};{show HY (Bv (Jj sh s.A (d1++d2) ms).loc) (Cu (Jj sh s.A (d1++d2) ms).tk) (s.wA A') (Ft sh.env 0 (d1++d2));refine kW ?_;rw[hL,hT,e1];exact h3 _ _ (kT _ _ _ h6.2)}
theorem AJ.cD {Γ:G} {w:World} {s:S} (c:AJ Γ w s) {k:Key} {x x':V} (h:s.obj k=some (.box x)) (h1:Own Γ w k (.box x)->Own Γ w k (.box x')) (h2:(O.box x).JU->(O.box x').JU):AJ Γ w (s.put k (.box x')):=by refine⟨c.hH,c.hZ,c.hκ,fun j o hj=>?_,fun j hj=>?_,c.Jp (fun j hj=>?_),c.tok,c.xg,c.hgl,c.hoo,c.hσ⟩;{rw[Db]at hj;split at hj;{rename_i e;subst e;cases hj;exact(c.obj _ _ h).imp (fun h=>⟨h.1,h2 h.2⟩) h1};{exact c.obj j o hj}};{rw[Db];split;{simp};{exact c.dom j hj}};{unfold S.Br at hj ⊢;rw[Db];split;{rename_i e;subst e;rw[h]at hj;cases hj};{exact hj}}
def mvK (K:Key) (t:Nat) (k:Key):Key:=if k=K then .l t else k
def AtE (X:Cx) (n:Nat) (Γ0:G) (K:Key) (t:Nat) (s:S) (a:Act) (w:World):Prop:=
 ∃Γ,GLe Γ0 Γ/\Γ.gl=X.gl/\AJ Γ w s/\Fl Γ s a.tmps/\a.tmps.size=n/\a.defers=[]/\AOk s.A/\∀x,Γ.ι K=some x->Γ.ι (.l t)=some x
theorem rG {Γ:G} {K:Key} {t:Nat} (h:∀x,Γ.ι K=some x->Γ.ι (.l t)=some x) {hm:Option Key} (hn:hm≠some K):GH Γ Γ (mvK K t) hm:=
 ⟨Hp.le_refl _,fun k x hk=>by
  unfold mvK;split;{rename_i e;subst e;exact h x hk}
  ·exact hk,fun _ _ h=>h,fun k b p sz e hk=>by
  have:mvK K t k=k:=by unfold mvK;split;{rename_i e2;subst e2;exact absurd e hn};{rfl}
  rw[this];exact⟨hk,rfl⟩⟩
theorem AE.mv {Γ:G} {K:Key} {t:Nat} (h:∀x,Γ.ι K=some x->Γ.ι (.l t)=some x) {x:V} {v:Value} (hr:AE Γ x v):AE Γ (x.ren (mvK K t) id) v:=
 AE.ren (rG h (by simp)) (fun _ _ h=>h) hr
def Hr (K:Key) (t:Nat):List Key->S->S
 | [],s=>s|k::ks,s=>if k=K\/k= .l t then Hr K t ks s else(match s.obj k with|some (.box x)=>Hr K t ks (s.put k (.box (x.ren (mvK K t) id)))|_=>Hr K t ks s)
theorem Vh (K:Key) (t:Nat):∀(ks:List Key) (s:S),(Hr K t ks s).A=s.A
 | [],_=>rfl|k::ks,s=>by simp only[Hr];split;{exact Vh K t ks s};{split;{exact Vh K t ks _};{exact Vh K t ks s}}
def WkE (K:Key) (t:Nat) (s s':S):Prop:=s'.A=s.A/\∀(X:Cx) (n:Nat) (A':Key->Option O),leA s.A A'->∀(Γ0:G) (a:Act) (w:World),AtE X n Γ0 K t (s.wA A') a w->AtE X n Γ0 K t (s'.wA A') a w
theorem WkE.refl {K:Key} {t:Nat} (s:S):WkE K t s s:=⟨rfl,fun _ _ _ _ _ _ _ h=>h⟩
theorem WkE.trans {K:Key} {t:Nat} {a b c:S} (h:WkE K t a b) (h':WkE K t b c):WkE K t a c:=
 ⟨h'.1.trans h.1,fun X n A' hA Γ0 ac w hat=>h'.2 X n A' (by rw[h.1];exact hA) Γ0 ac w (h.2 X n A' hA Γ0 ac w hat)⟩
theorem bb {X:Cx} {n:Nat} {Γ0:G} {K:Key} {t:Nat} {a:Act} {w:World} {s:S} {k:Key} {x:V} (hk:¬(k=K\/k= .l t)) (hx:s.obj k=some (.box x)) (h:AtE X n Γ0 K t s a w):AtE X n Γ0 K t (s.put k (.box (x.ren (mvK K t) id))) a w:=by
 obtain⟨Γ,g1,g3,c,hs,hn,hf,hA,hι⟩:=h;have hkK:(some k:Option Key)≠some K:=fun e=>hk (.inl (by cases e;rfl));refine⟨Γ,g1,g3,c.cD hx (fun xb=>?_) (fun hv=>?_),hs,hn,hf,hA,hι⟩
 ·obtain⟨b,cells,T,h1,h2,h3,h4,h5,h6,h7,h8⟩:=xb;have hmv:mvK K t k=k:=by unfold mvK;rw[if_neg (fun e=>hk (.inl e))]
  have:=AA.Bw (θ:=id) (rG hι hkK) h8 h6;simp only[Option.map_some,hmv]at this;exact⟨b,cells,T,by rw[V.Ib];exact h1,h2,h3,h4,by rw[V.Ib];exact h5,by rw[V.Ib];exact this,by rw[V.bZ];exact h7,by rw[V.Vc];exact h8⟩
 ·obtain⟨e,rfl⟩:=hv;exact⟨e,by simp[V.ren]⟩
theorem Vi (K:Key) (t:Nat):∀(ks:List Key) (s:S),WkE K t s (Hr K t ks s)
 | [],s=>WkE.refl s|k::ks,s=>by simp only[Hr];split;{exact Vi K t ks s};{rename_i hk;split;{rename_i x hx;exact WkE.trans (b:=s.put k (.box (x.ren (mvK K t) id))) ⟨rfl,fun X n A' hA Γ0 a w h=>bb (s:=s.wA A') hk (DT hA hx) h⟩ (Vi K t ks _)};{exact Vi K t ks s}}
def PR (K:Key) (t:Nat) (ks:List Key) (s:S):S:=
 match s.obj K with
 |some (.box (.d (.arr M e) cc))=>if(s.obj (.l t)).isNone=true then
   {Hr K t ks ((s.put K (.dead (.arr M e))).put (.l t) (.box (.d (.arr M e) cc)))with env:=s.env.map fun p=>(p.1,p.2.ren (mvK K t) id)} else s
 |_=>s
theorem ah {X:Cx} {n:Nat} {Γ0:G} {K:Key} {t:Nat} {a:Act} {w:World} {s:S} {M:Nat} {e:Ty} {cc:C} (hK:s.obj K=some (.box (.d (.arr M e) cc))) (ht:s.obj (.l t)=none) (h:At X n Γ0 s a w):
  AtE X n Γ0 K t ((s.put K (.dead (.arr M e))).put (.l t) (.box (.d (.arr M e) cc))) a w:=by
 obtain⟨Γ,g1,g3,c,hs,hn,hf,hA⟩:=h;have wy:∀j,jo ((s.put K (.dead (.arr M e))).put (.l t) (.box (.d (.arr M e) cc))) j=jo {s with loc:=(Key.l t,O.box (.d (.arr M e) cc))::(K,O.dead (.arr M e))::s.loc} j:=fun j=>by rw[Db,Db,show jo {s with loc:=(Key.l t,O.box (.d (.arr M e) cc))::(K,O.dead (.arr M e))::s.loc} j=jo {({s with loc:=(K,O.dead (.arr M e))::s.loc}:S)with loc:=(Key.l t,O.box (.d (.arr M e) cc))::({s with loc:=(K,O.dead (.arr M e))::s.loc}:S).loc} j from rfl,Cz,Cz]
 rcases c.obj K _ hK with⟨h1,h2⟩|xb
 · -- without a block
  refine⟨Γ,g1,g3,⟨c.hH,c.hZ,c.hκ,fun j o hj=>?_,fun j hj=>?_,c.Jp (fun j hj=>?_),c.tok,c.xg,c.hgl,c.hoo,c.hσ⟩,hs,hn,hf,hA,fun x hx=>by rw[h1]at hx;cases hx⟩;{rw[Db]at hj;split at hj;{rename_i e1;subst e1;cases hj;exact .inl ⟨c.PN ht,h2⟩};{rw[Db]at hj;split at hj;{rename_i e1;subst e1;cases hj;exact .inl ⟨h1,trivial⟩};{exact c.obj j o hj}}};{rw[Db];split;{simp};{rw[Db];split;{simp};{exact c.dom j hj}}};{unfold S.Br at hj ⊢;rw[Db];split;{rename_i e1;subst e1;rw[ht]at hj;cases hj};{rw[Db];split;{rfl};{exact hj}}}
 ·obtain⟨b,cells,T,e1,e2,e3,⟨fr0,e4,xk⟩,e5,e6,e7,e8⟩:=xb;have hx0:AA Γ none [] (.d (.arr M e) cc) (chunk cells.toList 0 (V.d (.arr M e) cc).ty.size):=by simp only[AA]at e6 ⊢;exact e6
  obtain⟨k1,k2,k3⟩:=c.uZ (w':=w) (j:=.l t) (x':=.d (.arr M e) cc) hK rfl e1 ht e4 xk (fun _ _=>rfl) rfl rfl e5 hx0 e7 e8 (fun arr T' fr h=>by rw[e4]at h;cases h;rfl);have hkt:K≠.l t:=fun e=>by rw[e,ht]at hK;cases hK
  refine⟨_,g1.trans k3,by rw[k3.gl];exact g3,k1.congr wy (fun _=>rfl) (fun _ h=>h),hs.Bd k2,hn,hf,hA,fun x hx=>?_⟩;have:Γ.ι K=some x:=by simpa[G.addKey,Dl,hkt]using hx
  rw[e1]at this;cases this;simp[G.addKey,Dl,V.ty]
theorem ag (K:Key) (t:Nat) (ks:List Key) (s:S):(PR K t ks s).A=s.A/\∀(X:Cx) (n:Nat) (A':Key->Option O),leA s.A A'->Dd X n (s.wA A') ((PR K t ks s).wA A'):=by
 unfold PR;split
 ·rename_i M e cc hK;split
  ·rename_i ht;have ht':s.obj (.l t)=none:=by simpa using ht
   refine⟨Vh K t ks _,fun X n A' hA Γ0 a w hat=>?_⟩;have h1:=ah (s:=s.wA A') (DT hA hK) (by rw[Jy];exact ht') hat;obtain⟨_,h2⟩:=Vi K t ks ((s.put K (.dead (.arr M e))).put (.l t) (.box (.d (.arr M e) cc)));obtain⟨Γ,g1,g3,c,hs,hn,hf,xo,hι⟩:=h2 X n A' hA Γ0 a w h1;refine⟨Γ,g1,g3,c.congr (fun _=>rfl) (fun _=>rfl) (fun _ h=>h),fun i=>?_,hn,hf,xo⟩;have xx:((Hr K t ks ((s.put K (.dead (.arr M e))).put (.l t) (.box (.d (.arr M e) cc)))).wA A').env=s.env:=by
    have:∀(ks:List Key) (s:S),(Hr K t ks s).env=s.env:=by
     intro ks
     induction ks with
     |nil=>intro s;rfl|cons k ks ih=>
      intro s;simp only[Hr];split;{exact ih s};{split;{exact ih _};{exact ih s}}
    exact this ks _
   have hi:=hs i;have e1:S.get ((Hr K t ks ((s.put K (.dead (.arr M e))).put (.l t) (.box (.d (.arr M e) cc)))).wA A') i=(look s.env i).getD .any:=by unfold S.get;rw[xx]
   rw[e1]at hi;show AE Γ ((look (s.env.map fun p=>(p.1,p.2.ren (mvK K t) id)) i).getD .any) _;rw[Zb];cases hl:look s.env i with
   |none=>trivial|some x=>
    rw[hl]at hi;exact AE.mv hι hi
  ·exact⟨rfl,fun _ _ _ _=>Dd.refl _⟩
 ·exact⟨rfl,fun _ _ _ _=>Dd.refl _⟩
def T0:Nat:=1000000000000000
mutual
def V.DQ:Sh->V->V
 | .vec (.l a) eb e,x=>(match x with| .emp eb' e'=>if eb'=eb/\e'=e then .sr (.l (a+T0)) [] 0 0 none eb e else x|x=>x)| .agg _ l,x=>(match x with| .agg τ xs=>.agg τ (V.FR l xs)|x=>x)|_,x=>x
def V.FR:List Sh->List V->List V
 |s::l,x::xs=>V.DQ s x::V.FR l xs|_,xs=>xs
end
theorem V.yO:∀(l:List Sh) (xs:List V),(V.FR l xs).length=xs.length
 | [],xs=>by simp[V.FR]
 |s::l,[]=>by simp[V.FR]
 |s::l,x::xs=>by simp[V.FR,V.yO l xs]
theorem V.Sk (s:Sh) (x:V):(V.DQ s x).ty=x.ty:=by unfold V.DQ;split;{split;{split;{rename_i h;obtain⟨rfl,rfl⟩:=h;rfl};{rfl}};{rfl}};{split <;> rfl};{rfl}
theorem V.yN (s:Sh) (x:V):(V.DQ s x).plain=x.plain:=by unfold V.DQ;split;{split;{split;{rfl};{rfl}};{rfl}};{split <;> rfl};{rfl}
mutual
theorem V.yM:∀(s:Sh) (x:V),(V.DQ s x).BJ=x.BJ
 | .vec (.l a) eb e,x=>by simp only[V.DQ];split;{split <;> simp[V.BJ]};{rfl}
 | .agg _ l,x=>by simp only[V.DQ];split;{simp only[V.BJ];exact V.yP l _};{rfl}
 | .vec (.g _) _ _,_| .d _,_| .sl _ _ _,_| .ts _ _,_| .sr _ _ _ _ _,_| .wm _,_| .arr _,_| .as _,_| .fnc _ _,_=>by simp[V.DQ]
theorem V.yP:∀(l:List Sh) (xs:List V),V.Cf (V.FR l xs)=V.Cf xs
 | [],xs=>by simp[V.FR]
 |s::l,[]=>by simp[V.FR]
 |s::l,x::xs=>by simp only[V.FR,V.Cf,V.yM s x,V.yP l xs]
end
mutual
theorem AA.DQ {Γ:G} {hm:Option Key}:∀(s:Sh) (x:V) {p:List Nat} {vs:List Value},AA Γ hm p x vs->AA Γ hm p (V.DQ s x) vs
 | .vec (.l a) eb e,x,p,vs,h=>by simp only[V.DQ];split;{split;{simp only[AA]at h ⊢;obtain⟨a,h⟩:=h;exact .inl ⟨trivial,trivial,a,h⟩};{exact h}};{exact h}
 | .agg _ l,x,p,vs,h=>by simp only[V.DQ];split;{simp only[AA]at h ⊢;exact⟨h.1,h.2.1,by rw[V.yO];exact h.2.2.1,h.2.2.2.1,AU.FR l _ h.2.2.2.2⟩};{exact h}
 | .vec (.g _) _ _,_,_,_,h| .d _,_,_,_,h| .sl _ _ _,_,_,_,h| .ts _ _,_,_,_,h| .sr _ _ _ _ _,_,_,_,h| .wm _,_,_,_,h| .arr _,_,_,_,h| .as _,_,_,_,h| .fnc _ _,_,_,_,h=>by simpa only[V.DQ]using h
theorem AU.FR {Γ:G} {hm:Option Key}:∀(l:List Sh) (xs:List V) {p:List Nat} {i:Nat} {τ:Ty} {vs:List Value},AU Γ hm p i τ xs vs->AU Γ hm p i τ (V.FR l xs) vs
 | [],xs,_,_,_,_,h=>by simpa only[V.FR]using h
 |s::l,[],_,_,_,_,h=>by simpa only[V.FR]using h
 |s::l,x::xs,_,_,_,_,h=>by simp only[AU,V.FR,V.Sk]at h ⊢;obtain⟨⟨o,f,h1,h2,h3,h4⟩,h5⟩:=h;exact⟨⟨o,f,h1,h2,h3,AA.DQ s x h4⟩,AU.FR l xs h5⟩
end
mutual
def V.eK:Sh->V->List (Nat × Ty)
 | .vec (.l a) eb e,x=>(match x with| .emp eb' e'=>if eb'=eb/\e'=e then[(a+T0,e)]else[]| .wk=>[(a+T0,e)]|_=>[])| .agg _ l,x=>(match x with| .agg _ xs=>V.yL l xs|_=>[])|_,_=>[]
def V.yL:List Sh->List V->List (Nat × Ty)
 |s::l,x::xs=>V.eK s x++V.yL l xs|_,_=>[]
end
def PJ:List (Nat × Ty)->S->S
 | [],s=>s|(t,e)::l,s=>if(s.obj (.l t)).isNone=true then PJ l (s.put (.l t) (.box (.d (.arr 0 e) (.agg []))))else PJ l s
def V.LK (s:Sh) (x:V):V:=
 match s,x with
 | .vec (.l a) eb e,.wk=>.sr (.l (a+T0)) [] 0 0 none eb e|s,x=>V.DQ s x
def Si:List (Nat × Sh)->S->S
 | [],s=>s|(i,sh)::l,s=>(match V.eK sh (s.get i)with| []=>Si l s|ns=>Si l (PJ ns (s.set (some i) (V.LK sh (s.get i)))))
def Mi:List (Key × OSh)->S->S
 | [],s=>s|(k,.box sh)::l,s=>(match s.obj k with|some (.box x)=>(match V.eK sh x with| []=>Mi l s|ns=>Mi l (PJ ns (s.put k (.box (V.DQ sh x)))))|_=>Mi l s)|_::l,s=>Mi l s
section
mutual
def V.Ey (s:S):V->V
 | .agg τ vs=>.agg τ (V.Gm s vs)|x=>DE s x
def V.Gm (s:S):List V->List V
 | []=>[]|x::xs=>V.Ey s x::V.Gm s xs
end
mutual
def V.Qw:V->List Nat
 | .agg _ vs=>V.Ub vs|x=>Fa x
def V.Ub:List V->List Nat
 | []=>[]|x::xs=>V.Qw x++V.Ub xs
end
mutual
def V.frz (s:S):Sh->V->V
 | .d _,x=>x.Ey s| .agg _ l,x=>(match x with| .agg τ xs=>.agg τ (V.Ev s l xs)|x=>x)|_,x=>x
def V.Ev (s:S):List Sh->List V->List V
 |sh::l,x::xs=>V.frz s sh x::V.Ev s l xs|_,xs=>xs
end
mutual
def V.JA:Sh->V->List Nat
 | .d _,x=>x.Qw| .agg _ l,x=>(match x with| .agg _ xs=>V.UC l xs|_=>[])|_,_=>[]
def V.UC:List Sh->List V->List Nat
 |sh::l,x::xs=>V.JA sh x++V.UC l xs|_,_=>[]
end
theorem AA.Rx {Γ Γ':G} (p:BZ Γ Γ') {q:List Nat} {x:V} {vs:List Value} (h:AA Γ none q x vs):AA Γ' none q x vs:=AA.Bd p (hm:=none) trivial x h
theorem pD (s:S) (x:V):(DE s x).ty=x.ty/\(DE s x).plain=x.plain:=by
 unfold DE;split;{split;{split;{split;{split;{exact⟨rfl,rfl⟩};{exact⟨rfl,rfl⟩}};{exact⟨rfl,rfl⟩}};{exact⟨rfl,rfl⟩}};{exact⟨rfl,rfl⟩}};{exact⟨rfl,rfl⟩}
theorem V.oX (s:S) (x:V):(x.Ey s).ty=x.ty/\(x.Ey s).plain=x.plain:=by cases x <;> simp only[V.Ey] <;> first|exact pD s _|exact⟨rfl,rfl⟩
theorem V.oZ (s:S):∀xs:List V,(V.Gm s xs).length=xs.length
 | []=>rfl|x::xs=>by simp[V.Gm,V.oZ s xs]
theorem V.YW (s:S) (sh:Sh) (x:V):(V.frz s sh x).ty=x.ty/\(V.frz s sh x).plain=x.plain:=by unfold V.frz;split;{exact V.oX s x};{split <;> exact⟨rfl,rfl⟩};{exact⟨rfl,rfl⟩}
theorem V.mK (s:S):∀(l:List Sh) (xs:List V),(V.Ev s l xs).length=xs.length
 | [],xs=>by simp[V.Ev]
 |_::_,[]=>by simp[V.Ev]
 |sh::l,x::xs=>by simp[V.Ev,V.mK s l xs]
section
variable {Γ Γ':G} {s:S} {js:List Nat} (p:BZ Γ Γ') (hc:∀(x:V) (v:Value),AE Γ x v->(∀j∈Fa x,j∈js)->AE Γ' (DE s x) v)
include p hc
theorem AA.DE {x:V} {q:List Nat} {vs:List Value} (hx:x.plain=true) (ha:x.ty.isAgg=false) (h:AA Γ none q x vs) (hk:∀j∈Fa x,j∈js):AA Γ' none q (DE s x) vs:=by
 by_cases hn:Fa x=[];{rw[pC (fun j hj=>by rw[hn]at hj;cases hj)];exact h.Rx p}
 ·cases x <;> (try (exact absurd rfl hn));rename_i k q0 lo n cp eb e;cases k with
  |g k=>exact absurd rfl hn|l j=>
   have hv:∃v,vs=[v]/\AE Γ (.sr (.l j) q0 lo n cp eb e) v:=by have h':=h;simp only[AA]at h;rcases h with⟨_,_,a,rfl⟩|⟨b,τ0,o,m,cap,_,_,_,⟨a,rfl,_⟩,_⟩;{exact⟨_,rfl,(Bx rfl rfl).2 ⟨by simpa only[AA]using h',rfl⟩⟩};{exact⟨_,rfl,(Bx rfl rfl).2 ⟨by simpa only[AA]using h',rfl⟩⟩}
   obtain⟨v,rfl,hv⟩:=hv;have h2:=hc _ _ hv hk;have h3:=pD s (.sr (.l j) q0 lo n cp eb e);have hvc:v.cells.toList=[v]:=by rcases Gw hv with⟨_,_,a,rfl⟩|⟨b,τ0,o,m,cap,a,_,_,_,rfl,_⟩ <;> rfl
   obtain⟨h4,_⟩:=(Bt (by rw[h3.2];rfl)).1 h2;rw[hvc]at h4;exact AA.Dn _ h4
mutual
theorem AA.Ey:∀(x:V) {q:List Nat} {vs:List Value},AA Γ none q x vs->(∀j∈x.Qw,j∈js)->AA Γ' none q (x.Ey s) vs
 | .agg τ xs,q,vs,h,hk=>by simp only[V.Ey,V.Qw]at hk ⊢;simp only[AA]at h ⊢;exact⟨h.1,h.2.1,by rw[V.oZ];exact h.2.2.1,h.2.2.2.1,AU.Gm xs h.2.2.2.2 hk⟩
 | .any,q,vs,_,_=>by simp only[V.Ey,Go.E.DE,AA]
 | .tup _,q,vs,h,_=>by simp only[AA]at h
 | .d τ c,q,vs,h,_=>by simp only[V.Ey,Go.E.DE];exact h.Rx p
 | .sl _ _ _ _,q,vs,h,hk| .ts _ _ _,q,vs,h,hk| .emp _ _,q,vs,h,hk| .wk,q,vs,h,hk| .ptr _ _ _,q,vs,h,hk| .wm _ _,q,vs,h,hk| .mp _,q,vs,h,hk| .fn _ _,q,vs,h,hk| .top _,q,vs,h,hk=>by simp only[V.Ey,Go.E.DE];exact h.Rx p
 | .sr k q0 lo n cp eb e,q,vs,h,hk=>by simp only[V.Ey];exact AA.DE p hc rfl rfl h (by simpa only[V.Qw]using hk)
theorem AU.Gm:∀(xs:List V) {q:List Nat} {i:Nat} {τ:Ty} {vs:List Value},AU Γ none q i τ xs vs->(∀j∈V.Ub xs,j∈js)->AU Γ' none q i τ (V.Gm s xs) vs
 | [],_,_,_,_,_,_=>by simp only[V.Gm,AU]
 |x::xs,_,_,_,_,h,hk=>by simp only[AU,V.Gm,(V.oX s x).1]at h ⊢;simp only[V.Ub,ic]at hk;obtain⟨⟨o,f,h1,h2,h3,h4⟩,h5⟩:=h;exact⟨⟨o,f,h1,h2,h3,AA.Ey x h4 fun j hj=>hk j (.inl hj)⟩,AU.Gm xs h5 fun j hj=>hk j (.inr hj)⟩
end
mutual
theorem AA.frz:∀(sh:Sh) (x:V) {q:List Nat} {vs:List Value},AA Γ none q x vs->(∀j∈V.JA sh x,j∈js)->AA Γ' none q (V.frz s sh x) vs
 | .d _,x,q,vs,h,hk=>by simp only[V.frz,V.JA]at hk ⊢;exact AA.Ey p hc x h hk
 | .agg _ l,x,q,vs,h,hk=>by simp only[V.frz,V.JA]at hk ⊢;split;{simp only[AA]at h ⊢;exact⟨h.1,h.2.1,by rw[V.mK];exact h.2.2.1,h.2.2.2.1,AU.Ev l _ h.2.2.2.2 hk⟩};{exact h.Rx p}
 | .sl _ _ _,x,q,vs,h,_| .ts _ _,x,q,vs,h,_| .sr _ _ _ _ _,x,q,vs,h,_| .wm _,x,q,vs,h,_| .arr _,x,q,vs,h,_| .as _,x,q,vs,h,_| .vec _ _ _,x,q,vs,h,_| .fnc _ _,x,q,vs,h,_=>by simp only[V.frz];exact h.Rx p
theorem AU.Ev:∀(l:List Sh) (xs:List V) {q:List Nat} {i:Nat} {τ:Ty} {vs:List Value},AU Γ none q i τ xs vs->(∀j∈V.UC l xs,j∈js)->AU Γ' none q i τ (V.Ev s l xs) vs
 | [],xs,_,_,_,_,h,_=>by simp only[V.Ev];exact AU.Bd p (hm:=none) trivial xs h
 |_::_,[],_,_,_,_,_,_=>by simp only[V.Ev,AU]
 |sh::l,x::xs,_,_,_,_,h,hk=>by simp only[AU,V.Ev,(V.YW s sh x).1]at h ⊢;simp only[V.UC,ic]at hk;obtain⟨⟨o,f,h1,h2,h3,h4⟩,h5⟩:=h;exact⟨⟨o,f,h1,h2,h3,AA.frz sh x h4 fun j hj=>hk j (.inl hj)⟩,AU.Ev l xs h5 fun j hj=>hk j (.inr hj)⟩
end
theorem AE.frz {sh:Sh} {x:V} {v:Value} (h:AE Γ x v) (hk:∀j∈V.JA sh x,j∈js):AE Γ' (V.frz s sh x) v:=by
 by_cases hp:x.plain=true;{obtain⟨h1,h2⟩:=(Bt hp).1 h;exact(Bt (by rw[(V.YW s sh x).2];exact hp)).2 ⟨AA.frz p hc sh x h1 hk,by rw[(V.YW s sh x).1];exact h2⟩}
 ·have:V.frz s sh x=x:=by cases x <;> simp[V.plain]at hp <;> (unfold V.frz;split <;> rfl)
  rw[this];exact h.Bd p
end
def IP (s:S):List (Nat × Sh)->List Nat
 | []=>[]|(i,sh)::l=>V.JA sh (s.get i)++IP s l
def IQ (s0:S):List (Nat × Sh)->S->S
 | [],s=>s|(i,sh)::l,s=>IQ s0 l (match V.JA sh (s0.get i)with| []=>s|_=>s.set (some i) (V.frz s0 sh (s0.get i)))
def Jk (sh:SSh) (s:S):S:=
 match IP s sh.env with
 | []=>s|js=>IQ s sh.env (Ds js s)
theorem YV (s0:S):∀(l:List (Nat × Sh)) (s:S),(IQ s0 l s).loc=s.loc/\(IQ s0 l s).tk=s.tk/\(IQ s0 l s).A=s.A
 | [],s=>⟨rfl,rfl,rfl⟩|(i,sh)::l,s=>by simp only[IQ];have:=YV s0 l (match V.JA sh (s0.get i)with| []=>s|_=>s.set (some i) (V.frz s0 sh (s0.get i)));refine⟨this.1.trans ?_,this.2.1.trans ?_,this.2.2.trans ?_⟩ <;> (split <;> rfl)
theorem mH {Γ':G} {tmps:Array Value} {s0:S} {js:List Nat} (h0:∀i sh,(∀j∈V.JA sh (s0.get i),j∈js)->AE Γ' (V.frz s0 sh (s0.get i)) (tmps.getD i undef)):∀(l:List (Nat × Sh)) (s:S),(∀j∈IP s0 l,j∈js)->(∀i,AE Γ' (s.get i) (tmps.getD i undef))->∀i,AE Γ' ((IQ s0 l s).get i) (tmps.getD i undef)
 | [],s,_,h=>h|(i,sh)::l,s,hk,h=>by simp only[IQ];simp only[IP,ic]at hk;refine mH h0 l _ (fun j hj=>hk j (.inr hj)) fun m=>?_;split;{exact h m};{rw[Jl];split;{rename_i e;cases e;exact h0 i sh fun j hj=>hk j (.inl hj)};{exact h m}}
theorem ba {X:Cx} {n:Nat} {Γ0:G} {a:Act} {w:World} {sh:SSh} {s:S} (h:At X n Γ0 s a w):At X n Γ0 (Jk sh s) a w:=by unfold Jk;split;{exact h};{obtain⟨Γ,g1,g3,c,hs,hn,hf,hA⟩:=h;obtain⟨Γ',g,p,c',hcv⟩:=Uc (IP s sh.env) s c;have hl:=YV s sh.env (Ds (IP s sh.env) s);have hE:=Qx (IP s sh.env) s;refine⟨Γ',g1.trans g,g.gl.trans g3,c'.congr (fun k=>?_) (fun t=>?_) (fun t ht=>?_),?_,hn,hf,by rw[hl.2.2,hE.2];exact hA⟩;{unfold jo;rw[hl.1,hl.2.2]};{unfold S.live;rw[hl.2.1]};{unfold S.known at ht ⊢;rw[hl.2.1];exact ht};{refine mH (js:=IP s sh.env) (fun i sh' hk=>AE.frz p hcv (hs i) hk) sh.env _ (fun j hj=>hj) fun i=>?_;exact LG hE.1 (hs.Bd p) i}}
mutual
theorem V.oY (s:S) (A':Key->Option O):∀x:V,x.Ey (s.wA A')=x.Ey s
 | .agg τ vs=>by simp only[V.Ey];rw[V.pB s A' vs]
 | .d _ _| .sl _ _ _ _| .ts _ _ _| .emp _ _| .wk| .ptr _ _ _| .wm _ _| .mp _| .fn _ _| .top _| .any| .tup _| .sr _ _ _ _ _ _ _=>by simp only[V.Ey];exact pE s A' _
theorem V.pB (s:S) (A':Key->Option O):∀xs:List V,V.Gm (s.wA A') xs=V.Gm s xs
 | []=>rfl|x::xs=>by simp only[V.Gm];rw[V.oY s A' x,V.pB s A' xs]
end
mutual
theorem V.mJ (s:S) (A':Key->Option O):∀(sh:Sh) (x:V),V.frz (s.wA A') sh x=V.frz s sh x
 | .d _,x=>by simp only[V.frz];exact V.oY s A' x
 | .agg _ l,x=>by simp only[V.frz];split <;> (try rfl);rw[V.mL s A' l]
 | .sl _ _ _,x| .ts _ _,x| .sr _ _ _ _ _,x| .wm _,x| .arr _,x| .as _,x| .vec _ _ _,x| .fnc _ _,x=>by simp only[V.frz]
theorem V.mL (s:S) (A':Key->Option O):∀(l:List Sh) (xs:List V),V.Ev (s.wA A') l xs=V.Ev s l xs
 | [],xs=>by simp only[V.Ev]
 |_::_,[]=>by simp only[V.Ev]
 |sh::l,x::xs=>by simp only[V.Ev];rw[V.mJ s A' sh x,V.mL s A' l xs]
end
theorem kP (s:S) (A':Key->Option O):∀l:List (Nat × Sh),IP (s.wA A') l=IP s l
 | []=>rfl|(i,sh)::l=>by simp only[IP];rw[kP s A' l];rfl
theorem mI (s0:S) (A':Key->Option O):∀(l:List (Nat × Sh)) (s:S),IQ (s0.wA A') l (s.wA A')=(IQ s0 l s).wA A'
 | [],_=>rfl|(i,sh)::l,s=>by simp only[IQ];rw[<-mI s0 A' l];congr 1;show(match V.JA sh (s0.get i)with| []=>s.wA A'|_=>(s.wA A').set (some i) (V.frz (s0.wA A') sh (s0.get i)))=_;rw[V.mJ];split <;> rfl
theorem q1R (sh:SSh) (s:S) (A':Key->Option O):Jk sh (s.wA A')=(Jk sh s).wA A':=by unfold Jk;rw[kP];split;{rfl};{rw[ZM];exact mI s A' sh.env _}
end
def HZ {R:Type}:Key->(Key->Option R)->Option R
 | .l 0,K=>K (.l 0)| .l (n+1),K=>K (.l (n+1))| .g k,K=>HZ k fun k=>K (.g k)
theorem Kd {R:Type}:∀(k:Key) (K:Key->Option R),HZ k K=K k
 | .l 0,K=>rfl| .l (n+1),K=>rfl| .g k,K=>by simp only[HZ,Kd k]
mutual
def Hb {R:Type}:V->(V->Option R)->Option R
 | .d τ c,K=>K (.d τ c)| .sl eb e cs t,K=>K (.sl eb e cs t)| .ts eb e cs,K=>K (.ts eb e cs)| .emp eb e,K=>K (.emp eb e)| .wk,K=>K .wk| .ptr k q τ,K=>HZ k fun k=>K (.ptr k q τ)| .wm τ c,K=>K (.wm τ c)| .sr k q lo n cp eb e,K=>HZ k fun k=>K (.sr k q lo n cp eb e)| .mp k,K=>HZ k fun k=>K (.mp k)| .agg τ l,K=>Nq l fun l=>K (.agg τ l)| .fn f l,K=>K (.fn f l)| .tup l,K=>Nq l fun l=>K (.tup l)| .top τ,K=>K (.top τ)| .any,K=>K .any
def Nq {R:Type}:List V->(List V->Option R)->Option R
 | [],K=>K []|x::l,K=>Hb x fun x=>Nq l fun l=>K (x::l)
end
mutual
theorem QY {R:Type}:∀(x:V) (K:V->Option R),Hb x K=K x
 | .d _ _,_| .sl _ _ _ _,_| .ts _ _ _,_| .emp _ _,_| .wk,_| .wm _ _,_| .fn _ _,_| .top _,_| .any,_=>by simp only[Hb]
 | .ptr k q τ,K=>by simp only[Hb,Kd]
 | .sr k q lo n cp eb e,K=>by simp only[Hb,Kd]
 | .mp k,K=>by simp only[Hb,Kd]
 | .agg τ l,K=>by simp only[Hb,YS l]
 | .tup l,K=>by simp only[Hb,YS l]
theorem YS {R:Type}:∀(l:List V) (K:List V->Option R),Nq l K=K l
 | [],K=>by simp only[Nq]
 |x::l,K=>by simp only[Nq,QY x,YS l]
end
def Tz {R:Type}:List (Nat × V)->(List (Nat × V)->Option R)->Option R
 | [],K=>K []|(i,x)::l,K=>Hb x fun x=>Tz l fun l=>K ((i,x)::l)
theorem lY {R:Type}:∀(l:List (Nat × V)) (K:List (Nat × V)->Option R),Tz l K=K l
 | [],K=>rfl|(i,x)::l,K=>by simp only[Tz,QY,lY l]
def QT {R:Type}:List (Key × O)->(List (Key × O)->Option R)->Option R
 | [],K=>K []|(k,.box x)::l,K=>HZ k fun k=>Hb x fun x=>QT l fun l=>K ((k,.box x)::l)|(k,o)::l,K=>HZ k fun k=>QT l fun l=>K ((k,o)::l)
theorem lZ {R:Type}:∀(l:List (Key × O)) (K:List (Key × O)->Option R),QT l K=K l
 | [],K=>rfl|(k,o)::l,K=>by cases o <;> simp only[QT,Kd,QY,lZ l]
def QX {R:Type}:List (Nat × Option Nat)->(List (Nat × Option Nat)->Option R)->Option R
 | [],K=>K []|(i,none)::l,K=>QX l fun l=>K ((i,none)::l)|(i,some n)::l,K=>QX l fun l=>K ((i,some n)::l)
theorem mF {R:Type}:∀(l:List (Nat × Option Nat)) (K:List (Nat × Option Nat)->Option R),QX l K=K l
 | [],K=>rfl|(i,o)::l,K=>by cases o <;> simp only[QX,mF l]
def frc {R:Type} (s:S) (K:S->Option R):Option R:=
 match s with
 |⟨env,loc,A,tk⟩=>Tz env fun env=>QT loc fun loc=>QX tk fun tk=>K ⟨env,loc,A,tk⟩
theorem YT {R:Type} (s:S) (K:S->Option R):frc s K=K s:=by unfold frc;simp only[lY,lZ,mF]
def Np {R:Type}:List Cap->(List Cap->Option R)->Option R
 | [],K=>K []| .c τ::l,K=>Np l fun l=>K (.c τ::l)| .v x::l,K=>Hb x fun x=>Np l fun l=>K (.v x::l)
theorem YP {R:Type}:∀(l:List Cap) (K:List Cap->Option R),Np l K=K l
 | [],K=>rfl| .c τ::l,K=>by simp only[Np,YP l]
 | .v x::l,K=>by simp only[Np,QY,YP l]
mutual
def Iz {R:Type}:Sh->(Sh->Option R)->Option R
 | .sr k q cp eb e,K=>HZ k fun k=>K (.sr k q cp eb e)| .vec k eb e,K=>HZ k fun k=>K (.vec k eb e)| .agg τ l,K=>QW l fun l=>K (.agg τ l)| .as v,K=>Hb v fun v=>K (.as v)| .d τ,K=>K (.d τ)| .sl eb e t,K=>K (.sl eb e t)| .ts eb e,K=>K (.ts eb e)| .wm τ,K=>K (.wm τ)| .arr e,K=>K (.arr e)| .fnc f l,K=>Np l fun l=>K (.fnc f l)
def QW {R:Type}:List Sh->(List Sh->Option R)->Option R
 | [],K=>K []|x::l,K=>Iz x fun x=>QW l fun l=>K (x::l)
end
mutual
theorem YR {R:Type}:∀(x:Sh) (K:Sh->Option R),Iz x K=K x
 | .d _,_| .sl _ _ _,_| .ts _ _,_| .wm _,_| .arr _,_=>by simp only[Iz]
 | .sr _ _ _ _ _,K=>by simp only[Iz,Kd]
 | .vec _ _ _,K=>by simp only[Iz,Kd]
 | .as v,K=>by simp only[Iz,QY]
 | .fnc f l,K=>by simp only[Iz,YP]
 | .agg τ l,K=>by simp only[Iz,mD l]
theorem mD {R:Type}:∀(l:List Sh) (K:List Sh->Option R),QW l K=K l
 | [],K=>by simp only[QW]
 |x::l,K=>by simp only[QW,YR x,mD l]
end
def UA {R:Type}:List (Nat × Sh)->(List (Nat × Sh)->Option R)->Option R
 | [],K=>K []|(i,x)::l,K=>Iz x fun x=>UA l fun l=>K ((i,x)::l)
theorem mB {R:Type}:∀(l:List (Nat × Sh)) (K:List (Nat × Sh)->Option R),UA l K=K l
 | [],K=>rfl|(i,x)::l,K=>by simp only[UA,YR,mB l]
def QU {R:Type}:List (Key × OSh)->(List (Key × OSh)->Option R)->Option R
 | [],K=>K []|(k,.box x)::l,K=>HZ k fun k=>Iz x fun x=>QU l fun l=>K ((k,.box x)::l)|(k,o)::l,K=>HZ k fun k=>QU l fun l=>K ((k,o)::l)
theorem mC {R:Type}:∀(l:List (Key × OSh)) (K:List (Key × OSh)->Option R),QU l K=K l
 | [],K=>rfl|(k,o)::l,K=>by cases o <;> simp only[QU,Kd,YR,mC l]
def QV {R:Type} (s:SSh) (K:SSh->Option R):Option R:=
 match s with
 |⟨env,loc⟩=>UA env fun env=>QU loc fun loc=>K ⟨env,loc⟩
theorem YQ {R:Type} (s:SSh) (K:SSh->Option R):QV s K=K s:=by unfold QV;simp only[mB,mC]
def gX:List V->Bool
 | []=>false| .wm _ _::_=>true|_::l=>gX l
def XC:List V->List Cap
 | []=>[]| .wm τ _::l=>.c τ::XC l|x::l=>.v x::XC l
mutual
def V.Sv:V->Sh
 | .d τ _=>(match τ with| .ptr=>.as (.d .ptr .nil)| .map=>.as (.d .map .nil)| .func=>.as (.d .func .nil)|τ=>.d τ)| .sl eb e _ _=>.d (.slice eb e)| .ts eb e _=>.ts eb e| .sr k q _ _ cp eb e=>(match q,cp with| [],none=>.vec k eb e|q,cp=>.sr k q cp.isSome eb e)| .wm τ _=>.wm τ| .agg τ vs=>.agg τ (V.fD vs)| .tup _=>.as .any| .fn f vs=>bif gX vs then .fnc f (XC vs)else .as (.fn f vs)|x=>.as x
def V.fD:List V->List Sh
 | []=>[]|x::xs=>x.Sv::V.fD xs
end
mutual
def V.Qk:V->List Key
 | .ptr k _ _| .mp k| .sr k _ _ _ _ _ _=>[k]| .agg _ vs| .fn _ vs| .tup vs=>V.nQ vs|_=>[]
def V.nQ:List V->List Key
 | []=>[]|x::xs=>x.Qk++V.nQ xs
end
def O.Qk:O->List Key
 | .box x=>x.Qk| .map _ _ _=>[]| .it _ _| .dead _=>[]
def Ui:Key->List Key->Bool
 |_,[]=>false|k,j::l=>if j=k then true else Ui k l
def Vb (s:S):Nat->List Key->List Key->List Key
 |0,_,acc=>acc|_,[],acc=>acc|f+1,k::ks,acc=>if Ui k acc=true then Vb s f ks acc else(match s.obj k with|some o=>Vb s f (o.Qk++ks) (acc++[k])|none=>Vb s f ks acc)
structure Hint where
 live:List Nat
 new:List (Nat × Sh)
 roots:List Key
 obs:List (Key × OSh)
 drop:List Key
 z4u:List Ty:=[]
def kS (s:S):List Nat->List Key
 | []=>[]|i::l=>(s.get i).Qk++kS s l
def Wa (s:S):List Nat->List (Nat × Sh)
 | []=>[]|i::l=>(match s.get i with| .any=>Wa s l|x=>(i,x.Sv)::Wa s l)
def Nu (e:Ty):List Ty->Bool
 | []=>false|t::l=>if uk t e=true then true else Nu e l
def TQ:Key->Nat
 | .l n=>2*n| .g k=>2*TQ k+1
def V1:Nat:=1000000000000
mutual
def Sh.eO (ts:List Ty):Nat->Sh->V->Sh
 |b,.vec (.g k) eb e,_=>if Nu e ts=true then .vec (.l (V1+8*TQ (.g k)+2)) eb e else .vec (.g k) eb e|b,.as v,_=>(match v with| .emp eb e=>if Nu e ts=true then .vec (.l b) eb e else .as v|v=>.as v)|b,.ts eb e,x=>(match x with| .emp _ _=>if Nu e ts=true then .vec (.l b) eb e else .ts eb e|_=>.ts eb e)|b,.agg τ l,x=>(match x with| .agg _ xs=>.agg τ (Sh.yQ ts (64*b) l xs)|_=>.agg τ l)|_,s,_=>s
def Sh.yQ (ts:List Ty):Nat->List Sh->List V->List Sh
 |b,s::l,x::xs=>Sh.eO ts b s x::Sh.yQ ts (b+1) l xs|_,_,_=>[]
end
mutual
def Sh.eQ:Sh->List (Key × OSh)
 | .vec (.l a) _ e=>if V1<=a then[(.l a,.box (.arr e))]else[]| .agg _ l=>Sh.yW l|_=>[]
def Sh.yW:List Sh->List (Key × OSh)
 | []=>[]|s::l=>s.eQ++Sh.yW l
end
def kU (s:S) (ts:List Ty):List (Nat × Sh)->List (Nat × Sh)
 | []=>[]|(i,sh)::l=>(i,sh.eO ts (V1+8*i+3) (s.get i))::kU s ts l
def OD (s:S) (ts:List Ty):List (Key × OSh)->List (Key × OSh)
 | []=>[]|(k,.box sh)::l=>(match k,sh with| .g k,.arr e=>if Nu e ts=true then(.g k,.dead e)::(.l (V1+8*TQ (.g k)+2),.box (.arr e))::OD s ts l else(.g k,.box sh)::OD s ts l|k,sh=>(match s.obj k with|some (.box x)=>(k,.box (sh.eO ts (V1+8*TQ k+1) x))::OD s ts l|_=>(k,.box sh)::OD s ts l))|p::l=>p::OD s ts l
def kV:List (Nat × Sh)->List (Key × OSh)
 | []=>[]|(_,sh)::l=>sh.eQ++kV l
def ZT:List (Key × OSh)->List (Key × OSh)
 | []=>[]|(_,.box sh)::l=>sh.eQ++ZT l|_::l=>ZT l
def Wc:List (Key × OSh)->List (Key × OSh)->List (Key × OSh)
 | [],acc=>acc|(k,o)::l,acc=>if Km acc k=true then Wc l acc else Wc l (acc++[(k,o)])
def q8j (s:S) (ts:List Ty) (sh:SSh):SSh:=
 match ts with
 | []=>sh|ts=>(match kU s ts sh.env,OD s ts sh.loc with|env,loc=>⟨env,Wc (kV env++ZT loc) loc⟩)
def KP (s:S) (h:Hint):List Key->List (Key × OSh)
 | []=>[]
 |k::l=>if Ui k h.drop=true then KP s h l else if Km h.obs k=true then KP s h l else(match s.obj k with|some (.box x)=>(k,.box (match x with| .d (.arr M e) _=>(match k,M with|_,_=>if Nu e h.z4u=true then .arr e else .d (.arr M e))| .d τ _=>.d τ|x=>(match h.z4u with| []=>bif (CF x).isSome then .d x.ty else x.EE.Sv|_=>x.Sv)))::KP s h l|some (.map kτ vτ _)=>(k,.map kτ vτ)::KP s h l|some (.it _ _)=>(k,.it)::KP s h l|some (.dead (.arr _ e))=>(k,.dead e)::KP s h l|_=>KP s h l)
def Xh:List (Key × O)->List Key
 | []=>[]|(.g k,.dead _)::l=>.g k::Xh l|_::l=>Xh l
def Zr (h:Hint) (s:S):SSh:=
 q8j s h.z4u ⟨Wa s h.live++h.new,h.obs++KP s h (Vb s 1000 (kS s h.live++h.roots) []++Xh s.loc)⟩
def Lp:List (Key × OSh)->S->S
 | [],s=>s|(k,.box _)::l,s=>(match s.obj k with|some (.box x)=>Lp l (s.put k (.box x.EE))|_=>Lp l s)|_::l,s=>Lp l s
def JS:List (Nat × Sh)->S->S
 | [],s=>s|(i,sh)::l,s=>(match sh with| .sl eb e t=>(match s.get i with| .wk=>if s.known t=false then JS l (S.set {s with tk:=(t,some 0)::s.tk} (some i) (.sl eb e [] t))else JS l s| .emp eb' e'=>if eb'=eb/\e'=e/\s.known t=false then JS l (S.set {s with tk:=(t,some 0)::s.tk} (some i) (.sl eb e [] t))else JS l s|_=>JS l s)|_=>JS l s)
mutual
def V.un:V->V->List (Nat × Nat)
 | .ptr (.l a) _ _,.ptr (.l b) _ _=>[(b,a)]| .mp (.l a),.mp (.l b)=>[(b,a)]| .fn _ l,.fn _ l'=>V.uns l l'| .tup l,.tup l'=>V.uns l l'|_,_=>[]
def V.uns:List V->List V->List (Nat × Nat)
 |x::xs,y::ys=>V.un x y++V.uns xs ys|_,_=>[]
end
def XB:List Cap->List V->List (Nat × Nat)
 | .v y::l,x::xs=>V.un y x++XB l xs| .c _::l,_::xs=>XB l xs|_,_=>[]
mutual
def Sh.un:Sh->V->List (Nat × Nat)
 | .sr (.l a) _ _ _ _,.sr (.l b) _ _ _ _ _ _=>[(b,a)]| .vec (.l a) _ _,.sr (.l b) _ _ _ _ _ _=>[(b,a)]| .as v,x=>V.un v x| .fnc _ l,.fn _ xs=>XB l xs| .agg _ l,.agg _ xs=>Sh.uns l xs|_,_=>[]
def Sh.uns:List Sh->List V->List (Nat × Nat)
 |s::l,x::xs=>s.un x++Sh.uns l xs|_,_=>[]
end
def eD (s:S):List (Nat × Sh)->List (Nat × Nat)
 | []=>[]|(i,sh)::l=>sh.un (s.get i)++eD s l
def WL (s:S):List (Nat × Sh)->List (Nat × Nat)
 | []=>[]|(i,sh)::l=>(match sh,s.get i with| .sl _ _ t,.sl _ _ _ t'=>(t',t)::WL s l|_,_=>WL s l)
def ZY:List (Key × OSh)->Key->Option OSh
 | [],_=>none|(j,x)::l,k=>if j=k then some x else ZY l k
def yH (s:S) (l:List (Key × OSh)) (b a:Key):List (Nat × Nat):=
 match ZY l a,s.obj b with
 |some (.box sh),some (.box x)=>sh.un x|_,_=>[]
def unG (s:S) (l0:List (Key × OSh)):List (Key × OSh)->List (Nat × Nat)
 | []=>[]|(.g k,_)::l=>yH s l0 (.g k) (.g k)++unG s l0 l|(.l _,_)::l=>unG s l0 l
def WJ (s:S) (l:List (Key × OSh)):Nat->List (Nat × Nat)->List (Nat × Nat)->List (Nat × Nat)
 |0,_,acc=>acc|_,[],acc=>acc|f+1,(b,a)::todo,acc=>(match look acc b with|some _=>WJ s l f todo acc|none=>WJ s l f (yH s l (.l b) (.l a)++todo) ((b,a)::acc))
def PS:List (Nat × Nat)->Bool
 | []=>true|(a,b)::l=>dj a b&&PS l
def NB (l:List (Nat × Nat)) (n:Nat):Nat:=(look l n).getD (n+1000000000)
def Sf (s:S):List (Nat × Sh)->Bool
 | []=>false|(i,sh)::l=>(match sh,s.get i with| .sl _ _ t,.wk=>s.known t||Sf s l| .sl _ _ t,.emp _ _=>s.known t||Sf s l|_,_=>Sf s l)
def VX (sh:SSh) (s:S):S:=
 match WJ s sh.loc 1000 (eD s sh.env++unG s sh.loc sh.loc) [],WL s sh.env with
 |ps,ts=>bif PS ps&&PS ts&& !Sf s sh.env then s
  else bif Jo (NB ps) (FZ s.loc)&&Jo (NB ts) (Fi s.tk)then s.ren (NB ps) (NB ts)else s
mutual
def Sh.ad:Sh->V->List (Key × Nat)
 | .vec (.l a) _ _,.sr (.g b) _ _ _ _ _ _=>[(.g b,a+T0)]| .agg _ l,.agg _ xs=>Sh.ads l xs|_,_=>[]
def Sh.ads:List Sh->List V->List (Key × Nat)
 |s::l,x::xs=>s.ad x++Sh.ads l xs|_,_=>[]
end
def fE (s:S):List (Nat × Sh)->List (Key × Nat)
 | []=>[]|(i,sh)::l=>sh.ad (s.get i)++fE s l
def Sw (s:S):List (Key × OSh)->List (Key × Nat)
 | []=>[]|(k,.box sh)::l=>(match s.obj k with|some (.box x)=>sh.ad x++Sw s l|_=>Sw s l)|_::l=>Sw s l
def nR {α:Type}:List (Key × α)->List Key
 | []=>[]|(k,_)::l=>k::nR l
def Wd (ks:List Key):List (Key × Nat)->S->S
 | [],s=>s|(K,t)::l,s=>Wd ks l (PR K t ks s)
def fR:List (Key × OSh)->Bool
 | []=>false|(_,.box (.arr _))::_=>true|_::l=>fR l
def WM (sh:SSh) (s:S):S:=
 match fR sh.loc with
 |false=>s|true=>(match Wd (nR sh.loc) (fE s sh.env++Sw s sh.loc) s with|s=>Mi sh.loc (Si sh.env s))
def Iw {R:Type} (sh:SSh) (s:S) (K:List C->List Es->Option R):Option R:=
 frc (Jk sh s) fun s=>frc (WM sh s) fun s=>frc (JS sh.env (Lp sh.loc (VX sh s))) fun s=>TU sh s K
theorem X3 {R:Type} (sh:SSh) (s:S) (K:List C->List Es->Option R):Iw sh s K=TU sh (JS sh.env (Lp sh.loc (VX sh (WM sh (Jk sh s))))) K:=by unfold Iw;simp only[YT]
def WkA (s s':S):Prop:=s'.A=s.A/\∀(X:Cx) (n:Nat) (A':Key->Option O),leA s.A A'->Dd X n (s.wA A') (s'.wA A')
theorem WkA.refl (s:S):WkA s s:=⟨rfl,fun _ _ _ _=>Dd.refl _⟩
theorem WkA.trans {a b c:S} (h:WkA a b) (h':WkA b c):WkA a c:=
 ⟨h'.1.trans h.1,fun X n A' hA=>(h.2 X n A' hA).trans (h'.2 X n A' (by rw[h.1];exact hA))⟩
theorem Tj:∀(l:List (Key × OSh)) (s:S),WkA s (Lp l s)
 | [],s=>WkA.refl s|(k,.box _)::l,s=>by simp only[Lp];split;{rename_i x hx;exact WkA.trans (b:=s.put k (.box x.EE)) ⟨rfl,fun X n A' hA=>q8p (DT hA hx)⟩ (Tj l _)};{exact Tj l s}
 |(_,.map _ _)::l,s|(_,.dead _)::l,s|(_,.it)::l,s=>Tj l s
theorem Mf:∀(l:List (Nat × Sh)) (s:S),WkA s (JS l s)
 | [],s=>WkA.refl s|(i,sh)::l,s=>by
  simp only[JS];split
  ·rename_i eb e t
   have one:∀(hu:s.known t=false) (ht:s.get i= .wk\/s.get i= .emp eb e),WkA s (S.set {s with tk:=(t,some 0)::s.tk} (some i) (.sl eb e [] t)):=fun hu ht=>
    ⟨rfl,fun X n A' hA=>q8s (s:=s.wA A') hu ht⟩
   split;{rename_i hx;split;{rename_i hu;exact(one hu (.inl hx)).trans (Mf l _)};{exact Mf l s}};{rename_i eb' e' hx;split;{rename_i hu;obtain⟨rfl,rfl,hu⟩:=hu;exact(one hu (.inr hx)).trans (Mf l _)};{exact Mf l s}};{exact Mf l s}
  ·exact Mf l s
theorem q5Q (sh:SSh) (s:S):WkA s (VX sh s):=by unfold VX;dsimp only;generalize WJ s sh.loc 1000 (eD s sh.env++unG s sh.loc sh.loc) []=ps;generalize WL s sh.env=ts;cases PS ps&&PS ts&& !Sf s sh.env;{cases hi:Jo (NB ps) (FZ s.loc)&&Jo (NB ts) (Fi s.tk);{exact WkA.refl s};{simp only[bz]at hi;exact⟨rfl,fun X n A' _=>q8r (s:=s.wA A') _ _ hi.1 hi.2⟩}};{exact WkA.refl s}
theorem fH (ks:List Key):∀(l:List (Key × Nat)) (s:S),WkA s (Wd ks l s)
 | [],s=>WkA.refl s|(K,t)::l,s=>WkA.trans (b:=PR K t ks s) (ag K t ks s) (fH ks l _)
theorem bc {X:Cx} {n:Nat} {Γ0:G} {t:Nat} {e:Ty} {a:Act} {w:World} {s:S} (ht:s.obj (.l t)=none) (h:At X n Γ0 s a w):At X n Γ0 (s.put (.l t) (.box (.d (.arr 0 e) (.agg [])))) a w:=by obtain⟨Γ,g1,g3,c,hs,hn,hf,hA⟩:=h;refine⟨Γ,g1,g3,⟨c.hH,c.hZ,c.hκ,fun j o hj=>?_,fun j hj=>?_,c.Jp (fun j hj=>?_),c.tok,c.xg,c.hgl,c.hoo,c.hσ⟩,hs,hn,hf,hA⟩;{rw[Db]at hj;split at hj;{rename_i e1;subst e1;cases hj;exact .inl ⟨c.PN ht,e,rfl⟩};{exact c.obj j o hj}};{rw[Db];split;{simp};{exact c.dom j hj}};{unfold S.Br at hj ⊢;rw[Db];split;{rename_i e1;subst e1;rw[ht]at hj;cases hj};{exact hj}}
theorem WO:∀(l:List (Nat × Ty)) (s:S),WkA s (PJ l s)
 | [],s=>WkA.refl s|(t,e)::l,s=>by
  simp only[PJ];split
  ·rename_i h;have h':s.obj (.l t)=none:=by simpa using h
   exact WkA.trans (b:=s.put (.l t) (.box (.d (.arr 0 e) (.agg [])))) ⟨rfl,fun X n A' hA Γ0 a w hat=>bc (s:=s.wA A') (by rw[Jy];exact h') hat⟩ (WO l _)
  ·exact WO l s
theorem AE.DQ {Γ:G} {sh:Sh} {x:V} {v:Value} (h:AE Γ x v):AE Γ (V.DQ sh x) v:=by
 by_cases hp:x.plain=true;{obtain⟨h1,h2⟩:=(Bt hp).1 h;exact(Bt (by rw[V.yN];exact hp)).2 ⟨AA.DQ sh x h1,by rw[V.Sk];exact h2⟩}
 ·have:V.DQ sh x=x:=by cases x <;> simp[V.plain]at hp <;> (unfold V.DQ;split <;> rfl)
  rw[this];exact h
theorem AE.LK {Γ:G} {sh:Sh} {x:V} {v:Value} (h:AE Γ x v):AE Γ (V.LK sh x) v:=by unfold V.LK;split;{have:=FO h;subst this;exact Vg};{exact h.DQ}
theorem eJ:∀(l:List (Nat × Sh)) (s:S),WkA s (Si l s)
 | [],s=>WkA.refl s|(i,sh)::l,s=>by simp only[Si];split;{exact eJ l s};{refine WkA.trans (b:=s.set (some i) (V.LK sh (s.get i))) ⟨rfl,fun X n A' hA Γ0 a w hat=>?_⟩ (WkA.trans (WO _ _) (eJ l _));obtain⟨Γ,g1,g3,c,hs,hn,hf,hA⟩:=hat;refine⟨Γ,g1,g3,show AJ Γ w ((s.wA A').set (some i) (V.LK sh (s.get i))) from Pf c _ _,fun j=>?_,hn,hf,hA⟩;have hj:=hs j;show AE Γ (S.get (S.set (s.wA A') (some i) (V.LK sh (s.get i))) j) _;rw[Jl];split;{rename_i e;cases e;exact AE.LK hj};{exact hj}}
theorem Sj:∀(l:List (Key × OSh)) (s:S),WkA s (Mi l s)
 | [],s=>WkA.refl s|(k,.box sh)::l,s=>by
  simp only[Mi];split
  ·rename_i x hx;split;{exact Sj l s}
   ·refine WkA.trans (b:=s.put k (.box (V.DQ sh x))) ⟨rfl,fun X n A' hA Γ0 a w hat=>?_⟩ (WkA.trans (WO _ _) (Sj l _));obtain⟨Γ,g1,g3,c,hs,hn,hf,xo⟩:=hat;refine⟨Γ,g1,g3,c.cD (DT hA hx) (fun xb=>?_) (fun hv=>?_),hs,hn,hf,xo⟩;{obtain⟨b,cells,T,h1,h2,h3,h4,h5,h6,h7,h8⟩:=xb;exact⟨b,cells,T,by rw[V.Sk];exact h1,h2,h3,h4,by rw[V.Sk];exact h5,by rw[V.Sk];exact AA.DQ sh x h6,by rw[V.yN];exact h7,by rw[V.yM];exact h8⟩}
    ·obtain⟨e,rfl⟩:=hv;have:V.DQ sh (.d (.arr 0 e) (.agg []))= .d (.arr 0 e) (.agg []):=by unfold V.DQ;split <;> rfl
     rw[this];exact⟨e,rfl⟩
  ·exact Sj l s
 |(_,.map _ _)::l,s|(_,.dead _)::l,s|(_,.it)::l,s=>Sj l s
theorem q8i (sh:SSh) (s:S):WkA s (WM sh s):=by unfold WM;split;{exact WkA.refl s};{exact((fH _ _ s).trans (eJ _ _)).trans (Sj _ _)}
theorem q1Q (sh:SSh) (s:S):WkA s (Jk sh s):=by refine⟨?_,fun X n A' hA Γ0 a w hat=>?_⟩;{unfold Jk;split;{rfl};{rw[(YV _ _ _).2.2,(Qx _ _).2]}};{rw[<-q1R];exact ba hat}
def nbV:V->V
 | .d τ c=>(match τ with| .bool=>.d .bool (.bool c.toBool)|τ=>.d τ c)|x=>x
def nbE:List (Nat × V)->List (Nat × V)
 | []=>[]|(i,x)::l=>(i,nbV x)::nbE l
def nbS (s:S):S:={s with env:=nbE s.env}
theorem q4w {Γ:G} {x:V} {v:Value} (h:AE Γ x v):AE Γ (nbV x) v:=by cases x <;> (try exact h);rename_i τ c;cases τ <;> (try exact h);obtain⟨_,e⟩:=FM h;rw[e]at h;exact h
theorem pS:∀(l:List (Nat × V)) (i:Nat),look (nbE l) i=(look l i).map nbV
 | [],_=>rfl|(j,x)::l,i=>by simp only[nbE,look];by_cases e:j=i;{rw[if_pos e,if_pos e];rfl};{rw[if_neg e,if_neg e];exact pS l i}
theorem rH (s:S):WkA s (nbS s):=by
 refine⟨rfl,fun X n A' _=>?_⟩;rintro Γ0 a w ⟨Γ,g1,g3,c,hs,hn,hf,hA⟩;refine⟨Γ,g1,g3,c.env _,fun i=>?_,hn,hf,hA⟩;have:=hs i;have e:((nbS s).wA A').get i=nbV ((s.wA A').get i):=by show(look (nbE s.env) i).getD .any=nbV ((look s.env i).getD .any);rw[pS];cases look s.env i <;> rfl
 rw[e];exact q4w this
def GM (sh:SSh) (A:Key->Option O) (ds:List C) (ms:List Es):S:=nbS (Jj sh A ds ms)
theorem Pd {R:Type} {r:R} {sh:SSh} {s:S} {K:List C->List Es->Option R} (h:Iw sh s K=some r):∃ds ms,K ds ms=some r/\WkA s (GM sh s.A ds ms):=by
 have key:∃ds ms,K ds ms=some r/\WkA s (Jj sh s.A ds ms):=by rw[X3]at h;obtain⟨ds,ms,h1,h2⟩:=X4 h;have h3:=((((q1Q sh s).trans (q8i sh _)).trans (q5Q sh _)).trans (Tj sh.loc _)).trans (Mf sh.env _);refine⟨ds,ms,h1,rfl,fun X n A' hA=>?_⟩;have:=(h3.2 X n A' hA).trans (h2 X n A' (by rw[h3.1];exact hA));exact this
 obtain⟨ds,ms,h1,h2⟩:=key;exact⟨ds,ms,h1,h2.trans (rH _)⟩
def Ra (j:Nat):List Nat->List Nat
 | []=>[]|i::l=>if i=j then Ra j l else i::Ra j l
def fxS (t j:Nat) (s:S):S:=⟨Ek s (Ra t (slotsOf s.env)),Fz s.loc (Ra j (FZ s.loc)) s.loc,s.A,Dc s (Fi s.tk)⟩
def fxB (t j:Nat) (s:S):Bool:=
 KQ (fxS t j s).loc&&FA (Bv (fxS t j s).loc) (Cu (fxS t j s).tk) (fxS t j s).loc&&IC (fxS t j s).loc s.loc&&Io (Bv (fxS t j s).loc) (Cu (fxS t j s).tk) (fxS t j s).env&& !(Bv (fxS t j s).loc j)
def YM (t:Nat) (s:S):S:=
 match s.get t with
 | .ptr (.l j) [] τ=>(match s.obj (.l j)with|some (.box x)=>(match CF x with|some cc=>if x.ty=τ/\fxB t j s=true then(fxS t j s).set (some t) (.wm τ cc)else s|none=>s)|_=>s)|_=>s
def XJ (t:Nat) (s:S):S:=
 match s.get t with
 | .ptr k [] _=>(match s.obj k with|some (.box x)=>(match x with| .d _ _=>s|x=>(match CF x with|some c=>s.put k (.box (.d x.ty c))|none=>s))|_=>s)|_=>s
theorem Q3 (t:Nat) (s:S):WkA s (XJ t s):=by
 unfold XJ;split
 ·split
  ·rename_i x hx;split;{exact WkA.refl s}
   ·split
    ·rename_i c hc;refine⟨rfl,fun X n A' hA Γ0 a w hat=>?_⟩;obtain⟨Γ,g1,g3,cc,hs,hn,hf,xo⟩:=hat;have hin:V.BQ x (.d x.ty c):=by cases x <;> first|exact⟨hc,rfl⟩|(simp[CF]at hc)
     refine⟨Γ,g1,g3,cc.cD (DT hA hx) (fun xb=>?_) (fun hv=>?_),hs,hn,hf,xo⟩;{obtain⟨b,cells,T,h1,h2,h3,h4,h5,h6,h7,h8⟩:=xb;exact⟨b,cells,T,h1,h2,h3,h4,h5,by have:=(AA.BQ _ _ hin h6).1;simp only[AA]at this ⊢;exact this,rfl,rfl⟩};{obtain⟨e,rfl⟩:=hv;simp only[CF,Option.some.injEq]at hc;subst hc;exact⟨e,rfl⟩}
    ·exact WkA.refl s
  ·exact WkA.refl s
 ·exact WkA.refl s
def ZL (t:Nat) (s:S):S:=
 match s.get t with
 | .sr (.l j) [] lo n _ eb e=>(match s.obj (.l j)with|some (.box (.d (.arr M e') cc))=>if e'=e then({s with loc:=(.l j,.dead (.arr M e))::s.loc}:S).set (some t) (.d (.slice eb e) (.slice ((cc.elems.drop lo).take n)))else s|_=>s)|_=>s
theorem q3y (t:Nat) (s:S):WkA s (ZL t s):=by
 unfold ZL;split;{rename_i j lo n cp eb e hs;split;{rename_i M e' cc ho;split;{rename_i he;subst he;refine⟨rfl,fun X n' A' hA Γ0 a w hat=>?_⟩;obtain⟨Γ,g1,g3,c,hsl,hn,hf,xo⟩:=hat;obtain⟨Γ',gle,p,c',h⟩:=c.oW (show(s.wA A').obj (.l j)=some (.box (.d (.arr M _) cc)) from ho);have xd:=hsl t;rw[show(s.wA A').get t=_ from hs]at xd;have hv:=h xd;refine⟨Γ',g1.trans gle,gle.gl.trans g3,Pf (s:=(({s with loc:=(.l j,.dead (.arr M _))::s.loc}:S).wA A')) c' (some t) _,fun i=>?_,hn,hf,xo⟩;rw[show((({s with loc:=(.l j,.dead (.arr M _))::s.loc}:S).set (some t) (.d (.slice eb _) (.slice ((cc.elems.drop lo).take n)))).wA A').get i=(({s with loc:=(.l j,.dead (.arr M _))::s.loc}:S).set (some t) (.d (.slice eb _) (.slice ((cc.elems.drop lo).take n)))).get i from rfl,Jl];split;{rename_i hi;cases hi;exact hv};{exact(hsl i).Bd p}};{exact WkA.refl s}};{exact WkA.refl s}};{exact WkA.refl s}
def Nn:List (Nat × Nat)->S->S
 | [],s=>s|(t,m)::l,s=>Nn l (if m=6 then YM t s else if m=16 then XJ t s else if m=17 then ZL (t-1000000) s else s)
theorem q1L (t:Nat) (s:S):WkA s (YM t s):=by
 unfold YM;split
 ·rename_i j τ hs;split
  ·rename_i x hx;split
   ·rename_i cc hcc;split
    ·rename_i h;obtain⟨hτ,h⟩:=h;simp only[fxB,bz,Bool.not_eq_true']at h;obtain⟨⟨⟨⟨h1,h2⟩,h3⟩,h4⟩,h5⟩:=h;refine⟨rfl,fun X n A' hA=>?_⟩;have xx:∀l,Ek (s.wA A') l=Ek s l:=by
      intro l
      induction l with
      |nil=>rfl|cons i l ih=>simp only[Ek,ih];rfl
     have htk:∀l,Dc (s.wA A') l=Dc s l:=by
      intro l
      induction l with
      |nil=>rfl|cons i l ih=>simp only[Dc,ih];rfl
     exact q8q (s:=s.wA A') (s':=(fxS t j s).wA A') hs (DT hA hx) hcc hτ h5 rfl (Ko (s:=s.wA A') _ h1) h2 (Mu h3)
      (by show tkW (s.wA A') (Dc s (Fi s.tk));rw[<-htk];exact WG)
      (by
       have h4':Io (Bv (fxS t j s).loc) (Cu (fxS t j s).tk) (Ek (s.wA A') (Ra t (slotsOf s.env)))=true:=by rw[xx];exact h4
       have:=Xz h4';rw[xx]at this;exact this)
    ·exact WkA.refl s
   ·exact WkA.refl s
  ·exact WkA.refl s
 ·exact WkA.refl s
theorem QS:∀(l:List (Nat × Nat)) (s:S),WkA s (Nn l s)
 | [],s=>WkA.refl s|(t,m)::l,s=>by simp only[Nn];split;{exact(q1L t s).trans (QS l _)};{split;{exact(Q3 t s).trans (QS l _)};{split;{exact(q3y _ s).trans (QS l _)};{exact QS l s}}}
end Go.E
